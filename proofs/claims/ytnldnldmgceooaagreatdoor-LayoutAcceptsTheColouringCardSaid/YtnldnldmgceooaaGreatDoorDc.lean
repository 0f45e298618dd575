/-
  THE LAYER: symbolic semantics of compiled code, and programs on typed data.
-/
import Derived.Test.YtnldnldmgceooaaGreatDoorDb
import Derived.KernelRfl
import Derived.ProofKit
import Derived.OpenShut
import Derived.Deep.Strs
namespace Go.Dw
inductive AP where
 | t (n : Nat)
 | c (a n : Nat) (agg : Bool)
def OM (P : Program) : ResultVar → Option AP
 | .tmp t=>some (.t t)
 | .cell a ty=>if Ck P ty then some (.c a (P.cellsOf ty) true) else if (P.underlying ty).isSome then some (.c a 1 false) else none
def OG : AP → R (Prop × D)
 | .t n=>do
  let (p,d) ← rdA (.t n)
  pure (p = true,d)
 | .c a n agg=>do
  let (p,d) ← rdA (.t a)
  let (c,e,off) ← OJ d
  pure (p = true ∧ c ∧ off + n ≤ (cells e).length,OI (cells e) off n agg)
def DX (r : AP) : R (Prop × D × List (Nat × Ac)):=do
 let (c,d) ← OG r
 let (c',d',w) ← res d
 pure (c ∧ c',d',w)
def Cc (s ty : Nat) (d : D) : R (Prop × D × List (Nat × Ac) × Nat) :=
 match d with
 | .optr g v i off=>.go g fun
  | some (v',o)=>do
   let (c,e',w) ← res (o.es.getD 0 .top)
   pure ((v = v' ∧ i = 0 ∧ off = 0 ∧ o.fz = false ∧ o.var = true ∧ o.es.length = 1 ∧ o.s = s ∧ o.ty = ty) ∧ c,e',w,g)
  | none=>.ret (False,.top,[],0)
 | _=>.ret (False,.top,[],0)
def Hm (s ty : Nat) (d : D) : R (Prop × D × List (Nat × Ac)) :=
 match d with
 | .optr g v i off=>.go g fun
  | some (v',o)=>do
   let (c,e',w) ← pas (Ab g) (o.es.getD 0 .top)
   pure ((v = v' ∧ i = 0 ∧ off = 0 ∧ o.fz = false ∧ o.var = true ∧ o.es.length = 1 ∧ o.s = s ∧ o.ty = ty) ∧ c,e',w)
  | none=>.ret (False,.top,[])
 | _=>.ret (False,.top,[])
def DW (r : Bool) (s ty : Nat) (d : D) : R (Prop × D × Nat) :=
 match d with
 | .osl g v i n=>.go g fun
  | some (v',o)=>.ret (v = v' ∧ i = 0 ∧ n ≤ o.es.length ∧ o.fz = false ∧ o.var = false ∧ o.s = s ∧ o.ty = ty ∧ Ab g = r ∧ (r = true → ∀ e ∈ o.es,∀ c ∈ cells e,∀ nm u m,c ≠ .hole nm u m),.sl (o.es.take n),g)
  | none=>.ret (False,.top,0)
 | _=>.ret (False,.top,0)
def AD : List AP → R (Prop × List D × List (Nat × Ac))
 | []=>.ret (True,[],[])
 | r :: rs=>do
  let (c,d,w) ← DX r
  let (c',ds,w') ← AD rs
  pure (c ∧ c',d :: ds,w ++ w')
def BE : List (Nat × (Nat × Nat)) → R (Prop × List D × List (Nat × Ac))
 | []=>.ret (True,[],[])
 | (j,(s,ty)) :: r=>do
  let (c,e,w) ← Hm s ty (.optr (8192 + j) j 0 0)
  let (c',es,w') ← BE r
  pure (c ∧ c',e :: es,w ++ w')
def Ec (ptr : List (Nat × (Nat × Nat))) : Nat → List D → List Nat
 | _,[]=>[]
 | j,_ :: r=>(match look ptr j with | some _=>[j] | none=>[]) ++ Ec ptr (j + 1) r
def BB (ptr : List (Nat × (Nat × Nat))) : Nat → List D → List Nat
 | _,[]=>[]
 | j,d :: r=>(match look ptr j with | some _=>[j] | none=>match d with | .clo _ caps=>Ec ptr (64 * (j + 1)) caps | _=>[]) ++ BB ptr (j + 1) r
def Dy (ptr : List (Nat × (Nat × Nat))) : Nat → List D → List D
 | _,[]=>[]
 | j,d :: r=>(match look ptr j with | some _=>.optr (8192 + j) j 0 0 | none=>d) :: Dy ptr (j + 1) r
def FE (ptr : List (Nat × (Nat × Nat))) (j : Nat) (d : D) : D :=
 match look ptr j with
 | some _=>.optr (8192 + j) j 0 0
 | none=>match d with | .clo f caps=>.clo f (Dy ptr (64 * (j + 1)) caps) | d=>d
def Di (ptr : List (Nat × (Nat × Nat))) : Nat → List D → List (Nat × D)
 | _,[]=>[]
 | j,d :: r=>(j,FE ptr j d) :: Di ptr (j + 1) r
def Ge (ptr : List (Nat × (Nat × Nat))) : Nat → List D → List (Nat × Ac)
 | _,[]=>[]
 | j,d :: r=>(match look ptr j with | some (s,ty)=>[(8192 + j,some (j,⟨false,true,s,ty,[d]⟩))] | none=>[]) ++ Ge ptr (j + 1) r
def Cu (ptr : List (Nat × (Nat × Nat))) : Nat → List D → List (Nat × Ac)
 | _,[]=>[]
 | j,d :: r=>(match look ptr j with | some (s,ty)=>[(8192 + j,some (j,⟨false,true,s,ty,[d]⟩))] | none=>match d with | .clo _ caps=>Ge ptr (64 * (j + 1)) caps | _=>[]) ++ Cu ptr (j + 1) r
def Dz (sp : Spec) (ds : List D) : S:=⟨Di sp.ptr 0 ds,Cu sp.ptr 0 ds,262144⟩
def Ew (ptr : List (Nat × (Nat × Nat))) : Bool:=(ptr.map Prod.fst).all (fun k=>Nat.blt k 262144) && decide (ptr.map Prod.fst).Nodup
def Ci (sp : Spec) (rs : List AP) (ds : List D) (τ : S) : Prop :=
 ((BE sp.ptr).run τ).1 ∧ ((BE sp.ptr).run τ).2.1 = sp.eff ds ∧
 match sp.kind,rs with
 | .val,[r] | .ground,[r]=>((DX r).run τ).1 ∧ ((DX r).run τ).2.1 = sp.res ds
 | .val,rs | .ground,rs=>((AD rs).run τ).1 ∧ .tup ((AD rs).run τ).2.1 = sp.res ds ∧ rs.length ≠ 1
 | .row s ty,[r]=>((OG r).run τ).1 ∧ ((DW false s ty ((OG r).run τ).2).run τ).1 ∧ ((DW false s ty ((OG r).run τ).2).run τ).2.1 = sp.res ds ∧ ((BE sp.ptr).run τ).2.2.all (fun x=>x.1 != ((DW false s ty ((OG r).run τ).2).run τ).2.2) = true
 | .mat s ty,[r]=>((OG r).run τ).1 ∧ ((DW true s ty ((OG r).run τ).2).run τ).1 ∧ ((DW true s ty ((OG r).run τ).2).run τ).2.1 = sp.res ds ∧ sp.ptr = []
 | .ptr s ty,[r]=>((OG r).run τ).1 ∧ ((Cc s ty ((OG r).run τ).2).run τ).1 ∧ ((Cc s ty ((OG r).run τ).2).run τ).2.1 = sp.res ds ∧ Ab ((Cc s ty ((OG r).run τ).2).run τ).2.2.2 = false
 | .tupPtr q s ty,rs=>q < rs.length ∧ rs.length ≠ 1 ∧ sp.ptr = [] ∧ ((AD (rs.take q)).run τ).1 ∧ ((AD (rs.drop (q + 1))).run τ).1 ∧ ((OG (rs.getD q (.t 0))).run τ).1 ∧ ((Cc s ty ((OG (rs.getD q (.t 0))).run τ).2).run τ).1 ∧
   .tup (((AD (rs.take q)).run τ).2.1 ++ ((Cc s ty ((OG (rs.getD q (.t 0))).run τ).2).run τ).2.1 :: ((AD (rs.drop (q + 1))).run τ).2.1) = sp.res ds
 | _,_=>False
def Lx (Γ : As) (sp : Spec) (np : Nat) (rs : List AP) (c : OH) : Prop :=
 ∀ ds,sp.pre ds → ds.length = np ∧ BB sp.ptr 0 ds = sp.ptr.map Prod.fst → Wk (DWp Γ c (fun e τ=>match e with | .exit _=>False | _=>Wk (Ci sp rs ds) τ)) (Dz sp ds)
section
variable {N : Nat} {w0 : World} {F0 : Fz} {M : Nat → Prop} {B0 : Bt} {P : Program} {σ : S} {F : Fz} {β : Bt} {a : Act} {w : World}
theorem Mz (h : Sim N w0 F0 M B0 σ F β a w) {rv : ResultVar} {r : AP} (hr : OM P rv = some r) (hc : ((OG r).run σ).1) :
  ∃ v,(match rv with | .tmp t=>(pure (a.tmps.getD t undef) : Sem Value) | .cell c t=>(do loadVar t (← asAddr (a.tmps.getD c undef)) : Sem Value)).run P w = .ok v w ∧ Val F β ((OG r).run σ).2 v:=by
 cases rv with
 | tmp t =>
  simp only [OM,Option.some.injEq] at hr
  subst hr
  simp only [OG,R.run_bind,R.run_pure] at hc ⊢
  refine ⟨_,rfl,?_⟩
  have:=(h.env t).strip (by simpa [rdA,raw] using hc)
  simpa [rdA,raw] using this
 | cell c ty =>
  simp only [OM] at hr
  have key : ∀ (n : Nat) (agg : Bool),r = .c c n agg → Ck P ty = agg → (P.underlying ty).isSome = true → (agg = true → P.info? ty ≠ none ∧ n = P.cellsOf ty) → (agg = false → n = 1) → ∃ v,(do loadVar ty (← asAddr (a.tmps.getD c undef)) : Sem Value).run P w = .ok v w ∧ Val F β ((OG r).run σ).2 v:=by
   rintro n agg rfl h1 h2 h3 h4
   simp only [OG,R.run_bind,R.run_pure,rdA,raw,R.run] at hc ⊢
   obtain ⟨q1,q2,q3⟩:=hc
   have hv:=(h.env c).strip q1
   obtain ⟨v,r1,r2⟩:=IV (P:=P) h hv q2 ty n agg h1 h2 h3 h4 q3
   obtain ⟨b,o,hx,_⟩:=HR h hv q2
   refine ⟨v,?_,r2⟩
   rw [hx] at r1 ⊢
   simpa [Instr.loadAt,Instr.sureAddr,asAddr] using r1
  split at hr
  ·rename_i hagg
   cases hr
   have hu:=DN hagg
   obtain ⟨td,htd⟩:=Option.isSome_iff_exists.1 hu
   exact key _ _ rfl hagg hu (fun _=>⟨Dt htd,rfl⟩) (fun e=>by cases e)
  ·rename_i hagg
   split at hr
   ·rename_i hu
    cases hr
    exact key _ _ rfl (by simpa using hagg) hu (fun e=>by cases e) (fun _=>rfl)
   ·cases hr
end
end Go.Dw
namespace Go.Dw
section
variable {N : Nat} {w0 : World} {F0 : Fz} {M : Nat → Prop} {B0 : Bt} {P : Program} {σ : S} {F : Fz} {β : Bt} {a : Act} {w : World}
def GQ (a : Act) : ResultVar → Sem Value
 | .tmp t=>pure (a.tmps.getD t undef)
 | .cell c t=>do loadVar t (← asAddr (a.tmps.getD c undef))
theorem Li (h : Sim N w0 F0 M B0 σ F β a w) {rv : ResultVar} {r : AP} (hr : OM P rv = some r) (hc : ((OG r).run σ).1) :
  ∃ v,(GQ a rv).run P w = .ok v w ∧ Val F β ((OG r).run σ).2 v:=by
 have:=Mz (P:=P) h hr hc
 cases rv <;> exact this
theorem Fk (h : Sim N w0 F0 M B0 σ F β a w) : ∀ (rvs : List ResultVar) (rs : List AP),rvs.mapM (OM P) = some rs → (∀ r ∈ rs,((OG r).run σ).1) →
  ∃ vs : List Value,(rvs.mapM (GQ a)).run P w = .ok vs w ∧ vs.length = rs.length ∧ rvs.length = rs.length ∧ ∀ (i : Nat) r v,rs[i]? = some r → vs[i]? = some v → Val F β ((OG r).run σ).2 v
 | [],rs,hm,_=>by
  simp at hm
  subst hm
  exact ⟨[],rfl,rfl,rfl,fun i r v hi=>by simp at hi⟩
 | rv :: rvs,rs,hm,hc=>by
  simp only [List.mapM_cons,Option.bind_eq_bind,Option.bind_eq_some_iff] at hm
  obtain ⟨r,hr,rs',hrs,he⟩:=hm
  cases he
  obtain ⟨v,v1,v2⟩:=Li (P:=P) h hr (hc r (by simp))
  obtain ⟨vs,k1,k2,k3,k4⟩:=Fk h rvs rs' hrs (fun r hr=>hc r (by simp [hr]))
  refine ⟨v :: vs,by simp [List.mapM_cons,v1,k1],by simp [k2],by simp [k3],fun i r' v' hi hv=>?_⟩
  rcases i with _ | i
  ·simp only [List.getElem?_cons_zero,Option.some.injEq] at hi hv
   subst hi; subst hv
   exact v2
  ·simp only [List.getElem?_cons_succ] at hi hv
   exact k4 i r' v' hi hv
theorem BQ (h : Sim N w0 F0 M B0 σ F β a w) {fn : Func} {rs : List AP} (hm : fn.results.toList.mapM (OM P) = some rs) (hc : ∀ r ∈ rs,((OG r).run σ).1) :
  ∃ vs : List Value,(results fn a.tmps).run P w = .ok (if h : vs.length = 1 then vs[0] else .tuple vs.toArray) w ∧ vs.length = rs.length ∧ ∀ (i : Nat) r v,rs[i]? = some r → vs[i]? = some v → Val F β ((OG r).run σ).2 v:=by
 obtain ⟨vs,k1,k2,_,k4⟩:=Fk (P:=P) h _ rs hm hc
 refine ⟨vs,?_,k2,k4⟩
 have hmap : (fn.results.mapM (GQ a)).run P w = .ok vs.toArray w:=by
  rw [Array.mapM_eq_mapM_toList]
  simp [k1]
 have e : results fn a.tmps = (do let vs ← fn.results.mapM (GQ a); pure (if h : vs.size = 1 then vs[0] else .tuple vs)):=by
  unfold results
  have : (fun
   | .tmp t=>pure (a.tmps.getD t undef)
   | .cell b t=>do loadVar t (← asAddr (a.tmps.getD b undef)) : ResultVar → Sem Value) = GQ a:=by
   funext rv; cases rv <;> rfl
  rw [← this]
  rfl
 rw [e]
 simp only [Sem.run_bind]
 rw [hmap]
 simp only [Result.andThen_ok,Sem.run_pure]
 congr 1
theorem Jc (h : Sim N w0 F0 M B0 σ F β a w) (hdr : w0.heap.size ≤ w0.drawn) {s ty : Nat} {d : D} {x : Value} (hx : Val F β d x) (hc : ((Cc s ty d).run σ).1) :
  Ao σ ((Cc s ty d).run σ).2.2.1 ∧ ∃ g v o b,((Cc s ty d).run σ).2.2.2 = g ∧ σ.go g = some (v,o) ∧ o.fz = false ∧ o.var = true ∧ β v = some ⟨some b,1,s⟩ ∧ x = .pointer (some ⟨b,0,none⟩) ∧
   ∀ (ws : List (Nat × Ac)) F',Ao σ ws → (∀ p ∈ ((Cc s ty d).run σ).2.2.1,p ∈ ws) → Af F F' → Sim N w0 F0 M B0 ⟨σ.e,ws ++ σ.o,σ.n⟩ F' β a w → HL F' w b s ty ((Cc s ty d).run σ).2.1 ∧ (∀ i,F' b i = none) ∧ b < w.heap.size ∧ (w0.heap.size ≤ b ∨ (M b ∧ Ab g = true)) ∧ ∃ v' o',(S.mk σ.e (ws ++ σ.o) σ.n).go g = some (v',o') ∧ o'.fz = false ∧ β v' = some ⟨some b,1,s⟩:=by
 cases d <;> try exact hc.elim
 case optr g v i off =>
  simp only [Cc,R.run] at hc ⊢
  cases hg : σ.go g with
  | none=>rw [hg] at hc; exact hc.elim
  | some p =>
   obtain ⟨v',o⟩:=p
   rw [hg] at hc
   simp only [R.run_bind,R.run_pure] at hc ⊢
   obtain ⟨⟨rfl,rfl,rfl,hfz,hvar,hlen,rfl,rfl⟩,hc1⟩:=hc
   obtain ⟨L,b,hL,hb,rfl⟩:=hx
   obtain ⟨L',hL',_,hk⟩:=h.own g v o hg
   rw [hL] at hL'; cases hL'
   obtain ⟨e1,e2,e3,e4,e5,e6⟩:=hk hfz
   rw [hb] at e6
   obtain ⟨C,hC,hCs,hcell⟩:=e6
   obtain ⟨e,he⟩ : ∃ e,o.es = [e]:=List.length_eq_one_iff.1 hlen
   have hge : o.es.getD 0 .top = e:=by simp [he]
   rw [hge] at hc1 ⊢
   have hX : ∀ (j : Nat) c,(cells e)[j]? = some c → ∃ x,C[j]? = some x ∧ x.oneCell' = true ∧ Cel F β c x:=by
    intro j c hj
    obtain ⟨x,x1,x2,x3⟩:=hcell 0 j e c (by simp [he]) hj
    rw [hvar] at x3
    exact ⟨x,by simpa using x1,x2,by simpa using x3⟩
   obtain ⟨f1,l1,r1⟩:=Fi h e (fun j=>C[j]?) hX hc1
   have hcap : L.cap = 1:=by
    rw [hvar] at e4
    simp only [if_true] at e4
    have : o.es.length = 1:=hlen
    omega
   have hLe : L = ⟨some b,1,o.s⟩:=by cases L; simp_all
   refine ⟨f1,g,v,o,b,rfl,hg,hfz,hvar,by rw [hL,hLe],by simp,fun ws F' q1 q2 q3 q4=>?_⟩
   have hgo : (S.mk σ.e (ws ++ σ.o) σ.n).go g = some (v,o):=by
    rcases q1.go g with ⟨v2,o2,k1,k2,_,_⟩ | ⟨_,k2⟩
    ·rw [hg] at k1; cases k1; rw [hvar] at k2; cases k2
    ·rw [k2]; exact hg
   obtain ⟨s1,s2,s3⟩:=q4.sep g v o L b hgo hfz hL hb
   replace s3 : w0.heap.size ≤ b ∨ (M b ∧ Ab g = true):=s3.elim .inl fun s3=>s3.2.elim (fun e=>.inr ⟨s3.1,e⟩) fun e=>.inl (Nat.le_trans hdr e)
   refine ⟨⟨rfl,e2,by simp,by simp,fun q hq=>?_,C,hC,by rw [hCs,hcap],fun i j c' c hc' hj=>?_⟩,s1,s2,s3,v,o,hgo,hfz,by rw [hL,hLe]⟩
   ·simp only [List.mem_singleton] at hq
    subst hq
    rw [l1]
    exact e5 e (by simp [he])
   ·rcases i with _ | i
    ·simp only [List.getElem?_cons_zero,Option.some.injEq] at hc'
     subst hc'
     obtain ⟨x,x1,x2,x3⟩:=r1 ws F' q1 q2 q3 q4 j c hj
     exact ⟨x,by simpa using x1,x2,by simpa using Cel.Ag x3⟩
    ·simp at hc'
theorem MA {L : Loc} {b : Nat} (h : Sim N w0 F0 M B0 σ F β a w) {s ty g v : Nat} (hL : β v = some L) (hb : L.b = some b) (hLs : L.cap = 1 ∧ L.s = s) (hc : ((Hm s ty (.optr g v 0 0)).run σ).1) :
  Ao σ ((Hm s ty (.optr g v 0 0)).run σ).2.2 ∧ ∃ o,σ.go g = some (v,o) ∧ o.fz = false ∧ o.var = true ∧
   ∀ (ws : List (Nat × Ac)) F' φ,Ao σ ws → (∀ p ∈ ((Hm s ty (.optr g v 0 0)).run σ).2.2,p ∈ ws) → Af F F' → Sim N w0 F0 M B0 ⟨σ.e,ws ++ σ.o,σ.n⟩ F' β a w → AB F' β w0.heap.size M ⟨σ.e,ws ++ σ.o,σ.n⟩ w φ →
    Eo F' w ⟨b,s,ty,φ g 0⟩ ((Hm s ty (.optr g v 0 0)).run σ).2.1 ∧ (S.mk σ.e (ws ++ σ.o) σ.n).go g = some (v,o):=by
 simp only [Hm,R.run] at hc ⊢
 cases hg : σ.go g with
 | none=>rw [hg] at hc; exact hc.elim
 | some p =>
  obtain ⟨v',o⟩:=p
  rw [hg] at hc
  simp only [R.run_bind,R.run_pure] at hc ⊢
  obtain ⟨⟨rfl,_,_,hfz,hvar,hlen,rfl,rfl⟩,hc1⟩:=hc
  obtain ⟨L',hL',_,hk⟩:=h.own g v o hg
  rw [hL] at hL'; cases hL'
  obtain ⟨e1,e2,e3,e4,e5,e6⟩:=hk hfz
  rw [hb] at e6
  obtain ⟨C,hC,hCs,hcell⟩:=e6
  obtain ⟨e,he⟩ : ∃ e,o.es = [e]:=List.length_eq_one_iff.1 hlen
  have hge : o.es.getD 0 .top = e:=by simp [he]
  rw [hge] at hc1 ⊢
  obtain ⟨hc1,hpe,hpr⟩:=IY hc1
  have hpe' : (pas (Ab g) e).run σ = (((pas (Ab g) e).run σ).1,((res e).run σ).2):=Prod.ext rfl hpe
  rw [hpe']
  dsimp only
  have hX : ∀ (j : Nat) c,(cells e)[j]? = some c → ∃ x,C[j]? = some x ∧ x.oneCell' = true ∧ Cel F β c x:=by
   intro j c hj
   obtain ⟨x,x1,x2,x3⟩:=hcell 0 j e c (by simp [he]) hj
   rw [hvar] at x3
   exact ⟨x,by simpa using x1,x2,by simpa using x3⟩
  obtain ⟨f1,l1,r1⟩:=Fi h e (fun j=>C[j]?) hX hc1
  refine ⟨f1,o,rfl,hfz,hvar,fun ws F' φ q1 q2 q3 q4 hφ=>?_⟩
  have hgo : (S.mk σ.e (ws ++ σ.o) σ.n).go g = some (v,o):=by
   rcases q1.go g with ⟨v2,o2,k1,k2,_,_⟩ | ⟨_,k2⟩
   ·rw [hg] at k1; cases k1; rw [hvar] at k2; cases k2
   ·rw [k2]; exact hg
  obtain ⟨s1,s2,_⟩:=q4.sep g v o L b hgo hfz hL hb
  refine ⟨⟨⟨rfl,e2,by simp,by simp,fun q hq=>?_,C,hC,by rw [hCs,hLs.1],fun i j c' c hc' hj=>?_⟩,s1,s2,hφ.none_ g 0,hφ.lt g 0,fun j b' hb' e'=>?_,fun j j' b' h1 h2=>(hφ.dis _ _ _ _ _ _ _ h1 h2).2.2,fun C' j x s ty es hC' hj hx=>?_,fun j nm u n hj=>(hpr j _ hj).2 nm u n rfl⟩,hgo⟩
  ·simp only [List.mem_singleton] at hq
   subst hq
   rw [l1]
   exact e5 e (by simp [he])
  ·rcases i with _ | i
   ·simp only [List.getElem?_cons_zero,Option.some.injEq] at hc'
    subst hc'
    obtain ⟨x,x1,x2,x3⟩:=r1 ws F' q1 q2 q3 q4 j c hj
    exact ⟨x,by simpa using x1,x2,by simpa using Cel.Ag x3⟩
   ·simp at hc'
  ·simp only at e'
   subst e'
   exact hφ.sep g 0 j _ g v o L hb' hgo hfz hL hb
  ·obtain ⟨z1,z2⟩:=(hpr j _ hj).1 s ty es rfl
   exact hφ.row g v o L b C' 0 j e x s ty es z1 hgo hfz hL hb hC' (by simp [he]) z2 (by simpa using hx)
theorem Jd (_h : Sim N w0 F0 M B0 σ F β a w) (hdr : w0.heap.size ≤ w0.drawn) {r : Bool} {s ty : Nat} {d : D} {x : Value} (hx : Val F β d x) (hc : ((DW r s ty d).run σ).1) :
  ∃ es L g v o,((DW r s ty d).run σ).2.1 = .sl es ∧ x = .slice (L.b.map fun b=>⟨b,0,none⟩) es.length L.cap ∧ Ab g = r ∧ o.fz = false ∧ o.s = s ∧ o.ty = ty ∧ β v = some L ∧ (∃ n,es = o.es.take n) ∧ (r = true → ∀ e ∈ o.es,∀ c ∈ cells e,∀ nm u m,c ≠ .hole nm u m) ∧
   ∀ (ws : List (Nat × Ac)) F',ws.all (fun x=>x.1 != ((DW r s ty d).run σ).2.2) = true → Af F F' → Sim N w0 F0 M B0 ⟨σ.e,ws ++ σ.o,σ.n⟩ F' β a w → Aw F' noB w L ⟨false,false,s,ty,es⟩ ∧ (S.mk σ.e (ws ++ σ.o) σ.n).go g = some (v,o) ∧ ∀ b,L.b = some b → (w0.heap.size ≤ b ∨ (r = true ∧ M b)) ∧ b < w.heap.size ∧ ∀ i,F' b i = none:=by
 cases d <;> try exact hc.elim
 case osl g v i n =>
  simp only [DW,R.run] at hc ⊢
  cases hg : σ.go g with
  | none=>rw [hg] at hc; exact hc.elim
  | some p =>
   obtain ⟨v',o⟩:=p
   rw [hg] at hc
   simp only [R.run] at hc ⊢
   obtain ⟨rfl,rfl,hn,hfz,hvar,rfl,rfl,hrg,hnh⟩:=hc
   obtain ⟨L,a',hL,rfl,hcap,ha,_⟩:=hx
   refine ⟨o.es.take n,L,g,v,o,rfl,by rw [ha rfl]; simp [Nat.min_eq_left hn],hrg,hfz,rfl,rfl,hL,⟨n,rfl⟩,hnh,fun ws F' hws hF hS=>?_⟩
   have hgo : (S.mk σ.e (ws ++ σ.o) σ.n).go g = some (v,o):=by
    have : look ws g = none:=by
     cases hl : look ws g with
     | none=>rfl
     | some y =>
      have:=List.all_eq_true.1 hws _ (AY hl)
      simp at this
    simp only [S.go,BA,this,Option.none_or]
    exact hg
   obtain ⟨L',hL',_,hk⟩:=hS.own g v o hgo
   rw [hL] at hL'; cases hL'
   obtain ⟨e1,e2,e3,e4,e5,e6⟩:=hk hfz
   refine ⟨⟨e1,e2,?_,?_,fun e he=>e5 e (List.mem_of_mem_take he),?_⟩,hgo,fun b hb=>?_⟩
   ·simp only [List.length_take]; omega
   ·simpa [hvar] using e4
   ·cases hb : L.b with
    | none=>rw [hb] at e6; exact ⟨e6.1,rfl⟩
    | some b =>
     rw [hb] at e6
     obtain ⟨C,hC,hCs,hcell⟩:=e6
     refine ⟨C,hC,hCs,fun i j e d he hd=>?_⟩
     have he' : o.es[i]? = some e:=by
      rw [List.getElem?_take] at he
      split at he
      ·exact he
      ·cases he
     obtain ⟨x,x1,x2,x3⟩:=hcell i j e d he' hd
     rw [hvar] at x3
     exact ⟨x,x1,x2,by simpa using x3⟩
   ·obtain ⟨s1,s2,s3⟩:=hS.sep g v o L b hgo hfz hL hb
    replace s3 : w0.heap.size ≤ b ∨ (M b ∧ Ab g = true):=s3.elim .inl fun s3=>s3.2.elim (fun e=>.inr ⟨s3.1,e⟩) fun e=>.inl (Nat.le_trans hdr e)
    refine ⟨?_,s2,s1⟩
    rcases s3 with s3 | s3
    ·exact .inl s3
    ·rw [hrg] at s3
     exact .inr ⟨s3.2,s3.1⟩
theorem Ex (h : Sim N w0 F0 M B0 σ F β a w) : ∀ (rs : List AP) (vs : List Value),rs.length = vs.length → (∀ (i : Nat) r v,rs[i]? = some r → vs[i]? = some v → ((OG r).run σ).1 → Val F β ((OG r).run σ).2 v) → ((AD rs).run σ).1 →
  Ao σ ((AD rs).run σ).2.2 ∧ ((AD rs).run σ).2.1.length = vs.length ∧ ∀ (ws : List (Nat × Ac)) F',Ao σ ws → (∀ p ∈ ((AD rs).run σ).2.2,p ∈ ws) → Af F F' → Sim N w0 F0 M B0 ⟨σ.e,ws ++ σ.o,σ.n⟩ F' β a w →
   ∀ (j : Nat) c v,((AD rs).run σ).2.1[j]? = some c → vs[j]? = some v → Fro F' c v
 | [],vs,hl,_,_=>⟨Ao.nil σ,by simpa [AD,R.run] using hl,fun _ _ _ _ _ _ j c v hj=>by simp [AD] at hj⟩
 | r :: rs,[],hl,_,_=>by simp at hl
 | r :: rs,v :: vs,hl,hv,hc=>by
  simp only [AD,DX,R.run_bind,R.run_pure] at hc ⊢
  obtain ⟨⟨c1,c2⟩,c3⟩:=hc
  obtain ⟨f1,r1⟩:=Fj h _ (hv 0 r v rfl rfl c1) c2
  obtain ⟨f2,l2,r2⟩:=Ex h rs vs (by simpa using hl) (fun i r' v' h1 h2=>hv (i + 1) r' v' (by simpa using h1) (by simpa using h2)) c3
  refine ⟨f1.append f2,by simp [l2],fun ws F' q1 q2 q3 q4 j c v' hj hv'=>?_⟩
  rcases j with _ | j
  ·simp only [List.getElem?_cons_zero,Option.some.injEq] at hj hv'
   subst hj; subst hv'
   exact r1 ws F' q1 (fun p hp=>q2 p (by simp [hp])) q3 q4
  ·simp only [List.getElem?_cons_succ] at hj hv'
   exact r2 ws F' q1 (fun p hp=>q2 p (by simp [hp])) q3 q4 j c v' hj hv'
theorem Dp : ∀ (rs : List AP),((AD rs).run σ).1 → ∀ r ∈ rs,((OG r).run σ).1
 | [],_,r,hr=>by cases hr
 | r0 :: rs,hc,r,hr=>by
  simp only [AD,DX,R.run_bind,R.run_pure] at hc
  cases hr with
  | head=>exact hc.1.1
  | tail _ hr=>exact Dp rs hc.2 r hr
end
end Go.Dw
namespace Go.Dw
section
variable {N : Nat} {P : Program}
def ini (p : (Nat × D) × Hd) : Nat × Ac:=(8192 + p.1.1,some (p.1.1,⟨false,true,p.2.s,p.2.ty,[p.1.2]⟩))
structure Ini (F : Fz) (w : World) (ptr : List (Nat × (Nat × Nat))) (O : List (Nat × Ac)) (keys : List Nat) (Mb : List Hd) (K : List (Nat × D)) : Prop where
 len : K.length = Mb.length
 keys : K.map Prod.fst = keys
 obj : O = (K.zip Mb).map ini
 ok : ∀ (k : Nat) key d m,K[k]? = some (key,d) → Mb[k]? = some m → Eo F w m d ∧ look ptr key = some (m.s,m.ty)
 apart : ∀ (k k' : Nat) m m',k < k' → Mb[k]? = some m → Mb[k']? = some m' → Aam m m'
def Nam (K : List (Nat × D)) (Mb : List Hd) (PB : Bt) : Prop:=∀ (k : Nat) key d m,K[k]? = some (key,d) → Mb[k]? = some m → PB key = some ⟨some m.b,1,m.s⟩
theorem Nam.cons {K : List (Nat × D)} {Mb : List Hd} {p : Nat × D} {m : Hd} {PB : Bt} (h : Nam (p :: K) (m :: Mb) PB) : PB p.1 = some ⟨some m.b,1,m.s⟩ ∧ Nam K Mb PB :=
 ⟨h 0 p.1 p.2 m rfl rfl,fun k key d m' h1 h2=>h (k + 1) key d m' (by simpa using h1) (by simpa using h2)⟩
theorem Nam.append {K1 K2 : List (Nat × D)} {M1 M2 : List Hd} {PB : Bt} (hl : K1.length = M1.length) (h : Nam (K1 ++ K2) (M1 ++ M2) PB) : Nam K1 M1 PB ∧ Nam K2 M2 PB:=by
 refine ⟨fun k key d m h1 h2=>h k key d m ?_ ?_,fun k key d m h1 h2=>h (K1.length + k) key d m ?_ ?_⟩
 ·rw [List.getElem?_append_left (List.getElem?_eq_some_iff.1 h1).1]; exact h1
 ·rw [List.getElem?_append_left (List.getElem?_eq_some_iff.1 h2).1]; exact h2
 ·rw [List.getElem?_append_right (by omega)]; simpa using h1
 ·rw [List.getElem?_append_right (by omega),show K1.length + k - M1.length = k by omega]; exact h2
theorem Ini.nil {F : Fz} {w : World} {ptr : List (Nat × (Nat × Nat))} : Ini F w ptr [] [] [] []:=⟨rfl,rfl,rfl,fun k key d m h=>by simp at h,fun k k' m m' _ h=>by simp at h⟩
theorem Ini.cons {F : Fz} {w : World} {ptr : List (Nat × (Nat × Nat))} {O : List (Nat × Ac)} {keys : List Nat} {Mb : List Hd} {K : List (Nat × D)} (h : Ini F w ptr O keys Mb K) {j : Nat} {d : D} {m : Hd} (hp : look ptr j = some (m.s,m.ty)) (hd : Eo F w m d) (hM : ∀ m' ∈ Mb,Aam m m') :
  Ini F w ptr ((8192 + j,some (j,⟨false,true,m.s,m.ty,[d]⟩)) :: O) (j :: keys) (m :: Mb) ((j,d) :: K):=by
 refine ⟨by simp [h.len],by simp [h.keys],by simp [h.obj,ini],fun k key d' m' h1 h2=>?_,fun k k' m1 m2 hlt h1 h2=>?_⟩
 ·rcases k with _ | k
  ·simp only [List.getElem?_cons_zero,Option.some.injEq,Prod.mk.injEq] at h1 h2
   obtain ⟨rfl,rfl⟩:=h1
   subst h2
   exact ⟨hd,hp⟩
  ·simp only [List.getElem?_cons_succ] at h1 h2
   exact h.ok k key d' m' h1 h2
 ·rcases k' with _ | k'
  ·omega
  ·simp only [List.getElem?_cons_succ] at h2
   rcases k with _ | k
   ·simp only [List.getElem?_cons_zero,Option.some.injEq] at h1
    subst h1
    exact hM m2 (List.mem_of_getElem? h2)
   ·simp only [List.getElem?_cons_succ] at h1
    exact h.apart k k' m1 m2 (by omega) h1 h2
theorem Ini.append {F : Fz} {w : World} {ptr : List (Nat × (Nat × Nat))} {O1 O2 : List (Nat × Ac)} {k1 k2 : List Nat} {M1 M2 : List Hd} {K1 K2 : List (Nat × D)} (h1 : Ini F w ptr O1 k1 M1 K1) (h2 : Ini F w ptr O2 k2 M2 K2) (hM : ∀ m ∈ M1,∀ m' ∈ M2,Aam m m') :
  Ini F w ptr (O1 ++ O2) (k1 ++ k2) (M1 ++ M2) (K1 ++ K2):=by
 refine ⟨by simp [h1.len,h2.len],by simp [h1.keys,h2.keys],by rw [h1.obj,h2.obj,List.zip_append h1.len,List.map_append],fun k key d m q1 q2=>?_,fun k k' m m' hlt q1 q2=>?_⟩
 ·by_cases hk : k < K1.length
  ·rw [List.getElem?_append_left hk] at q1
   rw [List.getElem?_append_left (by rw [← h1.len]; exact hk)] at q2
   exact h1.ok k key d m q1 q2
  ·rw [List.getElem?_append_right (by omega)] at q1
   rw [List.getElem?_append_right (by rw [← h1.len]; omega),← h1.len] at q2
   exact h2.ok _ key d m q1 q2
 ·by_cases hk : k' < M1.length
  ·rw [List.getElem?_append_left (by omega)] at q1
   rw [List.getElem?_append_left hk] at q2
   exact h1.apart k k' m m' hlt q1 q2
  ·rw [List.getElem?_append_right (by omega)] at q2
   by_cases hk2 : k < M1.length
   ·rw [List.getElem?_append_left hk2] at q1
    exact hM m (List.mem_of_getElem? q1) m' (List.mem_of_getElem? q2)
   ·rw [List.getElem?_append_right (by omega)] at q1
    exact h2.apart _ _ m m' (by omega) q1 q2
theorem KZ {F : Fz} {w : World} {ptr : List (Nat × (Nat × Nat))} {j : Nat} {ds : List D} {xs : List Value} {Mb : List Hd} (h : CN F w ptr j ds xs Mb) :
  ∃ K,Ini F w ptr (Ge ptr j ds) (Ec ptr j ds) Mb K ∧ (Dy ptr j ds).length = xs.length ∧ ∀ PB,Nam K Mb PB → ∀ (q : Nat) d x,(Dy ptr j ds)[q]? = some d → xs[q]? = some x → Ref F PB d x:=by
 induction h with
 | nil j=>exact ⟨[],Ini.nil,rfl,fun PB _ q d x hq=>by simp [Dy] at hq⟩
 | val j d ds x xs M hp hx _ ih =>
  obtain ⟨K,k1,k2,k3⟩:=ih
  refine ⟨K,by simpa [Ge,Ec,hp] using k1,by simp [Dy,k2],fun PB hPB q d' x' hq hx'=>?_⟩
  simp only [Dy,hp] at hq
  rcases q with _ | q
  ·simp only [List.getElem?_cons_zero,Option.some.injEq] at hq hx'
   subst hq; subst hx'
   exact Ref.Ag hx
  ·simp only [List.getElem?_cons_succ] at hq hx'
   exact k3 PB hPB q d' x' hq hx'
 | ptr j d ds xs M m hp hd hM _ ih =>
  obtain ⟨K,k1,k2,k3⟩:=ih
  refine ⟨(j,d) :: K,by simpa [Ge,Ec,hp] using k1.cons hp hd hM,by simp [Dy,k2],fun PB hPB q d' x' hq hx'=>?_⟩
  obtain ⟨n1,n2⟩:=hPB.cons
  simp only [Dy,hp] at hq
  rcases q with _ | q
  ·simp only [List.getElem?_cons_zero,Option.some.injEq] at hq hx'
   subst hq; subst hx'
   exact ⟨_,m.b,n1,rfl,by simp⟩
  ·simp only [List.getElem?_cons_succ] at hq hx'
   exact k3 PB n2 q d' x' hq hx'
theorem KY {F : Fz} {w : World} {ptr : List (Nat × (Nat × Nat))} {j : Nat} {ds : List D} {xs : List Value} {Mb : List Hd} (h : BV F w ptr j ds xs Mb) :
  ∃ K,Ini F w ptr (Cu ptr j ds) (BB ptr j ds) Mb K ∧ ∀ PB,Nam K Mb PB → ∀ t d,look (Di ptr j ds) t = some d → ∃ x,j ≤ t ∧ xs[t - j]? = some x ∧ Env F PB d x:=by
 have tail : ∀ {j : Nat} {d0 : D} {ds : List D} {x0 : Value} {xs : List Value} {PB : Bt},Env F PB (FE ptr j d0) x0 → (∀ t d,look (Di ptr (j + 1) ds) t = some d → ∃ x,j + 1 ≤ t ∧ xs[t - (j + 1)]? = some x ∧ Env F PB d x) →
   ∀ t d,look (Di ptr j (d0 :: ds)) t = some d → ∃ x,j ≤ t ∧ (x0 :: xs)[t - j]? = some x ∧ Env F PB d x:=by
  intro j d0 ds x0 xs PB h0 hr t d ht
  simp only [Di,look] at ht
  split at ht
  ·rename_i e
   cases ht
   subst e
   exact ⟨x0,Nat.le_refl _,by simp,h0⟩
  ·obtain ⟨x',q1,q2,q3⟩:=hr t d ht
   refine ⟨x',by omega,?_,q3⟩
   rw [show t - j = (t - (j + 1)) + 1 by omega,List.getElem?_cons_succ]
   exact q2
 induction h with
 | nil j=>exact ⟨[],Ini.nil,fun PB _ t d ht=>by simp [Di,look] at ht⟩
 | val j d ds x xs M hp hn hx _ ih =>
  obtain ⟨K,k1,k3⟩:=ih
  have hm : Cu ptr j (d :: ds) = Cu ptr (j + 1) ds ∧ BB ptr j (d :: ds) = BB ptr (j + 1) ds ∧ FE ptr j d = d:=by
   cases d <;> first | exact (hn _ _ rfl).elim | (refine ⟨?_,?_,?_⟩ <;> simp [Cu,BB,FE,hp])
  obtain ⟨m1,m2,m3⟩:=hm
  rw [m1,m2]
  exact ⟨K,k1,fun PB hPB=>tail (by rw [m3]; exact Env.Ag hx) (k3 PB hPB)⟩
 | ptr j d ds xs M m hp hd hM _ ih =>
  obtain ⟨K,k1,k3⟩:=ih
  refine ⟨(j,d) :: K,by simpa [Cu,BB,hp] using k1.cons hp hd hM,fun PB hPB=>?_⟩
  obtain ⟨n1,n2⟩:=hPB.cons
  exact tail (by simp only [FE,hp]; exact ⟨_,m.b,n1,rfl,by simp⟩) (k3 PB n2)
 | clo j f caps vs ds xs M1 M2 hp hc hM _ ih =>
  obtain ⟨K,k1,k3⟩:=ih
  obtain ⟨K1,c1,c2,c3⟩:=KZ hc
  refine ⟨K1 ++ K,by simpa [Cu,BB,hp] using c1.append k1 hM,fun PB hPB=>?_⟩
  obtain ⟨n1,n2⟩:=hPB.append c1.len
  exact tail (by simp only [FE,hp]; exact ⟨vs,rfl,c2,c3 PB n1⟩) (k3 PB n2)
theorem Lo {sp : Spec} {F : Fz} {w : World} {ds : List D} {xs : List Value} {Mb : List Hd} (hF : Fok F w) (hfin : ∀ b i x,F b i = some x → b < w.heap.size) (h : BV F w sp.ptr 0 ds xs Mb) {k : Nat} (hN : xs.length + k = N)
  (hok : Ew sp.ptr = true) (hkeys : BB sp.ptr 0 ds = sp.ptr.map Prod.fst) :
  ∃ (PB : Bt) (K : List (Nat × D)),Sim N { w with drawn:=w.heap.size } F (Wr Mb) PB (Dz sp ds) F PB { tmps:=xs.toArray ++ Array.replicate k undef,defers:=[] } w ∧ (∀ v,262144 ≤ v → PB v = none) ∧ Nam K Mb PB ∧ K.length = Mb.length ∧ K.map Prod.fst = sp.ptr.map Prod.fst ∧
   ∀ (i : Nat) key d m,K[i]? = some (key,d) → Mb[i]? = some m → look sp.ptr key = some (m.s,m.ty):=by
 obtain ⟨K,hI,hE⟩:=KY h
 simp only [Ew,Bool.and_eq_true,decide_eq_true_eq] at hok
 obtain ⟨hlt,hnd⟩:=hok
 have hKn : (K.map Prod.fst).Nodup:=by rw [hI.keys,hkeys]; exact hnd
 have hzl : (K.zip Mb).length = K.length:=by simp [hI.len]
 -- each place has one entry
 have huk : ∀ (i i' : Nat) key d d',K[i]? = some (key,d) → K[i']? = some (key,d') → i = i':=by
  intro i i' key d d' h1 h2
  have e1 : (K.map Prod.fst)[i]? = some key:=by simp [h1]
  have e2 : (K.map Prod.fst)[i']? = some key:=by simp [h2]
  have l1:=(List.getElem?_eq_some_iff.1 e1).1
  exact (List.getElem?_inj l1 hKn).1 (e1.trans e2.symm)
 let PB : Bt:=fun v=>((K.zip Mb).find? fun p=>p.1.1 == v).map fun p=>⟨some p.2.b,1,p.2.s⟩
 have hPB : ∀ v L,PB v = some L → ∃ (i : Nat) (d : D) (m : Hd),K[i]? = some (v,d) ∧ Mb[i]? = some m ∧ L = ⟨some m.b,1,m.s⟩:=by
  intro v L hv
  simp only [PB,Option.map_eq_some_iff] at hv
  obtain ⟨⟨⟨key,d⟩,m⟩,h1,rfl⟩:=hv
  have hk:=List.find?_some h1
  simp only [beq_iff_eq] at hk
  subst hk
  obtain ⟨i,hi⟩:=List.getElem?_of_mem (List.mem_of_find?_eq_some h1)
  rw [List.getElem?_zip_eq_some] at hi
  exact ⟨i,d,m,hi.1,hi.2,rfl⟩
 have hnam : Nam K Mb PB:=by
  intro i key d m h1 h2
  have hm : ((key,d),m) ∈ K.zip Mb:=List.mem_of_getElem? (i:=i) (by rw [List.getElem?_zip_eq_some]; exact ⟨h1,h2⟩)
  cases hf : (K.zip Mb).find? fun p=>p.1.1 == key with
  | none =>
   have:=List.find?_eq_none.1 hf _ hm
   simp at this
  | some p =>
   have hv : PB key = some ⟨some p.2.b,1,p.2.s⟩:=by simp only [PB,hf]; rfl
   obtain ⟨i',d',m',q1,q2,q3⟩:=hPB key _ hv
   have:=huk i i' key d d' h1 q1
   subst this
   rw [h2] at q2; cases q2
   rw [hv,q3]
 have hgo : ∀ g v o,(Dz sp ds).go g = some (v,o) → ∃ (i : Nat) (d : D) (m : Hd),K[i]? = some (v,d) ∧ Mb[i]? = some m ∧ g = 8192 + v ∧ o = ⟨false,true,m.s,m.ty,[d]⟩:=by
  intro g v o hg
  simp only [S.go,Dz] at hg
  cases hl : look (Cu sp.ptr 0 ds) g with
  | none=>rw [hl] at hg; cases hg
  | some y =>
   rw [hl] at hg
   simp only [Option.getD_some] at hg
   subst hg
   have hm:=AY hl
   rw [hI.obj,List.mem_map] at hm
   obtain ⟨⟨⟨key,d⟩,m⟩,h1,h2⟩:=hm
   obtain ⟨i,hi⟩:=List.getElem?_of_mem h1
   rw [List.getElem?_zip_eq_some] at hi
   simp only [ini,Prod.mk.injEq,Option.some.injEq] at h2
   obtain ⟨rfl,rfl,rfl⟩:=h2
   exact ⟨i,d,m,hi.1,hi.2,rfl,rfl⟩
 have hap : ∀ (i i' : Nat) m m' b,Mb[i]? = some m → Mb[i']? = some m' → m.own b → m'.own b → i = i':=by
  intro i i' m m' b h1 h2 h3 h4
  rcases Nat.lt_trichotomy i i' with hl | hl | hl
  ·exact (hI.apart i i' m m' hl h1 h2 b h3 h4).elim
  ·exact hl
  ·exact (hI.apart i' i m' m hl h2 h1 b h4 h3).elim
 refine ⟨PB,K,?_,?_,hnam,hI.len,by rw [hI.keys,hkeys],fun i key d m h1 h2=>(hI.ok i key d m h1 h2).2⟩
 ·refine { nam:=At.refl _,size:=by simp [hN],defers:=rfl,env:=fun t=>?_,own:=?_,dist:=?_,sep:=?_,Ab:=?_,frz:=hF,fin:=hfin,step:=⟨rfl,rfl,rfl,Nat.le_refl _,fun _ _ _=>rfl,Af.refl F,fun _ _ _ _=>rfl⟩ }
  ·simp only [S.ge,Dz]
   cases hl : look (Di sp.ptr 0 ds) t with
   | none=>exact Env.top _
   | some d =>
    obtain ⟨x,_,q2,q3⟩:=hE PB hnam t d hl
    simp only [Nat.sub_zero] at q2
    have hlt : t < xs.length:=(List.getElem?_eq_some_iff.1 q2).1
    have : (xs.toArray ++ Array.replicate k undef).getD t undef = x:=by
     rw [Array.getD_eq_getD_getElem?,Array.getElem?_append_left (by simpa using hlt)]
     simp [q2]
    simp only [Option.getD_some,this]
    exact q3
  ·intro g v o hg
   obtain ⟨i,d,m,h1,h2,rfl,rfl⟩:=hgo g v o hg
   exact ⟨_,hnam i v d m h1 h2,fun e=>(by cases e),fun _=>(hI.ok i v d m h1 h2).1.var.keep (Af.refl _) (Hk _) (fun _ _=>rfl)⟩
  ·intro g g' v v' o o' L L' b hg hg' _ _ hL hL' hb hb'
   obtain ⟨i,d,m,h1,h2,rfl,_⟩:=hgo g v o hg
   obtain ⟨i',d',m',h1',h2',rfl,_⟩:=hgo g' v' o' hg'
   rw [hnam i v d m h1 h2] at hL; cases hL; cases hb
   rw [hnam i' v' d' m' h1' h2'] at hL'; cases hL'
   have hbb : m'.b = m.b:=Option.some.inj hb'
   have:=hap i i' m m' m.b h2 h2' (.inl rfl) (.inl hbb.symm)
   subst this
   rw [h1] at h1'; cases h1'; rfl
  ·intro g v o L b hg _ hL hb
   obtain ⟨i,d,m,h1,h2,rfl,rfl⟩:=hgo g v o hg
   rw [hnam i v d m h1 h2] at hL; cases hL; cases hb
   have hz:=(hI.ok i v d m h1 h2).1
   exact ⟨hz.none_,hz.lt,.inr ⟨⟨m,List.mem_of_getElem? h2,.inl rfl⟩,by simp [Ab]; omega⟩⟩
  ·refine ⟨fun g i j b=>∃ (q : Nat) (key : Nat) (d : D) (m : Hd),K[q]? = some (key,d) ∧ Mb[q]? = some m ∧ g = 8192 + key ∧ i = 0 ∧ m.φ j b,?_,?_,?_,?_,?_,?_,?_⟩
   ·intro g v o L b C i j e x s ty es _ hg _ hL hb hC he hj hx
    obtain ⟨q,d,m,h1,h2,rfl,rfl⟩:=hgo g v o hg
    rw [hnam q v d m h1 h2] at hL; cases hL; cases hb
    rcases i with _ | i
    ·simp only [List.getElem?_cons_zero,Option.some.injEq] at he
     subst he
     exact ((hI.ok q v d m h1 h2).1.row C j x s ty es hC hj (by simpa using hx)).keep (Af.refl _) (fun _ _=>rfl) (fun b hb=>⟨q,v,d,m,h1,h2,rfl,rfl,hb⟩)
    ·simp at he
   ·intro g v o L b C i j e x nm u n _ hg _ hL hb hC he hj hx
    obtain ⟨q,d,m,h1,h2,rfl,rfl⟩:=hgo g v o hg
    rcases i with _ | i
    ·simp only [List.getElem?_cons_zero,Option.some.injEq] at he
     subst he
     exact ((hI.ok q v d m h1 h2).1.hole j _ u n hj).elim
    ·simp at he
   ·rintro g i j b ⟨q,key,d,m,h1,h2,_,_,hb⟩
    exact (hI.ok q key d m h1 h2).1.fno j b hb
   ·rintro g i j b ⟨q,key,d,m,h1,h2,_,_,hb⟩
    exact (hI.ok q key d m h1 h2).1.flt j b hb
   ·rintro g i j b ⟨q,key,d,m,h1,h2,_,_,hb⟩
    exact .inr ⟨m,List.mem_of_getElem? h2,.inr ⟨j,hb⟩⟩
   ·rintro g i j b g' v' o' L' ⟨q,key,d,m,h1,h2,_,_,hb⟩ hg' _ hL' hLb
    obtain ⟨q',d',m',h1',h2',rfl,rfl⟩:=hgo g' v' o' hg'
    rw [hnam q' v' d' m' h1' h2'] at hL'; cases hL'
    have hbb : m'.b = b:=Option.some.inj hLb
    have:=hap q q' m m' b h2 h2' (.inr ⟨j,hb⟩) (.inl hbb.symm)
    subst this
    rw [h2] at h2'; cases h2'
    exact (hI.ok q key d m h1 h2).1.fne j b hb hbb.symm
   ·rintro g i j g' i' j' b ⟨q,key,d,m,h1,h2,rfl,rfl,hb⟩ ⟨q',key',d',m',h1',h2',rfl,rfl,hb'⟩
    have:=hap q q' m m' b h2 h2' (.inr ⟨j,hb⟩) (.inr ⟨j',hb'⟩)
    subst this
    rw [h1] at h1'; cases h1'
    rw [h2] at h2'; cases h2'
    exact ⟨rfl,rfl,(hI.ok q key d m h1 h2).1.dis j j' b hb hb'⟩
 ·intro v hv
  cases hh : PB v with
  | none=>rfl
  | some L =>
   obtain ⟨i,d,m,h1,_⟩:=hPB v L hh
   have hm : v ∈ sp.ptr.map Prod.fst:=by
    rw [← hkeys,← hI.keys]
    exact List.mem_map.2 ⟨_,List.mem_of_getElem? h1,rfl⟩
   have:=List.all_eq_true.1 hlt v hm
   simp only [Nat.blt_eq] at this
   omega
section
variable {w0 : World} {F0 : Fz} {M : Nat → Prop} {B0 : Bt} {σ : S} {F : Fz} {β : Bt} {a : Act} {w : World}
theorem IL (h : Sim N w0 F0 M B0 σ F β a w) : ∀ (ptr : List (Nat × (Nat × Nat))) (Ms : List Hd),ptr.length = Ms.length → (∀ (k : Nat) key s ty m,ptr[k]? = some (key,(s,ty)) → Ms[k]? = some m → s = m.s ∧ ty = m.ty ∧ β key = some ⟨some m.b,1,m.s⟩) → ((BE ptr).run σ).1 →
  Ao σ ((BE ptr).run σ).2.2 ∧ (∀ (k : Nat) key s ty m,ptr[k]? = some (key,(s,ty)) → Ms[k]? = some m → ∃ o,σ.go (8192 + key) = some (key,o) ∧ o.fz = false ∧ o.var = true) ∧
   ∀ (ws : List (Nat × Ac)) F' φ,Ao σ ws → (∀ p ∈ ((BE ptr).run σ).2.2,p ∈ ws) → Af F F' → Sim N w0 F0 M B0 ⟨σ.e,ws ++ σ.o,σ.n⟩ F' β a w → AB F' β w0.heap.size M ⟨σ.e,ws ++ σ.o,σ.n⟩ w φ →
    ∀ (k : Nat) key s ty m,ptr[k]? = some (key,(s,ty)) → Ms[k]? = some m → Eo F' w ⟨m.b,m.s,m.ty,φ (8192 + key) 0⟩ (((BE ptr).run σ).2.1.getD k .top) ∧ ∃ o,(S.mk σ.e (ws ++ σ.o) σ.n).go (8192 + key) = some (key,o) ∧ o.fz = false
 | [],_,_,_,_=>⟨Ao.nil σ,fun k key s ty m hk=>by simp at hk,fun _ _ _ _ _ _ _ _ k key s ty m hk=>by simp at hk⟩
 | _ :: _,[],hl,_,_=>by simp at hl
 | (j,(s,ty)) :: ptr,m :: Ms,hl,hB,hc=>by
  simp only [BE,R.run_bind,R.run_pure] at hc ⊢
  obtain ⟨c1,c2⟩:=hc
  obtain ⟨rfl,rfl,hβ⟩:=hB 0 j s ty m rfl rfl
  obtain ⟨f1,o,g1,g2,g3,r1⟩:=MA h hβ rfl ⟨rfl,rfl⟩ c1
  obtain ⟨f2,g4,r2⟩:=IL h ptr Ms (by simpa using hl) (fun k key s ty m' h1 h2=>hB (k + 1) key s ty m' (by simpa using h1) (by simpa using h2)) c2
  refine ⟨f1.append f2,fun k key s ty m' h1 h2=>?_,fun ws F' φ q1 q2 q3 q4 q5 k key s ty m' h1 h2=>?_⟩
  ·rcases k with _ | k
   ·simp only [List.getElem?_cons_zero,Option.some.injEq,Prod.mk.injEq] at h1
    obtain ⟨rfl,_⟩:=h1
    exact ⟨o,g1,g2,g3⟩
   ·simp only [List.getElem?_cons_succ] at h1 h2
    exact g4 k key s ty m' h1 h2
  ·rcases k with _ | k
   ·simp only [List.getElem?_cons_zero,Option.some.injEq,Prod.mk.injEq] at h1 h2
    obtain ⟨rfl,_⟩:=h1
    subst h2
    obtain ⟨z1,z2⟩:=r1 ws F' φ q1 (fun p hp=>q2 p (by simp [hp])) q3 q4 q5
    exact ⟨by simpa using z1,o,z2,g2⟩
   ·simp only [List.getElem?_cons_succ] at h1 h2
    have:=r2 ws F' φ q1 (fun p hp=>q2 p (by simp [hp])) q3 q4 q5 k key s ty m' h1 h2
    simpa using this
end
theorem Gt {α : Type} {l : List α} {q i : Nat} {x : α} (h : (l.take q)[i]? = some x) : l[i]? = some x:=by
 rw [List.getElem?_take] at h
 split at h
 ·exact h
 ·cases h
theorem IJ (ptr : List (Nat × (Nat × Nat))) : ∀ (j : Nat) (ds : List D),∀ p ∈ Ge ptr j ds,∀ v o,p.2 = some (v,o) → o.fz = false
 | _,[],p,hp=>by cases hp
 | j,d :: r,p,hp=>by
  unfold Ge at hp
  rcases List.mem_append.1 hp with hp | hp
  ·intro v o e
   split at hp
   ·simp only [List.mem_singleton] at hp; subst hp; cases e; rfl
   ·cases hp
  ·exact IJ ptr (j + 1) r p hp
theorem Ib (ptr : List (Nat × (Nat × Nat))) : ∀ (j : Nat) (ds : List D),∀ p ∈ Cu ptr j ds,∀ v o,p.2 = some (v,o) → o.fz = false
 | _,[],p,hp=>by cases hp
 | j,d :: r,p,hp=>by
  unfold Cu at hp
  rcases List.mem_append.1 hp with hp | hp
  ·intro v o e
   split at hp
   ·simp only [List.mem_singleton] at hp; subst hp; cases e; rfl
   ·split at hp
    ·exact IJ ptr _ _ p hp v o e
    ·cases hp
  ·exact Ib ptr (j + 1) r p hp
theorem JI {sp : Spec} {ds : List D} {PB : Bt} {F : Fz} {w : World} {a : Act} {M : Nat → Prop} {B0 : Bt} {F0 : Fz} {w0 : World} (h : Sim N w0 F0 M B0 (Dz sp ds) F PB a w) : ∀ g v o,(Dz sp ds).go g = some (v,o) → o.s ≠ 0:=by
 intro g v o hg
 refine h.GL hg ?_
 have hl : look (Dz sp ds).o g = some (some (v,o)):=by
  unfold S.go at hg
  cases hx : look (Dz sp ds).o g with
  | none=>rw [hx] at hg; cases hg
  | some x=>rw [hx] at hg; simp only [Option.getD_some] at hg; rw [hg]
 exact Ib sp.ptr 0 ds _ (AY hl) v o rfl
theorem MV {Γ : As} (hΓ : ∀ k sp,Γ k = some sp → Pd P (k % 4096) sp) {f : Nat} {fn : Func} {c : Code} {sp : Spec} {dc : OH} {rs : List AP} (hf : P.funcs[f]? = some fn) (hname : (fn.name == "runtime.NumGoroutine") = false) (hb : fn.body = some c)
  (hc : OK P fn.ntmps c = some dc) (hr : fn.results.toList.mapM (OM P) = some rs) {np : Nat} (hnp : np ≤ fn.ntmps) (hpre : ∀ ds,sp.pre ds → ds.length = np ∧ BB sp.ptr 0 ds = sp.ptr.map Prod.fst) (hptr : Ew sp.ptr = true) (hok : Lx Γ sp np rs dc) (hni : BF sp.kind = none) (hno : Dn sp.kind = none:=by rfl) : Pd P f sp:=by
 intro F00 hG0
 refine ⟨⟨fn,hf,hname,by rw [hb]; rfl⟩,(fun q hq=>by rw [hni] at hq; cases hq),fun _ _ w F ds xs Mb hsub0 hF hfin hA hp=>?_,fun φ hφ=>by rw [hno] at hφ; cases hφ⟩
 have hΓ : ∀ k sp,Γ k = some sp → Bx P F (k % 4096) sp:=fun k sp h=>hΓ k sp h F (hG0.mono hsub0)
 have hlen : ds.length = xs.length:=by
  clear hp
  generalize 0 = j at hA
  induction hA with
  | nil=>rfl
  | val _ _ _ _ _ _ _ _ _ _ ih=>simp [ih]
  | ptr _ _ _ _ _ _ _ _ _ _ ih=>simp [ih]
  | clo _ _ _ _ _ _ _ _ _ _ _ _ ih=>simp [ih]
 obtain ⟨hdl,hkeys⟩:=hpre ds hp
 obtain ⟨PB,K,hS,hfresh,hnam,hKl,hKf,hKp⟩:=Lo (N:=fn.ntmps) (k:=fn.ntmps - xs.length) hF hfin hA (by omega) hptr hkeys
 refine calls_of_wp hf hb ?_
 have e0 : (xs.toArray.size) = xs.length:=by simp
 rw [e0]
 obtain ⟨τ0,hchg0,hok0⟩:=hok ds hp ⟨hdl,hkeys⟩
 obtain ⟨F00,B00,hS0,hfresh0⟩:=(Az.of hS (Nat.le_refl _) (JI hS)).chg hfresh hchg0
 refine wp_mono (BK hΓ c dc hc _ τ0 F00 B00 _ w hS0 hfresh0 hok0) fun e a' w' hq=>?_
 obtain ⟨τ1,F1,β1,k1',kf1,k3⟩:=hq
 replace k1':=k1'.sim
 have fin0 : ∀ τ F' β',Sim fn.ntmps { w with drawn:=w.heap.size } F (Wr Mb) PB τ F' β' a' w' → Ci sp rs ds τ → (a'.defers = [] ∧ ∃ v,(results fn a'.tmps).run P w' = .ok v w' ∧ CH sp w F ds Mb (.returned v) w'):=by
  intro τ F' β' k1
  rintro ⟨r1,r2,r3⟩
  have hpl : sp.ptr.length = Mb.length:=by
   have:=congrArg List.length hKf
   simpa [hKl] using this.symm
  have hnd : (sp.ptr.map Prod.fst).Nodup:=by
   simp only [Ew,Bool.and_eq_true,decide_eq_true_eq] at hptr
   exact hptr.2
  have hBk : ∀ (k : Nat) key s ty m,sp.ptr[k]? = some (key,(s,ty)) → Mb[k]? = some m → s = m.s ∧ ty = m.ty ∧ β' key = some ⟨some m.b,1,m.s⟩:=by
   intro k key s ty m h1 h2
   have hkl : k < K.length:=by rw [hKl]; exact (List.getElem?_eq_some_iff.1 h2).1
   obtain ⟨⟨key',d⟩,hK⟩ : ∃ p,K[k]? = some p:=⟨_,List.getElem?_eq_getElem hkl⟩
   have e1 : (K.map Prod.fst)[k]? = some key':=by simp [hK]
   have e2 : (sp.ptr.map Prod.fst)[k]? = some key:=by simp [h1]
   rw [hKf,e2] at e1
   cases e1
   have hl:=hKp k key d m hK h2
   have hl2 : look sp.ptr key = some (s,ty):=by
    cases hq : look sp.ptr key with
    | none=>exact absurd (List.mem_of_getElem? h1) (DR hq _)
    | some y =>
     have hm:=AY hq
     obtain ⟨k',hk'⟩:=List.getElem?_of_mem hm
     have e3 : (sp.ptr.map Prod.fst)[k']? = some key:=by simp [hk']
     have:=(List.getElem?_inj (List.getElem?_eq_some_iff.1 e2).1 hnd).1 (e2.trans e3.symm)
     subst this
     rw [h1] at hk'; cases hk'; rfl
   rw [hl2] at hl
   cases hl
   exact ⟨rfl,rfl,k1.nam _ _ (hnam k key d m hK h2)⟩
  obtain ⟨fe,ge,be⟩:=IL k1 sp.ptr Mb hpl hBk r1
  have ending : ∀ (ws : List (Nat × Ac)) (v : Value) (ρ : Nat → Prop),Ao τ ws → (∀ p ∈ ((BE sp.ptr).run τ).2.2,p ∈ ws) → (∀ F2 φ,Af F' F2 → Sim fn.ntmps { w with drawn:=w.heap.size } F (Wr Mb) PB ⟨τ.e,ws ++ τ.o,τ.n⟩ F2 β' a' w' → AB F2 β' w.heap.size (Wr Mb) ⟨τ.e,ws ++ τ.o,τ.n⟩ w' φ → Ly w F2 w' (sp.res ds) v (fun b=>ρ b ∨ (Mb = [] ∧ ∃ g i j,φ g i j b)) sp.kind ∧ (Mb ≠ [] → ∀ g j b,φ g 0 j b → ¬ ρ b)) →
    CH sp w F ds Mb (.returned v) w':=by
   intro ws v ρ hws hsub hres
   obtain ⟨F2,hF2,hS2,_⟩:=k1.freeze hws
   obtain ⟨φ,hφ⟩:=hS2.Ab
   obtain ⟨q1,q2⟩:=hres F2 φ hF2 hS2 hφ
   have hbe:=be ws F2 φ hws hsub hF2 hS2 hφ
   have hpk : ∀ (k : Nat) m,Mb[k]? = some m → ∃ key s ty,sp.ptr[k]? = some (key,(s,ty)):=by
    intro k m hk
    have hlt : k < sp.ptr.length:=by rw [hpl]; exact (List.getElem?_eq_some_iff.1 hk).1
    exact ⟨_,_,_,List.getElem?_eq_getElem hlt⟩
   refine ⟨v,F2,fun k j b=>∃ key st m,sp.ptr[k]? = some (key,st) ∧ Mb[k]? = some m ∧ φ (8192 + key) 0 j b,_,rfl,hS2.frz,hS2.fin,⟨hS2.step.os,hS2.step.tape,hS2.step.output,hS2.step.size,hS2.step.block,hS2.step.sub,hS2.step.old⟩,q1,?_,?_⟩
   ·rw [← r2]
    refine ⟨fun k m hk=>?_,fun k j b ⟨key,st,m,h1,h2,_⟩=>(List.getElem?_eq_some_iff.1 h2).1,fun k j b ⟨key,st,m,h1,h2,h3⟩=>hφ.new _ _ _ _ h3,fun k j k' j' b ⟨key,st,m,h1,h2,h3⟩ ⟨key',st',m',h1',h2',h3'⟩=>?_,fun k j b m ⟨key,st,m1,h1,h2,h3⟩ hm e=>?_⟩
    ·obtain ⟨key,s,ty,hp⟩:=hpk k m hk
     have hz:=(hbe k key s ty m hp hk).1
     refine ⟨hz.var,hz.none_,hz.lt,?_,?_,?_,?_,?_,hz.hole⟩
     ·rintro j b ⟨key',st,m',h1,h2,h3⟩
      rw [hp] at h1; cases h1
      exact hz.fno j b h3
     ·rintro j b ⟨key',st,m',h1,h2,h3⟩
      rw [hp] at h1; cases h1
      exact hz.flt j b h3
     ·rintro j b ⟨key',st,m',h1,h2,h3⟩
      rw [hp] at h1; cases h1
      exact hz.fne j b h3
     ·rintro j j' b ⟨key',st,m',h1,h2,h3⟩ ⟨key'',st',m'',h1',h2',h3'⟩
      rw [hp] at h1; cases h1
      rw [hp] at h1'; cases h1'
      exact hz.dis j j' b h3 h3'
     ·intro C j x s' ty' es hC hj hx
      exact (hz.row C j x s' ty' es hC hj hx).keep (Af.refl _) (fun _ _=>rfl) (fun b hb=>⟨key,(s,ty),m,hp,hk,hb⟩)
    ·have hkk:=(hφ.dis _ _ _ _ _ _ _ h3 h3').1
     have : key = key':=by omega
     subst this
     have e2 : (sp.ptr.map Prod.fst)[k]? = some key:=by simp [h1]
     have e3 : (sp.ptr.map Prod.fst)[k']? = some key:=by simp [h1']
     exact (List.getElem?_inj (List.getElem?_eq_some_iff.1 e2).1 hnd).1 (e2.trans e3.symm)
    ·obtain ⟨k',hk'⟩:=List.getElem?_of_mem hm
     obtain ⟨key',s',ty',hp'⟩:=hpk k' m hk'
     obtain ⟨_,o',z1,z2⟩:=hbe k' key' s' ty' m hp' hk'
     obtain ⟨_,_,hβ⟩:=hBk k' key' s' ty' m hp' hk'
     subst e
     exact hφ.sep _ _ _ _ _ _ _ _ h3 z1 z2 hβ rfl
   ·rintro k j b ⟨key,st,m,h1,h2,h3⟩ (hρ | ⟨hM0,_⟩)
    ·exact q2 (fun e=>by rw [e] at h2; simp at h2) _ _ _ h3 hρ
    ·rw [hM0] at h2; simp at h2
  refine ⟨k1.defers,?_⟩
  have one : (sp.kind = .val ∨ sp.kind = .ground) → ∀ r,rs = [r] → ((DX r).run τ).1 → ((DX r).run τ).2.1 = sp.res ds → ∃ v,(results fn a'.tmps).run P w' = .ok v w' ∧ CH sp w F ds Mb (.returned v) w':=by
   rintro hk r rfl c1 c2
   simp only [DX,R.run_bind,R.run_pure] at c1 c2
   obtain ⟨d1,d2⟩:=c1
   obtain ⟨vs,v1,v2,v3⟩:=BQ (P:=P) k1 hr (fun r' hr'=>by simp only [List.mem_singleton] at hr'; subst hr'; exact d1)
   have hl1 : vs.length = 1:=v2
   rw [dif_pos hl1] at v1
   refine ⟨_,v1,?_⟩
   have hval:=v3 0 r vs[0] rfl (List.getElem?_eq_getElem (by omega))
   obtain ⟨f1,g1⟩:=Fj k1 _ hval d2
   refine ending (((res ((OG r).run τ).2).run τ).2.2 ++ ((BE sp.ptr).run τ).2.2) _ (fun _=>False) (f1.append fe) (fun p hp=>by simp [hp]) (fun F2 φ hF2 hS2 _=>⟨?_,fun _ _ _ _ _=>id⟩)
   have:=g1 _ F2 (f1.append fe) (fun p hp=>by simp [hp]) hF2 hS2
   rw [c2] at this
   rcases hk with hk | hk <;> (rw [hk]; exact this)
  have many : (sp.kind = .val ∨ sp.kind = .ground) → ((AD rs).run τ).1 → .tup ((AD rs).run τ).2.1 = sp.res ds → rs.length ≠ 1 → ∃ v,(results fn a'.tmps).run P w' = .ok v w' ∧ CH sp w F ds Mb (.returned v) w':=by
   intro hk c1 c2 c3
   obtain ⟨vs,v1,v2,v3⟩:=BQ (P:=P) k1 hr (Dp rs c1)
   have hl1 : ¬ vs.length = 1:=by rw [v2]; exact c3
   rw [dif_neg hl1] at v1
   refine ⟨_,v1,?_⟩
   obtain ⟨f1,l1,g1⟩:=Ex k1 rs vs v2.symm (fun i r v h1 h2 _=>v3 i r v h1 h2) c1
   refine ending (((AD rs).run τ).2.2 ++ ((BE sp.ptr).run τ).2.2) _ (fun _=>False) (f1.append fe) (fun p hp=>by simp [hp]) (fun F2 φ hF2 hS2 _=>⟨?_,fun _ _ _ _ _=>id⟩)
   have hh:=g1 _ F2 (f1.append fe) (fun p hp=>by simp [hp]) hF2 hS2
   have : Fro F2 (sp.res ds) (.tuple vs.toArray):=by
    rw [← c2]
    exact .tup _ vs l1 hh
   rcases hk with hk | hk <;> (rw [hk]; exact this)
  cases hk : sp.kind with
  | inpl r fl fk=>rw [hk] at hni; cases hni
  | opn q=>rw [hk] at hno; cases hno
  | val =>
   rw [hk] at r3
   match rs,r3,one,many with
   | [r],r3,one,_=>exact one (.inl hk) r rfl r3.1 r3.2
   | [],r3,_,many=>exact many (.inl hk) r3.1 r3.2.1 r3.2.2
   | _ :: _ :: _,r3,_,many=>exact many (.inl hk) r3.1 r3.2.1 r3.2.2
  | ground =>
   rw [hk] at r3
   match rs,r3,one,many with
   | [r],r3,one,_=>exact one (.inr hk) r rfl r3.1 r3.2
   | [],r3,_,many=>exact many (.inr hk) r3.1 r3.2.1 r3.2.2
   | _ :: _ :: _,r3,_,many=>exact many (.inr hk) r3.1 r3.2.1 r3.2.2
  | row s ty =>
   rw [hk] at r3
   match rs,r3,hr with
   | [r],⟨d1,d2,d3,d4⟩,hr =>
    obtain ⟨vs,v1,v2,v3⟩:=BQ (P:=P) k1 hr (fun r' hr'=>by simp only [List.mem_singleton] at hr'; subst hr'; exact d1)
    have hl1 : vs.length = 1:=v2
    rw [dif_pos hl1] at v1
    refine ⟨_,v1,?_⟩
    have hval:=v3 0 r vs[0] rfl (List.getElem?_eq_getElem (by omega))
    obtain ⟨es,L,g,v,o,g1,g2,n1,n2,n3,n4,n5,n6,n7,g3⟩:=Jd k1 (Nat.le_refl _) hval d2
    refine ending _ _ (fun b=>L.b = some b) fe (fun p hp=>hp) (fun F2 φ hF2 hS2 hφ=>?_)
    obtain ⟨g4,g6,g5⟩:=g3 _ F2 d4 hF2 hS2
    rw [hk]
    refine ⟨⟨es,L,d3.symm.trans g1,g2,g4,fun b hb=>⟨((g5 b hb).1).resolve_right (fun z=>by cases z.1),(g5 b hb).2.1,(g5 b hb).2.2,.inl hb⟩⟩,fun _ g' j b hb hLb=>?_⟩
    exact hφ.sep g' 0 j b g v o L hb g6 n2 n5 hLb
   | [],r3,_=>exact r3.elim
   | _ :: _ :: _,r3,_=>exact r3.elim
  | mat s ty =>
   rw [hk] at r3
   match rs,r3,hr with
   | [r],⟨d1,d2,d3,d4⟩,hr =>
    obtain ⟨vs,v1,v2,v3⟩:=BQ (P:=P) k1 hr (fun r' hr'=>by simp only [List.mem_singleton] at hr'; subst hr'; exact d1)
    have hl1 : vs.length = 1:=v2
    rw [dif_pos hl1] at v1
    refine ⟨_,v1,?_⟩
    have hval:=v3 0 r vs[0] rfl (List.getElem?_eq_getElem (by omega))
    have hM0 : Mb = []:=Dx d4 hA
    have hpe : (BE sp.ptr).run τ = (True,[],[]):=by rw [d4]; rfl
    obtain ⟨es,L,g,v,o,g1,g2,n1,n2,n3,n4,n5,⟨n0,rfl⟩,n7,g3⟩:=Jd k1 (Nat.le_refl _) hval d2
    refine ending [] _ (fun b=>L.b = some b) (Ao.nil _) (fun p hp=>by rw [hpe] at hp; cases hp) (fun F2 φ hF2 hS2 hφ=>?_)
    obtain ⟨g4,g6,g5⟩:=g3 [] F2 (by simp) hF2 hS2
    have hidx : ∀ (i : Nat) e,(o.es.take n0)[i]? = some e → o.es[i]? = some e:=fun i e he=>Gt he
    have hnew : ∀ b,w.heap.size ≤ b ∨ Wr Mb b → w.heap.size ≤ b:=by
     rintro b (hb | ⟨m,hm,_⟩)
     ·exact hb
     ·rw [hM0] at hm; cases hm
    rw [hk]
    refine ⟨⟨_,L,fun i j b=>φ g i j b,d3.symm.trans g1,g2,g4,fun b hb=>⟨hnew b ((g5 b hb).1.imp id And.right),(g5 b hb).2.1,(g5 b hb).2.2,.inl hb⟩,fun i j b hb=>⟨hnew b (hφ.new _ _ _ _ hb),hφ.lt _ _ _ _ hb,hφ.none_ _ _ _ _ hb,.inr ⟨hM0,g,i,j,hb⟩,hφ.sep g i j b g v o L hb g6 n2 n5⟩,
     fun i j i' j' b h1 h2=>(hφ.dis _ _ _ _ _ _ _ h1 h2).2,fun b C i j e x s' ty' es' hb hC he hj hx=>hφ.row g v o L b C i j e x s' ty' es' n1 g6 n2 n5 hb (by rw [n4]; exact hC) (hidx i e he) hj (by rw [n3]; exact hx),fun i j e nm u n he hj=>n7 rfl e (List.mem_of_getElem? (hidx i e he)) _ (List.mem_of_getElem? hj) nm u n rfl⟩,fun hne=>absurd hM0 hne⟩
   | [],r3,_=>exact r3.elim
   | _ :: _ :: _,r3,_=>exact r3.elim
  | ptr s ty =>
   rw [hk] at r3
   match rs,r3,hr with
   | [r],⟨d1,d2,d3,d4⟩,hr =>
    obtain ⟨vs,v1,v2,v3⟩:=BQ (P:=P) k1 hr (fun r' hr'=>by simp only [List.mem_singleton] at hr'; subst hr'; exact d1)
    have hl1 : vs.length = 1:=v2
    rw [dif_pos hl1] at v1
    refine ⟨_,v1,?_⟩
    have hval:=v3 0 r vs[0] rfl (List.getElem?_eq_getElem (by omega))
    obtain ⟨f1,g,v,o,b,g1,g2,g3,g4,g5,g6,g7⟩:=Jc k1 (Nat.le_refl _) hval d2
    refine ending (((Cc s ty ((OG r).run τ).2).run τ).2.2.1 ++ ((BE sp.ptr).run τ).2.2) _ (fun b'=>b' = b) (f1.append fe) (fun p hp=>by simp [hp]) (fun F2 φ hF2 hS2 hφ=>?_)
    obtain ⟨z1,z2,z3,z4,v',o',z5,z6,z7⟩:=g7 _ F2 (f1.append fe) (fun p hp=>by simp [hp]) hF2 hS2
    rw [hk]
    refine ⟨⟨b,g6,by rw [← d3]; exact z1,z4.resolve_right (fun z=>by rw [g1] at d4; rw [d4] at z; cases z.2),z3,z2,.inl rfl⟩,fun _ g' j b' hb e=>?_⟩
    subst e
    exact hφ.sep g' 0 j _ g v' o' _ hb z5 z6 z7 rfl
   | [],r3,_=>exact r3.elim
   | _ :: _ :: _,r3,_=>exact r3.elim
  | tupPtr q s ty =>
   rw [hk] at r3
   have r3' : q < rs.length ∧ rs.length ≠ 1 ∧ sp.ptr = [] ∧ ((AD (rs.take q)).run τ).1 ∧ ((AD (rs.drop (q + 1))).run τ).1 ∧ ((OG (rs.getD q (.t 0))).run τ).1 ∧ ((Cc s ty ((OG (rs.getD q (.t 0))).run τ).2).run τ).1 ∧
     .tup (((AD (rs.take q)).run τ).2.1 ++ ((Cc s ty ((OG (rs.getD q (.t 0))).run τ).2).run τ).2.1 :: ((AD (rs.drop (q + 1))).run τ).2.1) = sp.res ds:=by
    cases rs with
    | nil=>exact r3
    | cons r0 rs=>cases rs <;> exact r3
   obtain ⟨t1,t2,t3,t4,t5,t6,t7,t8⟩:=r3'
   have hq : rs[q]? = some (rs.getD q (.t 0)):=by simp [t1]
   generalize rs.getD q (.t 0) = rq at *
   have hsplit : rs = rs.take q ++ rq :: rs.drop (q + 1):=by
    obtain ⟨hl,he⟩:=List.getElem?_eq_some_iff.1 hq
    rw [← he,← List.drop_eq_getElem_cons hl,List.take_append_drop]
   have conds : ∀ r ∈ rs,((OG r).run τ).1:=by
    intro r hr'
    rw [hsplit,List.mem_append,List.mem_cons] at hr'
    rcases hr' with h1 | rfl | h1
    ·exact Dp _ t4 r h1
    ·exact t6
    ·exact Dp _ t5 r h1
   obtain ⟨vs,v1,v2,v3⟩:=BQ (P:=P) k1 hr conds
   rw [dif_neg (by rw [v2]; exact t2)] at v1
   refine ⟨_,v1,?_⟩
   have hvl : q < vs.length:=by omega
   have hvq : vs[q]? = some vs[q]:=List.getElem?_eq_getElem hvl
   obtain ⟨fP,g,v,o,b,g1,g2,g3,g4,g5,g6,g7⟩:=Jc k1 (Nat.le_refl _) (v3 q rq vs[q] hq hvq) t7
   obtain ⟨fA,lA,gA⟩:=Ex k1 (rs.take q) (vs.take q) (by simp [v2]) (fun i r v h1 h2 _=>v3 i r v (Gt h1) (Gt h2)) t4
   obtain ⟨fB,lB,gB⟩:=Ex k1 (rs.drop (q + 1)) (vs.drop (q + 1)) (by simp [v2]) (fun i r v h1 h2 _=>v3 (q + 1 + i) r v (by rw [← List.getElem?_drop]; exact h1) (by rw [← List.getElem?_drop]; exact h2)) t5
   refine ending (((AD (rs.take q)).run τ).2.2 ++ (((Cc s ty ((OG rq).run τ).2).run τ).2.2.1 ++ (((AD (rs.drop (q + 1))).run τ).2.2 ++ ((BE sp.ptr).run τ).2.2))) _ (fun b'=>b' = b) (fA.append (fP.append (fB.append fe))) (fun p hp=>by simp [hp]) (fun F2 φ hF2 hS2 _=>⟨?_,fun hne=>absurd (Dx t3 hA) hne⟩)
   have hws:=fA.append (fP.append (fB.append fe))
   obtain ⟨z1,z2,z3,z4⟩:=g7 _ F2 hws (fun p hp=>by simp [hp]) hF2 hS2
   have zA:=gA _ F2 hws (fun p hp=>by simp [hp]) hF2 hS2
   have zB:=gB _ F2 hws (fun p hp=>by simp [hp]) hF2 hS2
   have lA' : ((AD (rs.take q)).run τ).2.1.length = q:=by rw [lA]; simp; omega
   rw [hk]
   refine ⟨_,vs,b,t8.symm,rfl,?_,?_,?_,?_,?_,z3,z2,.inl rfl⟩
   ·simp only [List.length_append,List.length_cons,lA',lB,List.length_drop]; omega
   ·intro j c x hj hc hx
    rcases Nat.lt_trichotomy j q with h1 | h1 | h1
    ·rw [List.getElem?_append_left (by omega)] at hc
     exact zA j c x hc (by rw [List.getElem?_take]; simp [h1,hx])
    ·exact absurd h1 hj
    ·obtain ⟨i,rfl⟩ : ∃ i,j = q + 1 + i:=⟨j - (q + 1),by omega⟩
     rw [List.getElem?_append_right (by omega),lA',show q + 1 + i - q = i + 1 by omega,List.getElem?_cons_succ] at hc
     exact zB i c x hc (by rw [List.getElem?_drop]; exact hx)
   ·rw [hvq,g6]
   ·rw [List.getD_eq_getElem?_getD,List.getElem?_append_right (by omega),lA',Nat.sub_self]
    exact z1
   ·rcases z4.1 with z4 | ⟨⟨m,hm,_⟩,_⟩
    ·exact z4
    ·rw [Dx t3 hA] at hm; cases hm
 have fin : Wk (Ci sp rs ds) τ1 → (a'.defers = [] ∧ ∃ v,(results fn a'.tmps).run P w' = .ok v w' ∧ CH sp w F ds Mb (.returned v) w'):=by
  rintro ⟨τ,hc1,hr1⟩
  obtain ⟨F',β',k1,_⟩:=k1'.chg kf1 hc1
  exact fin0 τ F' β' k1 hr1
 cases e with
 | normal=>exact fin k3
 | ret=>exact fin k3
 | exit id=>exact k3.elim
 | goto l=>exact k3.elim
 | panic ch=>exact k3.elim
 | outgrown=>exact k3.elim
end
end Go.Dw
namespace Go.Dw
theorem Mq {P : Program} {Γ : As} (hΓ : ∀ k sp,Γ k = some sp → Pd P (k % 4096) sp) {f : Nat} {fn : Func} {sp : Spec} {dc : OH} {rs : List AP} (hf : P.funcs[f]? = some fn) (hname : (fn.name == "runtime.NumGoroutine") = false)
  (hc : (fn.body.bind (OK P fn.ntmps)) = some dc) (hr : fn.results.toList.mapM (OM P) = some rs) {np : Nat} (hnp : np ≤ fn.ntmps) (hpre : ∀ ds,sp.pre ds → ds.length = np ∧ BB sp.ptr 0 ds = sp.ptr.map Prod.fst) (hptr : Ew sp.ptr = true) (hok : Lx Γ sp np rs dc) (hni : BF sp.kind = none) (hno : Dn sp.kind = none:=by rfl) : Pd P f sp:=by
 rw [Option.bind_eq_some_iff] at hc
 obtain ⟨c,hb,hc⟩:=hc
 exact MV hΓ hf hname hb hc hr hnp hpre hptr hok hni hno
def specs (l : List (Nat × Spec)) : As:=fun k=>look l k
theorem Pk {P : Program} {l : List (Nat × Spec)} (h : ∀ p ∈ l,Pd P (p.1 % 4096) p.2) : ∀ k sp,specs l k = some sp → Pd P (k % 4096) sp:=fun _k _sp hk=>h _ (AY hk)
theorem Pv {P : Program} : ∀ k sp,specs [] k = some sp → Pd P (k % 4096) sp:=Pk (fun _ h=>by cases h)
theorem Apv {n : Int} (h0 : -9223372036854775808 ≤ n) (h1 : n ≤ 9223372036854775807) : IntKind.i64.wrap n = n:=by
 rw [IntKind.wrap_i64]; omega
end Go.Dw
namespace Go.Dw
def DH : Nat → List D → List (Nat × D)
 | _,[]=>[]
 | j,d :: r=>(j,d) :: DH (j + 1) r
theorem Ht : ∀ (ds : List D) (j t : Nat),look (DH j ds) t = if j ≤ t then ds[t - j]? else none
 | [],j,t=>by simp [DH,look]
 | d :: r,j,t=>by
  simp only [DH,look,Ht r (j + 1) t]
  by_cases h : t = j
  ·subst h; simp
  ·rw [if_neg h]
   by_cases h2 : j + 1 ≤ t
   ·rw [if_pos h2,if_pos (by omega),show t - j = (t - (j + 1)) + 1 by omega,List.getElem?_cons_succ]
   ·rw [if_neg h2,if_neg (by omega)]
def OO : D → Bool
 | .agg _ | .tup _ | .when ..=>false
 | _=>true
def OL (rs : List AP) (τ : S) : Prop × D :=
 match rs with
 | [r]=>(((OG r).run τ).1,((OG r).run τ).2)
 | rs=>((∀ r ∈ rs,((OG r).run τ).1) ∧ (rs.map fun r=>((OG r).run τ).2).all OO = true,.tup (rs.map fun r=>((OG r).run τ).2))
def Ih (rs : List AP) (e : List (Nat × D)) (K : D → S → Prop) : Au → S → Prop:=fun x τ =>
 match x with
 | .exit _=>False
 | _=>Wk (fun τ=>(OL rs τ).1 ∧ K (OL rs τ).2 ⟨e,τ.o,τ.n⟩) τ
def Lf (Γ : As) (np : Nat) (rs : List AP) (dc : OH) : List D → S → (D → S → Prop) → Prop:=fun ds σ K =>
 ds.length = np ∧ Wk (DWp Γ dc (Ih rs σ.e K)) ⟨DH 0 ds,σ.o,σ.n⟩
def ON (Γ : As) (np : Nat) (rs : List AP) (dc : OH) : Spec:=⟨[],.opn (Lf Γ np rs dc),fun _=>False,fun _=>.top,fun _=>[]⟩
theorem Lv {F : Fz} {β : Bt} {d : D} {x : Value} (h : Val F β d x) (ht : OO d = true) : Cel F β d x:=by
 cases d <;> first | exact h | cases ht
theorem OP {P : Program} {Γ : As} (hΓ : ∀ k sp,Γ k = some sp → Pd P (k % 4096) sp) {f : Nat} {fn : Func} {dc : OH} {rs : List AP} (hf : P.funcs[f]? = some fn) (hname : (fn.name == "runtime.NumGoroutine") = false)
  (hc : (fn.body.bind (OK P fn.ntmps)) = some dc) (hr : fn.results.toList.mapM (OM P) = some rs) {np : Nat} (hnp : np ≤ fn.ntmps) : Pd P f (ON Γ np rs dc):=by
 rw [Option.bind_eq_some_iff] at hc
 obtain ⟨c,hb,hc⟩:=hc
 intro F0 hG
 refine ⟨⟨fn,hf,hname,by rw [hb]; rfl⟩,fun q hq=>(by cases hq),fun _ h=>(by cases h),fun φ hφ=>?_⟩
 cases hφ
 rintro F0' hF0' N w0 M B0 σ F β a w ds vs K hM hfr hl hv ⟨hn,τ0,hchg,hw⟩
 have h:=hM.sim
 obtain ⟨w1,F1',M1,B1,hb1,h1,hm1⟩:=hM
 have hΓ' : ∀ k sp,Γ k = some sp → Bx P F (k % 4096) sp:=fun k sp hk=>hΓ k sp hk F (hG.mono (hF0'.trans h.step.sub))
 have hS : Sim fn.ntmps w1 F M1 β ⟨DH 0 ds,σ.o,σ.n⟩ F β { tmps:=vs.toArray ++ Array.replicate (fn.ntmps - vs.toArray.size) undef,defers:=[] } w:=by
  refine { nam:=At.refl _,size:=by simp; omega,defers:=rfl,env:=fun t=>?_,own:=h1.own,dist:=h1.dist,sep:=h1.sep,Ab:=?_,frz:=h1.frz,fin:=h1.fin,step:=⟨h1.step.os,h1.step.tape,h1.step.output,h1.step.size,h1.step.block,Af.refl _,fun _ _ _ _=>rfl⟩ }
  ·simp only [S.ge,Ht,Nat.zero_le,if_true,Nat.sub_zero]
   by_cases ht : t < ds.length
   ·have h1 : ds[t]? = some ds[t]:=List.getElem?_eq_getElem ht
    have h2 : vs[t]? = some (vs[t]'(by omega)):=List.getElem?_eq_getElem _
    rw [h1]
    have e : (vs.toArray ++ Array.replicate (fn.ntmps - vs.toArray.size) undef).getD t undef = vs[t]'(by omega):=by
     rw [Array.getD_eq_getD_getElem?,Array.getElem?_append_left (by simp; omega)]
     simp [h2]
    rw [e]
    exact Env.Aj (hv t _ _ h1 h2)
   ·rw [List.getElem?_eq_none (by omega)]
    exact Env.top _
  ·obtain ⟨φ,hφ⟩:=h1.Ab
   exact ⟨φ,hφ.congr fun _=>rfl⟩
 have hbase : CW w0 F M β w1 F M1 β:=⟨⟨hb1.stp.os,hb1.stp.tape,hb1.stp.output,hb1.stp.size,hb1.stp.block,Af.refl _,fun _ _ _ _=>rfl⟩,hb1.new,At.refl _,hb1.mark⟩
 have hSM : Az fn.ntmps w0 F M β ⟨DH 0 ds,σ.o,σ.n⟩ F β { tmps:=vs.toArray ++ Array.replicate (fn.ntmps - vs.toArray.size) undef,defers:=[] } w :=
  ⟨w1,F,M1,β,hbase,hS,fun g v o hg h0=>by
   obtain ⟨q1,b,q2,q3,q4,q5,q6,q7⟩:=hm1.at_ g v o hg h0
   exact ⟨q1,b,h1.nam _ _ q2,q3,q4,fun i=>(h1.step.old b i q3 q4).trans (q5 i),q6,q7⟩,fun g g' v v' o o' b hg hg' h0 h0' e1 e2=>by
   obtain ⟨_,b1,q2,_⟩:=hm1.at_ g v o hg h0
   obtain ⟨_,b2,q2',_⟩:=hm1.at_ g' v' o' hg' h0'
   have z1:=h1.nam _ _ q2
   have z2:=h1.nam _ _ q2'
   rw [e1] at z1; cases z1
   rw [e2] at z2; cases z2
   exact hm1.dis g g' v v' o o' b hg hg' h0 h0' q2 q2'⟩
 refine calls_of_wp hf hb ?_
 obtain ⟨F1,β1,hS1,hfr1⟩:=hSM.chg hfr hchg
 refine wp_mono (BK hΓ' c dc hc _ τ0 F1 β1 _ w hS1 hfr1 hw) fun e a' w' hq=>?_
 obtain ⟨τ1,F2,β2,k1,k2,k3⟩:=hq
 have fin : Wk (fun τ=>(OL rs τ).1 ∧ K (OL rs τ).2 ⟨σ.e,τ.o,τ.n⟩) τ1 → (a'.defers = [] ∧ ∃ v,(results fn a'.tmps).run P w' = .ok v w' ∧ ∃ v' d o' n' F' β',Ending.returned v = .returned v' ∧ Az N w0 F0' M B0 ⟨σ.e,o',n'⟩ F' β' a w' ∧ (∀ v,n' ≤ v → β' v = none) ∧ Val F' β' d v' ∧ K d ⟨σ.e,o',n'⟩):=by
  rintro ⟨τ,hc1,hr1,hk⟩
  obtain ⟨F',β',zM,z2⟩:=k1.chg k2 hc1
  obtain ⟨w2,F2',M2,B2,hb2,z1,hm2⟩:=zM
  have hall : ∀ r ∈ rs,((OG r).run τ).1:=by
   unfold OL at hr1
   split at hr1
   ·intro r hr; simp only [List.mem_singleton] at hr; subst hr; exact hr1
   ·exact hr1.1
  obtain ⟨xs,r1,r2,r3⟩:=BQ (P:=P) z1 (fn:=fn) hr hall
  refine ⟨z1.defers,_,r1,_,(OL rs τ).2,τ.o,τ.n,F',β',rfl,?_,z2,?_,hk⟩
  ·refine ⟨w2,F2',M2,B2,⟨⟨hb2.stp.os,hb2.stp.tape,hb2.stp.output,hb2.stp.size,hb2.stp.block,h.step.sub.trans hb2.stp.sub,fun b i hb hM=>(hb2.stp.old b i hb hM).trans (h.step.old b i hb hM)⟩,hb2.new,h.nam.trans hb2.nam,hb2.mark⟩,?_,hm2.sub fun g v o hg _=>hg⟩
   refine { nam:=z1.nam,size:=h.size,defers:=h.defers,env:=fun t=>(h.env t).mono (hb2.stp.sub.trans z1.step.sub) (hb2.nam.trans z1.nam),own:=z1.own,dist:=z1.dist,sep:=z1.sep,Ab:=?_,frz:=z1.frz,fin:=z1.fin,step:=z1.step }
   obtain ⟨φ,hφ⟩:=z1.Ab
   exact ⟨φ,hφ.congr fun _=>rfl⟩
  ·unfold OL at hr1 ⊢
   split
   ·rename_i r
    have hl1 : xs.length = 1:=by simpa using r2
    rw [dif_pos hl1]
    exact r3 0 r _ rfl (List.getElem?_eq_getElem (by omega))
   ·rename_i hne
    have hl1 : xs.length ≠ 1:=by
     intro e
     rw [r2] at e
     match rs,e with
     | [r],_=>exact hne r rfl
    rw [dif_neg hl1]
    split at hr1
    ·rename_i r; exact (hne r rfl).elim
    refine ⟨xs,rfl,by simp [r2],fun j c x hj hx=>?_⟩
    have ht:=List.all_eq_true.1 hr1.2 c (List.mem_of_getElem? hj)
    rw [List.getElem?_map,Option.map_eq_some_iff] at hj
    obtain ⟨r,hj,rfl⟩:=hj
    exact Lv (r3 j r x hj hx) ht
 cases e with
 | normal=>exact fin k3
 | ret=>exact fin k3
 | exit id=>exact k3.elim
 | goto l=>exact k3.elim
 | panic ch=>exact k3.elim
 | outgrown=>exact k3.elim
end Go.Dw
namespace Go.Dw
section
variable {ι R : Type} {body : ι → Option (ι ⊕ R)} {s : ι} {r r' : R} {n m : Nat}
def Dk (body : ι → Option (ι ⊕ R)) : Nat → ι → Option R
 | 0,_=>none
 | n + 1,s=>match body s with
  | none=>none
  | some (.inr r)=>some r
  | some (.inl s')=>Dk body n s'
theorem Cb : Dk body (n + 1) s = match body s with
  | none=>none
  | some (.inr r)=>some r
  | some (.inl s')=>Dk body n s':=rfl
theorem Et : ∀ {n m : Nat} {s : ι},Dk body n s = some r → n ≤ m → Dk body m s = some r
 | 0,_,_,h,_=>by cases h
 | n + 1,0,_,_,h'=>by omega
 | n + 1,m + 1,s,h,h'=>by
  rw [Cb] at h ⊢
  cases hb : body s with
  | none=>rw [hb] at h; cases h
  | some x =>
   rw [hb] at h
   cases x with
   | inr y=>exact h
   | inl s'=>exact Et h (Nat.le_of_succ_le_succ h')
theorem Ks (h : Dk body n s = some r) (h' : Dk body m s = some r') : r = r':=by
 have h1:=Et h (Nat.le_max_left n m)
 have h2:=Et h' (Nat.le_max_right n m)
 rw [h1] at h2
 exact Option.some.inj h2
open Classical in
noncomputable def Pq (body : ι → Option (ι ⊕ R)) (s : ι) : Option R :=
 if h : ∃ r,∃ n,Dk body n s = some r then some (Classical.choose h) else none
theorem EV : Pq body s = some r ↔ ∃ n,Dk body n s = some r:=by
 unfold Pq
 split
 ·rename_i h
  obtain ⟨n,hn⟩:=Classical.choose_spec h
  constructor
  ·intro e
   cases e
   exact ⟨n,hn⟩
  ·rintro ⟨m,hm⟩
   rw [Ks hn hm]
 ·rename_i h
  constructor
  ·intro e; cases e
  ·rintro ⟨n,hn⟩; exact (h ⟨r,n,hn⟩).elim
theorem AeG (body : ι → Option (ι ⊕ R)) (s : ι) : Pq body s = match body s with
  | none=>none
  | some (.inr r)=>some r
  | some (.inl s')=>Pq body s':=by
 apply Option.ext
 intro r
 rw [EV]
 cases hb : body s with
 | none =>
  simp only [reduceCtorEq,iff_false,not_exists]
  intro n hn
  cases n with
  | zero=>cases hn
  | succ n=>rw [Cb,hb] at hn; cases hn
 | some x =>
  cases x with
  | inr y =>
   constructor
   ·rintro ⟨n,hn⟩
    cases n with
    | zero=>cases hn
    | succ n=>rw [Cb,hb] at hn; exact hn
   ·intro e; exact ⟨1,by rw [Cb,hb]; exact e⟩
  | inl s' =>
   simp only [EV]
   constructor
   ·rintro ⟨n,hn⟩
    cases n with
    | zero=>cases hn
    | succ n=>rw [Cb,hb] at hn; exact ⟨n,hn⟩
   ·rintro ⟨n,hn⟩; exact ⟨n + 1,by rw [Cb,hb]; exact hn⟩
theorem Ans (I : ι → Prop) (P : R → Prop) (μ : ι → Nat) (h0 : I s)
  (hb : ∀ s,I s → (∃ s',body s = some (.inl s') ∧ I s' ∧ μ s' < μ s) ∨ ∃ r,body s = some (.inr r) ∧ P r) : ∃ r,Pq body s = some r ∧ P r:=by
 generalize hk : μ s = k
 induction k using Nat.strongRecOn generalizing s with
 | _ k ih =>
  rw [AeG]
  rcases hb s h0 with ⟨s',h1,h2,h3⟩ | ⟨r,h1,h2⟩
  ·rw [h1]
   exact ih (μ s') (by omega) h2 rfl
  ·rw [h1]
   exact ⟨r,rfl,h2⟩
end
def chk {R : Type} (p : Prop) [Decidable p] (t : Option R) : Option R:=if p then t else none
def ixO {α : Type} (l : List α) (i : Int) : Option α:=if i < 0 then none else l[i.toNat]?
def lft {ι R : Type} (t : Option R) : Option (ι ⊕ R):=t.map .inr
def cnt {ι R : Type} (s : ι) : Option (ι ⊕ R):=some (.inl s)
theorem Qa {R : Type} {p : Prop} [Decidable p] {t : Option R} (h : p) : chk p t = t:=if_pos h
theorem HT {R : Type} {p : Prop} [Decidable p] {t : Option R} {r : R} (h : chk p t = some r) : p ∧ t = some r:=by
 unfold chk at h
 split at h
 ·exact ⟨‹_›,h⟩
 ·cases h
theorem Alq {α : Type} {l : List α} {i : Int} {x : α} (h : ixO l i = some x) : 0 ≤ i ∧ i < l.length ∧ l[i.toNat]? = some x:=by
 unfold ixO at h
 split at h
 ·cases h
 ·have:=(List.getElem?_eq_some_iff.1 h).1
  exact ⟨by omega,by omega,h⟩
section
variable {Γ : As} {R ι γ : Type}
def Has (σ : S) (E : List (Nat × D)) (O : List (Nat × Ac)) : Prop:=∃ n,Chg σ ⟨E,O,n⟩
def Tr (Γ : As) (c : OH) (K : R → Au → S → Prop) (σ : S) (t : Option R) : Prop:=∀ r,t = some r → DWp Γ c (K r) σ
def TrX (e : Au) (K : R → Au → S → Prop) (σ : S) (t : Option R) : Prop:=∀ r,t = some r → K r e σ
abbrev CO:=List Key × List Key × List Nat
structure KR (R : Type) where
 N : Nat
 K : R → Au → S → Prop
def TrO (Γ : As) (ops : List Av) (nv : Nat) (σ : S) (d : Bool) (acc : List CO) (K : KR R) (t : Option R) : Prop :=
 ∀ r,t = some r → (d = false → wpS Γ ops nv σ (K.K r .normal)) ∧ (d = true → Dw.wpOps Γ ops nv σ (fun τ=>K.K r .normal { τ with n:=K.N }) ∧ Ef (acc ++ CQ Γ ops nv σ) = true)
def Eu (N : Nat) (K : R → Au → S → Prop) : KR R:=⟨N,K⟩
def Ie (Γ : As) (b : OH) (K : R → Au → S → Prop) : R → Au → S → Prop:=fun r=>Au.then (Wk (DWp Γ b (K r))) (K r)
def Gi (id : Nat) (K : R → Au → S → Prop) : R → Au → S → Prop:=fun r=>Au.inBlock id (K r)
def Ic (E : ι → γ → List (Nat × D)) (O : ι → γ → List (Nat × Ac)) (j : ι → Option R) (K : R → Au → S → Prop) : R → Au → S → Prop:=fun r e τ =>
 match e with
 | .normal=>∃ s g,j s = some r ∧ Has τ (E s g) (O s g)
 | e=>K r e τ
def Dl (id : Nat) (E : ι → γ → List (Nat × D)) (O : ι → γ → List (Nat × Ac)) (j : ι → Option R) (K : R → Au → S → Prop) : R → Au → S → Prop:=fun r e τ =>
 match e with
 | .normal=>∃ s g,j s = some r ∧ Has τ (E s g) (O s g)
 | .exit id'=>if id' = id then ∃ s g,j s = some r ∧ Has τ (E s g) (O s g) else K r (.exit id') τ
 | .ret=>K r .ret τ
def GJ (E : ι → γ → List (Nat × D)) (O : ι → γ → List (Nat × Ac)) (K : R → Au → S → Prop) : (ι ⊕ R) → Au → S → Prop:=fun x e τ =>
 match x,e with
 | .inl s,.normal=>∃ g,Has τ (E s g) (O s g)
 | .inl _,_=>False
 | .inr _,.normal=>False
 | .inr r,e=>K r e τ
theorem GZ : ∀ (ops : List Av) (nv : Nat) (σ : S) (K K' : S → Prop),(∀ τ,K τ → K' τ) → Dw.wpOps Γ ops nv σ K → Dw.wpOps Γ ops nv σ K'
 | [],_,_,_,_,hK,h=>hK _ h
 | _ :: ops,_,_,_,_,hK,h=>⟨h.1,GZ ops _ _ _ _ hK h.2⟩
theorem Wk.mono {f g : S → Prop} (h : ∀ τ,f τ → g τ) {σ : S} : Wk f σ → Wk g σ:=fun ⟨τ,h1,h2⟩=>⟨τ,h1,h τ h2⟩
theorem JV {o : Av} {σ : S} {K K' : S → Prop} (hK : ∀ τ,K τ → K' τ) : Ha Γ o σ K → Ha Γ o σ K':=by
 rintro ⟨h1,fa,args,f,caps,sp,φ,K0,h2,h⟩
 exact ⟨h1,fa,args,f,caps,sp,φ,K0,fun τ hτ=>hK τ (h2 τ hτ),h⟩
theorem Kv {o : Av} {σ : S} {K K' : S → Prop} (hK : ∀ τ,K τ → K' τ) : JM o σ K → JM o σ K':=by
 rintro ⟨h1,h2,t,h3,h5⟩
 exact ⟨h1,h2,t,h3,hK _ h5⟩
theorem ED : ∀ (ops : List Av) (nv : Nat) (σ : S) (K K' : S → Prop),(∀ τ,K τ → K' τ) → wpS Γ ops nv σ K → wpS Γ ops nv σ K'
 | [],_,_,_,_,hK,h=>hK _ h
 | _ :: ops,_,_,_,_,hK,h=>h.imp (fun h=>⟨h.1,ED ops _ _ _ _ hK h.2⟩) (Or.imp (Wk.mono fun _=>JV fun _ ⟨τ,h1,h2⟩=>⟨τ,h1,ED ops _ _ _ _ hK h2⟩) (Wk.mono fun _=>Kv fun _ ⟨τ,h1,h2⟩=>⟨τ,h1,ED ops _ _ _ _ hK h2⟩))
theorem Br : ∀ (b : OH) (Q Q' : Au → S → Prop) (σ : S),(∀ e τ,Q e τ → Q' e τ) → DWp Γ b Q σ → DWp Γ b Q' σ
 | .skip,_,_,_,h,hd=>h _ _ hd
 | .ret,_,_,_,h,hd=>h _ _ hd
 | .exit _,_,_,_,h,hd=>h _ _ hd
 | .reg ops d,_,_,_,h,hd=>Wk.mono (fun τ hq=>by
   cases d with
   | true=>rw [if_pos rfl] at hq ⊢; exact ⟨GZ ops _ _ _ _ (fun _ hq=>h _ _ hq) hq.1,hq.2⟩
   | false=>rw [if_neg (by simp)] at hq ⊢; exact ED ops _ _ _ _ (fun _ hq=>h _ _ hq) hq) hd
 | .seq a b,Q,Q',σ,h,hd=>Br a _ _ σ (fun e τ hq=>by
   cases e with
   | normal=>exact Wk.mono (fun τ' h'=>Br b _ _ τ' h h') hq
   | exit id=>exact h _ _ hq
   | ret=>exact h _ _ hq) hd
 | .cond c a b,Q,Q',σ,h,hd=>by
  simp only [DWp] at hd ⊢
  generalize Dg σ c = d at *
  cases d <;> try exact hd.elim
  exact ⟨fun ht=>Br a _ _ σ h (hd.1 ht),fun ht=>Br b _ _ σ h (hd.2 ht)⟩
 | .block id b,Q,Q',σ,h,hd=>Br b _ _ σ (fun e τ hq=>by
   cases e with
   | normal=>exact h _ _ hq
   | ret=>exact h _ _ hq
   | exit id' =>
    simp only [Au.inBlock] at hq ⊢
    split
    ·rename_i e; rw [if_pos e] at hq; exact Wk.mono (fun τ' h'=>h _ _ h') hq
    ·rename_i e; rw [if_neg e] at hq; exact h _ _ hq) hd
 | .loop b,Q,Q',σ,h,⟨ι,St,μ,i₀,h1,h2⟩=>⟨ι,St,μ,i₀,h1,fun i=>Br b _ _ _ (fun e τ hq=>by
   cases e with
   | normal=>exact hq
   | exit id=>exact h _ _ hq
   | ret=>exact h _ _ hq) (h2 i)⟩
variable {K : R → Au → S → Prop} {t t1 t2 : Option R} {e : List (Nat × D)} {o : List (Nat × Ac)} {n N nv : Nat} {σ τ : S} {a b : OH}
theorem KO {ops : List Av} {d : Bool} (h : TrO Γ ops n ⟨e,o,n⟩ d [] (Eu (n + ops.length) K) t) : Tr Γ (.reg ops d) K ⟨e,o,n⟩ t :=
 fun r hr=>⟨_,.refl _,by
  cases d with
  | true=>rw [if_pos rfl]; exact (h r hr).2 rfl
  | false=>rw [if_neg (by simp)]; exact (h r hr).1 rfl⟩
theorem NP {ops : List Av} {d : Bool} {E : List (Nat × D)} {O : List (Nat × Ac)} (hh : Has ⟨e,o,n⟩ E O) (h : ∀ n,TrO Γ ops n ⟨E,O,n⟩ d [] (Eu (n + ops.length) K) t) : Tr Γ (.reg ops d) K ⟨e,o,n⟩ t :=
 fun r hr=>hh.elim fun m hh=>⟨_,hh,by
  cases d with
  | true=>rw [if_pos rfl]; exact (h m r hr).2 rfl
  | false=>rw [if_neg (by simp)]; exact (h m r hr).1 rfl⟩
theorem Jr {acc : List CO} (h : TrX .normal K ⟨e,o,nv⟩ t) : TrO Γ [] nv ⟨e,o,n⟩ false acc (Eu N K) t :=
 fun r hr=>⟨fun _=>h r hr,fun hd=>by cases hd⟩
theorem Ft {acc : List CO} (ha : Ef acc = true) (h : TrX .normal K ⟨e,o,N⟩ t) : TrO Γ [] nv ⟨e,o,n⟩ true acc (Eu N K) t :=
 fun r hr=>⟨fun hd=>(by cases hd),fun _=>⟨h r hr,by simpa [CQ] using ha⟩⟩
def TrE (Γ : As) (c : OH) (K : R → Au → S → Prop) (σ : S) (t : Option R) : Prop:=∀ r,t = some r → Wk (DWp Γ c (K r)) σ
theorem Nv (h : Tr Γ a K σ t) : TrE Γ a K σ t:=fun r hr=>⟨_,.refl _,h r hr⟩
theorem NO {E : List (Nat × D)} {O : List (Nat × Ac)} (hh : Has σ E O) (h : ∀ n,Tr Γ a K ⟨E,O,n⟩ t) : TrE Γ a K σ t :=
 fun r hr=>hh.elim fun n hh=>⟨_,hh,h n r hr⟩
theorem KQ (h : Tr Γ a (Ie Γ b K) σ t) : Tr Γ (.seq a b) K σ t:=h
theorem Jt (h : Tr Γ b K τ t) : TrX .normal (Ie Γ b K) τ t:=fun r hr=>⟨_,.refl _,h r hr⟩
theorem VC {E : List (Nat × D)} {O : List (Nat × Ac)} (hh : Has τ E O) (h : ∀ n,Tr Γ b K ⟨E,O,n⟩ t) : TrX .normal (Ie Γ b K) τ t :=
 fun r hr=>hh.elim fun n hh=>⟨_,hh,h n r hr⟩
theorem FA {id : Nat} (h : TrX (.exit id) K τ t) : TrX (.exit id) (Ie Γ b K) τ t:=h
theorem Gd (h : TrX .ret K τ t) : TrX .ret (Ie Γ b K) τ t:=h
theorem Iu {id : Nat} (h : Tr Γ b (Gi id K) σ t) : Tr Γ (.block id b) K σ t:=h
theorem En {id : Nat} (h : TrX .normal K τ t) : TrX .normal (Gi id K) τ t:=h
theorem Gb {id : Nat} (h : TrX .ret K τ t) : TrX .ret (Gi id K) τ t:=h
theorem Fw {id : Nat} (h : TrX .normal K τ t) : TrX (.exit id) (Gi id K) τ t :=
 fun r hr=>by
  show (if id = id then Wk (K r .normal) τ else K r (.exit id) τ)
  rw [if_pos rfl]
  exact ⟨_,.refl _,h r hr⟩
theorem Fv {id id' : Nat} (hne : Nat.beq id' id = false) (h : TrX (.exit id') K τ t) : TrX (.exit id') (Gi id K) τ t :=
 fun r hr=>by
  show (if id' = id then Wk (K r .normal) τ else K r (.exit id') τ)
  rw [if_neg (fun e=>by subst e; simp at hne)]
  exact h r hr
theorem Jv (h : TrX .normal K σ t) : Tr Γ .skip K σ t:=h
theorem KP (h : TrX .ret K σ t) : Tr Γ .ret K σ t:=h
theorem Ju {id : Nat} (h : TrX (.exit id) K σ t) : Tr Γ (.exit id) K σ t:=h
def Ps {α : Type} : List (Nat × α) → Nat → Option α
 | [],_=>none
 | (k,x) :: r,t=>bif Nat.beq t k then some x else Ps r t
theorem BG {α : Type} : ∀ (l : List (Nat × α)) (t : Nat),Ps l t = look l t
 | [],_=>rfl
 | (k,x) :: r,t=>by
  simp only [Ps,look,BG r t]
  by_cases h : t = k
  ·subst h; simp
  ·have : Nat.beq t k = false:=by
    cases hb : Nat.beq t k
    ·rfl
    ·exact absurd (Nat.eq_of_beq_eq_true hb) h
   simp [h,this]
def Aa (e : List (Nat × D)) : Arg → Option D
 | .t n=>Ps e n
 | .c d=>some d
theorem Acy {x : Arg} {c : Bool} (hx : Aa e x = some (.bool c)) (h1 : Tr Γ a K ⟨e,o,n⟩ t1) (h2 : Tr Γ b K ⟨e,o,n⟩ t2) : Tr Γ (.cond x a b) K ⟨e,o,n⟩ (bif c then t1 else t2):=by
 intro r hr
 have hv : Dg ⟨e,o,n⟩ x = .bool c:=by cases x <;> simp_all [Aa,Dg,S.ge,BG]
 simp only [DWp,hv]
 cases c with
 | true=>exact ⟨fun _=>h1 r hr,fun h=>by cases h⟩
 | false=>exact ⟨fun h=>(by cases h),fun _=>h2 r hr⟩
theorem FB {x : Arg} (hx : Aa e x = some (.bool true)) (h1 : Tr Γ a K ⟨e,o,n⟩ t) : Tr Γ (.cond x a b) K ⟨e,o,n⟩ t:=by
 intro r hr
 have hv : Dg ⟨e,o,n⟩ x = .bool true:=by cases x <;> simp_all [Aa,Dg,S.ge,BG]
 simp only [DWp,hv]
 exact ⟨fun _=>h1 r hr,fun h=>(by cases h)⟩
theorem ER {x : Arg} (hx : Aa e x = some (.bool false)) (h1 : Tr Γ b K ⟨e,o,n⟩ t) : Tr Γ (.cond x a b) K ⟨e,o,n⟩ t:=by
 intro r hr
 have hv : Dg ⟨e,o,n⟩ x = .bool false:=by cases x <;> simp_all [Aa,Dg,S.ge,BG]
 simp only [DWp,hv]
 exact ⟨fun h=>(by cases h),fun _=>h1 r hr⟩
variable {E : ι → γ → List (Nat × D)} {O : ι → γ → List (Nat × Ac)} {j : ι → Option R}
theorem AaZ (h1 : Tr Γ a (Ic E O j K) σ t) (h2 : ∀ s g n,Tr Γ b K ⟨E s g,O s g,n⟩ (j s)) : Tr Γ (.seq a b) K σ t:=by
 intro r hr
 refine Br a _ _ σ (fun e τ hq=>?_) (h1 r hr)
 cases e with
 | normal =>
  obtain ⟨s,g,hj,m,hw⟩:=hq
  exact ⟨_,hw,h2 s g _ r hj⟩
 | exit id=>exact hq
 | ret=>exact hq
theorem MN {s : ι} (g : γ) (h : Has τ (E s g) (O s g)) : TrX .normal (Ic E O j K) τ (j s):=fun _ hr=>⟨s,g,hr,h⟩
theorem Fx {id : Nat} (h : TrX (.exit id) K τ t) : TrX (.exit id) (Ic E O j K) τ t:=h
theorem Gc (h : TrX .ret K τ t) : TrX .ret (Ic E O j K) τ t:=h
theorem Zg {id : Nat} {c : OH} (h1 : Tr Γ b (Dl id E O j K) σ t) (h2 : ∀ s g n,Tr Γ c K ⟨E s g,O s g,n⟩ (j s)) : Tr Γ (.seq (.block id b) c) K σ t:=by
 intro r hr
 refine Br b _ _ σ (fun e τ hq=>?_) (h1 r hr)
 cases e with
 | normal =>
  obtain ⟨s,g,hj,m,hw⟩:=hq
  exact ⟨_,hw,h2 s g _ r hj⟩
 | exit id' =>
  simp only [Dl] at hq
  simp only [Au.inBlock]
  split
  ·rename_i e
   rw [if_pos e] at hq
   obtain ⟨s,g,hj,m,hw⟩:=hq
   exact ⟨_,hw,_,.refl _,h2 s g _ r hj⟩
  ·rename_i e
   rw [if_neg e] at hq
   exact hq
 | ret=>exact hq
theorem AaY {id : Nat} {s : ι} (g : γ) (h : Has τ (E s g) (O s g)) : TrX .normal (Dl id E O j K) τ (j s):=fun _ hr=>⟨s,g,hr,h⟩
theorem HI {id : Nat} {s : ι} (g : γ) (h : Has τ (E s g) (O s g)) : TrX (.exit id) (Dl id E O j K) τ (j s):=fun r hr=>by
 show (if id = id then _ else _)
 rw [if_pos rfl]
 exact ⟨s,g,hr,h⟩
theorem EO {id id' : Nat} (hne : Nat.beq id' id = false) (h : TrX (.exit id') K τ t) : TrX (.exit id') (Dl id E O j K) τ t:=fun r hr=>by
 show (if id' = id then _ else _)
 rw [if_neg (fun e=>by subst e; simp at hne)]
 exact h r hr
theorem Fu {id : Nat} (h : TrX .ret K τ t) : TrX .ret (Dl id E O j K) τ t:=h
theorem AeS {s : ι} (g : γ) (h : Has τ (E s g) (O s g)) : TrX .normal (GJ E O K) τ (cnt s):=fun r hr=>by
 cases hr
 exact ⟨g,h⟩
theorem EP {id : Nat} (h : TrX (.exit id) K τ t) : TrX (.exit id) (GJ E O K) τ (lft t):=fun r hr=>by
 cases t with
 | none=>cases hr
 | some x=>cases hr; exact h x rfl
theorem Fy (h : TrX .ret K τ t) : TrX .ret (GJ E O K) τ (lft t):=fun r hr=>by
 cases t with
 | none=>cases hr
 | some x=>cases hr; exact h x rfl
theorem Aez {body : ι → Option (ι ⊕ R)} {s : ι} (g : γ) (h0 : Has ⟨e,o,n⟩ (E s g) (O s g)) (hb : ∀ s g n,Tr Γ b (GJ E O K) ⟨E s g,O s g,n⟩ (body s)) : Tr Γ (.loop b) K ⟨e,o,n⟩ (Pq body s):=by
 intro r hr
 obtain ⟨k,hk⟩:=EV.1 hr
 refine ⟨{ x : (ι × γ × Nat) × Nat // Dk body x.2 x.1.1 = some r },fun x=>⟨E x.1.1.1 x.1.1.2.1,O x.1.1.1 x.1.1.2.1,x.1.1.2.2⟩,fun x=>x.1.2,⟨((s,g,h0.choose),k),hk⟩,h0.choose_spec,?_⟩
 rintro ⟨⟨⟨s,g,n⟩,k⟩,hk⟩
 simp only at hk
 cases k with
 | zero=>cases hk
 | succ k =>
  rw [Cb] at hk
  cases hx : body s with
  | none=>rw [hx] at hk; cases hk
  | some x =>
   rw [hx] at hk
   refine Br b _ _ _ (fun e τ hq=>?_) (hb s g n x hx)
   cases x with
   | inr r' =>
    cases hk
    cases e with
    | normal=>exact hq.elim
    | exit id=>exact hq
    | ret=>exact hq
   | inl s' =>
    cases e with
    | normal =>
     obtain ⟨g',m,hw⟩:=hq
     exact ⟨⟨((s',g',m),k),hk⟩,Nat.lt_succ_self _,hw⟩
    | exit id=>exact hq.elim
    | ret=>exact hq.elim
end
end Go.Dw
namespace Go.Dw
def rdK : Arg → List Key
 | .t n=>[.e n]
 | .c _=>[]
def lkO (o : List (Nat × Ac)) (g : Nat) : Ac:=(Ps o g).getD none
def gOn (e : List (Nat × D)) : Option (Nat × Bool) → Bool
 | none=>true
 | some (t,want)=>match (Ps e t).getD .top with
  | .bool b=>b == want
  | .when p (.bool b)=>p && (b == want)
  | _=>false
def MW (e : List (Nat × D)) : Option (Nat × Bool) → Bool
 | none=>false
 | some (t,want)=>match (Ps e t).getD .top with
  | .bool b=>!(b == want)
  | .when p (.bool b)=>!(p && (b == want))
  | _=>false
def gK : Option (Nat × Bool) → List Key
 | none=>[]
 | some (t,_)=>[.e t]
section
variable {Γ : As} {X : Type} {K : KR X} {t t1 t2 : Option X} {e : List (Nat × D)} {o : List (Nat × Ac)} {n nv : Nat} {d : Bool} {acc : List CO}
 {r : List Av} {dst : Nat} {g : Option (Nat × Bool)} {af : List Nat} {α : Type}
@[simp] theorem Bk (x : Arg) : (raw x).run ⟨e,o,n⟩ = (Aa e x).getD .top:=by cases x <;> simp [raw,Aa,BG,S.ge]
@[simp] theorem Fh (x : Arg) : (raw x).rd ⟨e,o,n⟩ = rdK x:=by cases x <;> rfl
@[simp] theorem Ax (i : Nat) : (S.mk e o n).go i = lkO o i:=by simp [S.go,lkO,BG]
@[simp] theorem Aq (x : Arg) : (rdA x).run ⟨e,o,n⟩ = strip ((Aa e x).getD .top):=by simp [rdA]
@[simp] theorem Bl (x : Arg) : (rdA x).rd ⟨e,o,n⟩ = rdK x:=by simp [rdA]
theorem QU {α : Type} {ops : List Av} {σ : S} {m : Option α} {k : α → Option X} (h : ∀ x,m = some x → TrO Γ ops nv σ d acc K (k x)) : TrO Γ ops nv σ d acc K (m.bind k):=by
 intro r hr
 obtain ⟨x,hx,hk⟩:=Option.bind_eq_some_iff.1 hr
 exact h x hx r hk
theorem PN {ops : List Av} {σ : S} {p : Prop} [Decidable p] (h : p → TrO Γ ops nv σ d acc K t) : TrO Γ ops nv σ d acc K (chk p t):=by
 intro r hr
 obtain ⟨hp,ht⟩:=HT hr
 exact h hp r ht
theorem Am {dst : Option Nat} {op : DOp} {c : Prop} {we : List (Nat × D)} {wo : List (Nat × Ac)} {rd : List Key} (hg : gOn e g = true)
  (hu : (evalOp Γ nv dst op).run ⟨e,o,n⟩ = ⟨c,we,wo⟩) (hrd : (evalOp Γ nv dst op).rd ⟨e,o,n⟩ = rd) (hc : c)
  (h : TrO Γ r (nv + 1) ⟨we ++ e,wo ++ o,n⟩ d (acc ++ [(gK g ++ rd,we.map (fun x=>.e x.1) ++ wo.map (fun x=>.o x.1),af)]) K t) :
  TrO Γ (⟨dst,op,g,af⟩ :: r) nv ⟨e,o,n⟩ d acc K t:=by
 intro x hx
 obtain ⟨h1,h2⟩:=h x hx
 have key : ((Ar Γ nv ⟨dst,op,g,af⟩).run ⟨e,o,n⟩).c ∧ ((Ar Γ nv ⟨dst,op,g,af⟩).run ⟨e,o,n⟩).we = we ∧ ((Ar Γ nv ⟨dst,op,g,af⟩).run ⟨e,o,n⟩).wo = wo ∧
   (Ar Γ nv ⟨dst,op,g,af⟩).rd ⟨e,o,n⟩ = gK g ++ rd:=by
  cases g with
  | none =>
   simp only [Ar,hu,hrd,gK]
   exact ⟨hc,trivial,trivial,rfl⟩
  | some p =>
   obtain ⟨tt,want⟩:=p
   have hg2 : (guardOf ((S.mk e o n).ge tt) want).2 = true ∧ (guardOf ((S.mk e o n).ge tt) want).1:=by
    simp only [gOn,BG] at hg
    simp only [S.ge]
    generalize (look e tt).getD .top = dd at *
    cases dd <;> simp_all [guardOf]
    rename_i p dd
    cases dd <;> simp_all
   simp only [Ar,R.Ip,R.NL,hg2.1,if_true,R.run_bind,R.AK,R.run_pure,R.BD,hu,hrd,gK]
   exact ⟨⟨hg2.2,hc⟩,trivial,trivial,by simp⟩
 obtain ⟨k1,k2,k3,k4⟩:=key
 have happ : (S.mk e o n).app ((Ar Γ nv ⟨dst,op,g,af⟩).run ⟨e,o,n⟩) = ⟨we ++ e,wo ++ o,n⟩:=by simp [S.app,k2,k3]
 refine ⟨fun hd=>.inl ⟨k1,by rw [happ]; exact h1 hd⟩,fun hd=>⟨⟨k1,by rw [happ]; exact (h2 hd).1⟩,?_⟩⟩
 have:=(h2 hd).2
 simp only [CQ,k2,k3,k4,happ]
 simpa using this
theorem Js {op : DOp} (hg : MW e g = true)
  (h : TrO Γ r (nv + 1) ⟨(dst,.when false (.bool false)) :: e,o,n⟩ d (acc ++ [(gK g,[.e dst],af)]) K t) : TrO Γ (⟨some dst,op,g,af⟩ :: r) nv ⟨e,o,n⟩ d acc K t:=by
 intro x hx
 obtain ⟨h1,h2⟩:=h x hx
 cases g with
 | none=>cases hg
 | some p =>
  obtain ⟨tt,want⟩:=p
  have hg2 : (guardOf ((S.mk e o n).ge tt) want).2 = false ∧ (guardOf ((S.mk e o n).ge tt) want).1:=by
   simp only [MW,BG] at hg
   simp only [S.ge]
   generalize (look e tt).getD .top = dd at *
   cases dd with
   | bool b=>simp_all [guardOf]
   | when p dd =>
    cases dd with
    | bool b=>cases p <;> simp_all [guardOf]
    | _=>simp at hg
   | _=>simp at hg
  have hu : (Ar Γ nv ⟨some dst,op,some (tt,want),af⟩).run ⟨e,o,n⟩ = ⟨(guardOf ((S.mk e o n).ge tt) want).1,[(dst,.when false (.bool false))],[]⟩:=by
   simp [Ar,hg2.1,Ad]
  have hr : (Ar Γ nv ⟨some dst,op,some (tt,want),af⟩).rd ⟨e,o,n⟩ = [.e tt]:=by
   simp [Ar,hg2.1]
  refine ⟨fun hd=>.inl ⟨by rw [hu]; exact hg2.2,by rw [hu]; exact h1 hd⟩,fun hd=>⟨⟨by rw [hu]; exact hg2.2,by rw [hu]; exact (h2 hd).1⟩,?_⟩⟩
  have:=(h2 hd).2
  simp only [CQ,hu,hr]
  simpa [gK,S.app] using this
def DL : List (Nat × D) → Nat → D → List (Nat × D)
 | [],_,_=>[]
 | (k,y) :: r,t,v=>bif Nat.beq t k then (k,v) :: r else (k,y) :: DL r t v
theorem DY : ∀ {e : List (Nat × D)} {x : Nat} {v : D},Ps e x = some v → DL e x v = e
 | [],_,_,h=>by cases h
 | (k,y) :: r,x,v,h=>by
  simp only [Ps] at h
  simp only [DL]
  cases hb : Nat.beq x k with
  | true =>
   rw [hb] at h
   cases h
   rfl
  | false =>
   rw [hb] at h
   simp only [cond_false] at h ⊢
   rw [DY h]
theorem KM {ops : List Av} (x : Nat) {b : Bool} (hx : Ps e x = some (.bool b)) (h1 : TrO Γ ops nv ⟨DL e x (.bool true),o,n⟩ d acc K t1) (h2 : TrO Γ ops nv ⟨DL e x (.bool false),o,n⟩ d acc K t2) :
  TrO Γ ops nv ⟨e,o,n⟩ d acc K (bif b then t1 else t2):=by
 cases b with
 | true=>rw [DY hx] at h1; exact h1
 | false=>rw [DY hx] at h2; exact h2
variable {x y : Arg} {v w : D} {k k' : IntKind} {a b : Int} {s ty gi vi ii off m : Nat} {fz var : Bool} {es : List D} {z z' : D} {l l' : List α} {en : α → D}
attribute [local simp] evalOp Ad AH Bz strip OJ
theorem Cw (p q u w : Nat) : strip (.optr p q u w) = (true,.optr p q u w):=rfl
theorem DC (p : Bool) : strip (.bool p) = (true,.bool p):=rfl
theorem KL (hg : gOn e g = true) (hx : Aa e x = some v) (h : TrO Γ r (nv + 1) ⟨(dst,v) :: e,o,n⟩ d (acc ++ [(gK g ++ rdK x,[.e dst],af)]) K t) :
  TrO Γ (⟨some dst,.mv x,g,af⟩ :: r) nv ⟨e,o,n⟩ d acc K t :=
 Am hg (c:=True) (we:=[(dst,v)]) (wo:=[]) (rd:=rdK x) (by simp [hx]) (by simp) trivial h
theorem Jh (hg : gOn e g = true) (hx : Aa e x = some v) (h : TrO Γ r (nv + 1) ⟨(dst,v) :: e,o,n⟩ d (acc ++ [(gK g ++ rdK x,[.e dst],af)]) K t) :
  TrO Γ (⟨some dst,.asg x none,g,af⟩ :: r) nv ⟨e,o,n⟩ d acc K t :=
 Am hg (c:=True) (we:=[(dst,v)]) (wo:=[]) (rd:=rdK x) (by cases v <;> simp [hx]) (by cases v <;> simp [hx]) trivial h
theorem IA (hg : gOn e g = true) (en : α → D) (hx : Aa e x = some .nils) (h : TrO Γ r (nv + 1) ⟨(dst,.osl dst nv 0 ([] : List α).length) :: e,(dst,some (nv,⟨false,false,s,ty,([] : List α).map en⟩)) :: o,n⟩ d (acc ++ [(gK g ++ rdK x,[.e dst,.o dst],af)]) K t) :
  TrO Γ (⟨some dst,.asg x (some (s,ty)),g,af⟩ :: r) nv ⟨e,o,n⟩ d acc K t :=
 Am hg (c:=True) (we:=[(dst,.osl dst nv 0 0)]) (wo:=[(dst,some (nv,⟨false,false,s,ty,[]⟩))]) (rd:=rdK x) (by simp [hx]) (by simp [hx]) trivial h
theorem GU (hg : gOn e g = true) (hx : Aa e x = some (.sl es)) (h : TrO Γ r (nv + 1) ⟨(dst,.sl es) :: e,o,n⟩ d (acc ++ [(gK g ++ rdK x,[.e dst],af)]) K t) :
  TrO Γ (⟨some dst,.asg x (some (s,ty)),g,af⟩ :: r) nv ⟨e,o,n⟩ d acc K t :=
 Am hg (c:=True) (we:=[(dst,.sl es)]) (wo:=[]) (rd:=rdK x) (by simp [hx]) (by simp [hx]) trivial h
theorem FX {s' ty' q : Nat} (hq : q = l.length) (hg : gOn e g = true) (hx : Aa e x = some (.osl gi vi 0 q)) (ho : lkO o gi = some (vi,⟨false,false,s,ty,l.map en⟩))
  (h : TrO Γ r (nv + 1) ⟨(dst,.osl dst nv 0 l.length) :: e,(dst,some (nv,⟨false,false,s,ty,l.map en⟩)) :: (gi,none) :: o,n⟩ d (acc ++ [(gK g ++ (rdK x ++ [.o gi]),[.e dst,.o dst,.o gi],af)]) K t) (hrg : Ab gi = false:=by rfl) :
  TrO Γ (⟨some dst,.asg x (some (s',ty')),g,af⟩ :: r) nv ⟨e,o,n⟩ d acc K t :=
 Am hg (c:=True) (we:=[(dst,.osl dst nv 0 l.length)]) (wo:=[(dst,some (nv,⟨false,false,s,ty,l.map en⟩)),(gi,none)]) (rd:=rdK x ++ [Key.o gi]) (by subst hq; simp [hx,ho,hrg,nmR,CA]; exact List.take_of_length_le (by simp)) (by simp [hx,ho,hrg]) trivial h
theorem FW {s' ty' q : Nat} (hg : gOn e g = true) (hx : Aa e x = some (.osl gi vi 0 q)) (ho : lkO o gi = some (vi,⟨false,false,s,ty,l.map en⟩)) (hq : q ≤ l.length)
  (h : TrO Γ r (nv + 1) ⟨(dst,.osl dst nv 0 (l.take q).length) :: e,(dst,some (nv,⟨false,false,s,ty,(l.take q).map en⟩)) :: (gi,none) :: o,n⟩ d (acc ++ [(gK g ++ (rdK x ++ [.o gi]),[.e dst,.o dst,.o gi],af)]) K t) (hrg : Ab gi = false:=by rfl) :
  TrO Γ (⟨some dst,.asg x (some (s',ty')),g,af⟩ :: r) nv ⟨e,o,n⟩ d acc K t :=
 Am hg (c:=True) (we:=[(dst,.osl dst nv 0 (l.take q).length)]) (wo:=[(dst,some (nv,⟨false,false,s,ty,(l.take q).map en⟩)),(gi,none)]) (rd:=rdK x ++ [Key.o gi]) (by simp [hx,ho,Nat.min_eq_left hq,hq,hrg,nmR,CA]) (by simp [hx,ho,hrg]) trivial h
theorem GS {s' ty' q : Nat} (hq : q = l.length) (hg : gOn e g = true) (hx : Aa e x = some (.osl gi vi 0 q)) (ho : lkO o gi = some (vi,⟨true,false,s,ty,l.map en⟩))
  (h : TrO Γ r (nv + 1) ⟨(dst,.sl (l.map en)) :: e,o,n⟩ d (acc ++ [(gK g ++ (rdK x ++ [.o gi]),[.e dst],af)]) K t) :
  TrO Γ (⟨some dst,.asg x (some (s',ty')),g,af⟩ :: r) nv ⟨e,o,n⟩ d acc K t :=
 Am hg (c:=True) (we:=[(dst,.sl (l.map en))]) (wo:=[]) (rd:=rdK x ++ [Key.o gi]) (by subst hq; simp [hx,ho]; exact List.take_of_length_le (by simp)) (by simp [hx,ho]) trivial h
def isB : Option D → Bool
 | some (.bool _)=>true
 | some (.when _ (.bool _))=>true
 | _=>false
theorem Kr {x : Option D} (h : isB x = true) : ∃ (p q : Bool),strip (x.getD .top) = (p,.bool q):=by
 unfold isB at h
 split at h
 ·exact ⟨_,_,rfl⟩
 ·exact ⟨_,_,rfl⟩
 ·cases h
theorem EL {c : Arg} {p : Bool} (hg : gOn e g = true) (hc : Aa e c = some (.bool true)) (hx : Aa e x = some (.bool p)) (hy : isB (Aa e y) = true)
  (h : TrO Γ r (nv + 1) ⟨(dst,.bool p) :: e,o,n⟩ d (acc ++ [(gK g ++ (rdK c ++ (rdK x ++ rdK y)),[.e dst],af)]) K t) :
  TrO Γ (⟨some dst,.pick c x y,g,af⟩ :: r) nv ⟨e,o,n⟩ d acc K t:=by
 obtain ⟨b1,q,hq'⟩:=Kr hy
 refine Am hg (c:=True) (we:=[(dst,.bool p)]) (wo:=[]) (rd:=rdK c ++ (rdK x ++ rdK y)) ?_ ?_ trivial h
 ·simp only [evalOp,R.run_bind,Aq,hc,hx,hq',Option.getD_some,DC,R.run_pure,Ad]
  simp
 ·simp only [evalOp,R.AK,Aq,Bl,hc,hx,hq',Option.getD_some,DC,R.BD,List.append_nil]
theorem Em {c : Arg} {p : Bool} (hg : gOn e g = true) (hc : Aa e c = some (.bool false)) (hx : isB (Aa e x) = true) (hy : Aa e y = some (.bool p))
  (h : TrO Γ r (nv + 1) ⟨(dst,.bool p) :: e,o,n⟩ d (acc ++ [(gK g ++ (rdK c ++ (rdK x ++ rdK y)),[.e dst],af)]) K t) :
  TrO Γ (⟨some dst,.pick c x y,g,af⟩ :: r) nv ⟨e,o,n⟩ d acc K t:=by
 obtain ⟨b1,q,hq'⟩:=Kr hx
 refine Am hg (c:=True) (we:=[(dst,.bool p)]) (wo:=[]) (rd:=rdK c ++ (rdK x ++ rdK y)) ?_ ?_ trivial h
 ·simp only [evalOp,R.run_bind,Aq,hc,hy,hq',Option.getD_some,DC,R.run_pure,Ad]
  simp
 ·simp only [evalOp,R.AK,Aq,Bl,hc,hy,hq',Option.getD_some,DC,R.BD,List.append_nil]
theorem Jq (hg : gOn e g = true) (h : TrO Γ r (nv + 1) ⟨(dst,.optr dst nv 0 0) :: e,(dst,some (nv,⟨false,true,s,ty,[z]⟩)) :: o,n⟩ d (acc ++ [(gK g ++ [],[.e dst,.o dst],af)]) K t) :
  TrO Γ (⟨some dst,.new z s ty,g,af⟩ :: r) nv ⟨e,o,n⟩ d acc K t :=
 Am hg (c:=True) (we:=[(dst,.optr dst nv 0 0)]) (wo:=[(dst,some (nv,⟨false,true,s,ty,[z]⟩))]) (rd:=[]) (by simp) (by simp) trivial h
theorem Ji (hg : gOn e g = true) (hx : Aa e x = some v) (hw : strip v = (true,v)) (hk : known v = true) (hl : (cells v).length = s)
  (h : TrO Γ r (nv + 1) ⟨(dst,.optr dst nv 0 0) :: e,(dst,some (nv,⟨false,true,s,ty,[v]⟩)) :: o,n⟩ d (acc ++ [(gK g ++ rdK x,[.e dst,.o dst],af)]) K t) :
  TrO Γ (⟨some dst,.box x s ty,g,af⟩ :: r) nv ⟨e,o,n⟩ d acc K t :=
 Am hg (c:=True) (we:=[(dst,.optr dst nv 0 0)]) (wo:=[(dst,some (nv,⟨false,true,s,ty,[v]⟩))]) (rd:=rdK x) (by simp only [evalOp,R.run_bind,Aq,Option.getD_some,hx,hw,R.run_pure,hk,hl,Ad,AH,Option.getD_some]; simp) (by simp) trivial h
def Cq (e : List (Nat × D)) : List (Nat × Nat × Arg) → List (Nat × Nat × D)
 | []=>[]
 | (a,b,x) :: r=>(a,b,(Aa e x).getD .top) :: Cq e r
def Da : List (Nat × Nat × Arg) → List Key
 | []=>[]
 | (_,_,x) :: r=>rdK x ++ Da r
def Ei : Nat → List (Nat × Nat × D) → Bool
 | _,[]=>true
 | n,(off,s,d) :: r=>known d && (Nat.beq (cells d).length s && (Nat.ble (off + s) n && Ei n r))
theorem GI : ∀ {n : Nat} {l : List (Nat × Nat × D)},Ei n l = true → Eh n l
 | _,[],_=>trivial
 | n,(off,s,d) :: r,h=>by
  simp only [Ei,Bool.and_eq_true] at h
  exact ⟨h.1,Nat.eq_of_beq_eq_true h.2.1,Nat.le_of_ble_eq_true h.2.2.1,GI h.2.2.2⟩
theorem FV : ∀ parts : List (Nat × Nat × Arg),(BZ parts).run ⟨e,o,n⟩ = Cq e parts
 | []=>rfl
 | (a,b,x) :: r=>by simp [BZ,Cq,FV r]
theorem GP : ∀ parts : List (Nat × Nat × Arg),(BZ parts).rd ⟨e,o,n⟩ = Da parts
 | []=>rfl
 | (a,b,x) :: r=>by simp [BZ,Da,GP r]
theorem MK {zs cs : List D} {parts : List (Nat × Nat × Arg)} {ps : List (Nat × Nat × D)} (hg : gOn e g = true) (hp : Cq e parts = ps) (hf : Ei zs.length ps = true) (hz : DP zs ps = cs)
  (h : TrO Γ r (nv + 1) ⟨(dst,.agg cs) :: e,o,n⟩ d (acc ++ [(gK g ++ Da parts,[.e dst],af)]) K t) :
  TrO Γ (⟨some dst,.bld zs parts,g,af⟩ :: r) nv ⟨e,o,n⟩ d acc K t :=
 Am hg (c:=Eh zs.length ps) (we:=[(dst,.agg cs)]) (wo:=[]) (rd:=Da parts) (by simp [FV,hp,hz]) (by simp [GP]) (GI hf) h
def HW (s len : Nat) (ps : List (Nat × D)) : Bool:=ps.all fun p=>known p.2 && (Nat.beq (cells p.2).length s && Nat.blt p.1 len)
theorem AcW {c : Prop} {len : Nat} {parts : List (Nat × Arg)} {ps : List (Nat × D)} {wo : List (Nat × Ac)} {rk : List Key} (l : List α) (en : α → D) (hg : gOn e g = true) (hr : (AO parts).run ⟨e,o,n⟩ = (c,ps,wo)) (hk : (AO parts).rd ⟨e,o,n⟩ = rk) (hc : c)
  (hp : HW s len ps = true) (hes : Xr (List.replicate len z) ps = l.map en) (hlen : l.length = len)
  (h : TrO Γ r (nv + 1) ⟨(dst,.osl dst nv 0 l.length) :: e,(dst,some (nv,⟨false,false,s,ty,l.map en⟩)) :: (wo ++ o),n⟩ d (acc ++ [(gK g ++ rk,[.e dst,.o dst] ++ wo.map (fun x=>.o x.1),af)]) K t) :
  TrO Γ (⟨some dst,.bldS s ty z len parts,g,af⟩ :: r) nv ⟨e,o,n⟩ d acc K t:=by
 have h1 : ∀ p ∈ ps,known p.2 = true ∧ (cells p.2).length = s ∧ p.1 < len:=by
  intro p hp'
  have:=List.all_eq_true.1 hp p hp'
  simp only [Bool.and_eq_true] at this
  exact ⟨this.1,Nat.eq_of_beq_eq_true this.2.1,by simpa using this.2.2⟩
 subst hlen
 exact Am hg (c:=c ∧ ∀ p ∈ ps,known p.2 = true ∧ (cells p.2).length = s ∧ p.1 < l.length) (we:=[(dst,.osl dst nv 0 l.length)]) (wo:=(dst,some (nv,⟨false,false,s,ty,l.map en⟩)) :: wo) (rd:=rk) (by simp [hr,hes]) (by simp [hk]) ⟨hc,h1⟩ (by simpa using h)
theorem CL {i : Nat} {q : α} (h : l[i]? = some q) : (l.map en)[i]? = some (en q):=by simp [h]
theorem Ey {agg : Bool} {i : Nat} (hg : gOn e g = true) (hx : Aa e x = some (.optr gi vi i off)) (ho : lkO o gi = some (vi,⟨fz,var,s,ty,es⟩)) (hz : es[i]? = some z) (hb : Nat.ble (off + m) (cells z).length = true) (hv : OI (cells z) off m agg = v)
  (h : TrO Γ r (nv + 1) ⟨(dst,v) :: e,o,n⟩ d (acc ++ [(gK g ++ (rdK x ++ [.o gi]),[.e dst],af)]) K t) (hpl : (plain v || !Ab gi) = true:=by rfl) :
  TrO Γ (⟨some dst,.ld m agg x,g,af⟩ :: r) nv ⟨e,o,n⟩ d acc K t:=by
 obtain ⟨hi,rfl⟩:=List.getElem?_eq_some_iff.1 hz
 have hb':=Nat.le_of_ble_eq_true hb
 have hgd : es.getD i .top = es[i]:=by simp [hi]
 refine Am hg (c:=True) (we:=[(dst,v)]) (wo:=[]) (rd:=rdK x ++ [Key.o gi]) ?_ ?_ trivial h
 ·simp only [evalOp,R.run_bind,Aq,Option.getD_some,hx,strip,R.AW,Ax,ho,Ad,hgd,hv]
  cases hrg : Ab gi with
  | false=>simp [hi,hb']
  | true=>cases v <;> first | (simp [hi,hb']; done) | (rw [hrg] at hpl; cases hpl)
 ·simp only [evalOp,R.AK,Aq,Bl,Option.getD_some,hx,strip,R.BU,Ax,ho,hgd,hv]
  cases hrg : Ab gi with
  | false=>simp
  | true=>cases v <;> first | (simp; done) | (rw [hrg] at hpl; cases hpl)
theorem Gu {agg : Bool} (hg : gOn e g = true) (hx : Aa e x = some (.fptr z off)) (hb : Nat.ble (off + m) (cells z).length = true) (hv : OI (cells z) off m agg = v)
  (h : TrO Γ r (nv + 1) ⟨(dst,v) :: e,o,n⟩ d (acc ++ [(gK g ++ rdK x,[.e dst],af)]) K t) :
  TrO Γ (⟨some dst,.ld m agg x,g,af⟩ :: r) nv ⟨e,o,n⟩ d acc K t:=by
 have hb':=Nat.le_of_ble_eq_true hb
 refine Am hg (c:=True) (we:=[(dst,v)]) (wo:=[]) (rd:=rdK x) ?_ ?_ trivial h
 ·simp only [evalOp,R.run_bind,Aq,Option.getD_some,hx,strip,OJ,R.AG,R.run_pure,Ad]
  simp [hb',hv]
 ·simp only [evalOp,R.AK,Aq,Bl,Option.getD_some,hx,strip,OJ,R.Ce,R.BD]
  simp
theorem Ez (hg : gOn e g = true) (hx : Aa e x = some (.optr gi vi 0 off)) (hy : Aa e y = some v) (hw : strip v = (true,v)) (ho : lkO o gi = some (vi,⟨false,true,s,ty,[z]⟩)) (hk : known v = true) (hl : (cells v).length = m)
  (hb : Nat.ble (off + m) (cells z).length = true) (hz : PH z off (cells v) = z')
  (h : TrO Γ r (nv + 1) ⟨e,(gi,some (vi,⟨false,true,s,ty,[z']⟩)) :: o,n⟩ d (acc ++ [(gK g ++ (rdK x ++ (rdK y ++ [.o gi])),[.o gi],af)]) K t) (hrg : Ab gi = false:=by rfl) :
  TrO Γ (⟨none,.st m x y,g,af⟩ :: r) nv ⟨e,o,n⟩ d acc K t:=by
 have hb':=Nat.le_of_ble_eq_true hb
 refine Am hg (c:=True) (we:=[]) (wo:=[(gi,some (vi,⟨false,true,s,ty,[z']⟩))]) (rd:=rdK x ++ (rdK y ++ [Key.o gi])) ?_ ?_ trivial h
 ·simp only [evalOp,R.run_bind,Aq,Option.getD_some,hx,hy,hw,Cw,R.AW,Ax,ho,R.AG,hrg,Bool.false_eq_true,if_false,if_true,hk,hl]
  simp [hb',hz]
 ·simp only [evalOp,R.AK,Aq,Bl,Option.getD_some,hx,hy,hw,Cw,R.BU,Ax,ho,R.Ce,hrg,Bool.false_eq_true,if_false,if_true]
theorem Ue {i : Nat} {q q' : α} {c : Prop} {v' : D} {wo : List (Nat × Ac)} {rk : List Key} (hg : gOn e g = true) (hx : Aa e x = some (.optr gi vi i off)) (hy : Aa e y = some v) (hw : strip v = (true,v)) (ho : lkO o gi = some (vi,⟨false,false,s,ty,l.map en⟩))
  (hr : (res v).run ⟨e,o,n⟩ = (c,v',wo)) (hrd : (res v).rd ⟨e,o,n⟩ = rk) (hc : c) (hi : l[i]? = some q) (hk : known v' = true) (hl : (cells v').length = m) (hb : Nat.ble (off + m) (cells (en q)).length = true)
  (hz : PH (en q) off (cells v') = en q') (hwo : wo.all (fun x=>x.1 != gi) = true)
  (h : TrO Γ r (nv + 1) ⟨e,(gi,some (vi,⟨false,false,s,ty,(l.set i q').map en⟩)) :: (wo ++ o),n⟩ d (acc ++ [(gK g ++ (rdK x ++ (rdK y ++ (.o gi :: rk))),.o gi :: wo.map (fun x=>.o x.1),af)]) K t) (hrg : Ab gi = false:=by rfl) :
  TrO Γ (⟨none,.st m x y,g,af⟩ :: r) nv ⟨e,o,n⟩ d acc K t:=by
 have hb':=Nat.le_of_ble_eq_true hb
 obtain ⟨hi',rfl⟩:=List.getElem?_eq_some_iff.1 hi
 refine Am hg (c:=True) (we:=[]) (wo:=(gi,some (vi,⟨false,false,s,ty,(l.set i q').map en⟩)) :: wo) (rd:=rdK x ++ (rdK y ++ (Key.o gi :: rk))) ?_ ?_ trivial (by simpa using h)
 ·simp only [evalOp,R.run_bind,Aq,Option.getD_some,hx,hy,hw,Cw,R.AW,Ax,ho,hrg,Bool.false_eq_true,if_false,hr,R.run_pure]
  have hq : (l.map en).getD i .top = en l[i]:=by simp [hi']
  rw [hq,hz]
  simp [hc,hi',hb',hk,hl,hwo,← List.map_set]
 ·simp only [evalOp,R.AK,Aq,Bl,Option.getD_some,hx,hy,hw,Cw,R.BU,Ax,ho,hrg,Bool.false_eq_true,if_false,hrd,hr,R.BD]
  simp
theorem HC (hg : gOn e g = true) (hx : Aa e x = some v) (hv : (match v with | .optr .. | .fptr ..=>true | _=>false) = true) (h : TrO Γ r (nv + 1) ⟨(dst,v) :: e,o,n⟩ d (acc ++ [(gK g ++ rdK x,[.e dst],af)]) K t) :
  TrO Γ (⟨some dst,.nilck x,g,af⟩ :: r) nv ⟨e,o,n⟩ d acc K t :=
 Am hg (c:=True) (we:=[(dst,v)]) (wo:=[]) (rd:=rdK x) (by cases v <;> simp [hx] at hv ⊢) (by cases v <;> simp [hx] at hv ⊢) trivial h
theorem FF {op : BinOp} {c : Prop} (hg : gOn e g = true) (hx : Aa e x = some (.int k a)) (hy : Aa e y = some (.int k' b)) (hb : Hb op (.int k a) (.int k' b) = (c,v)) (hc : c)
  (h : TrO Γ r (nv + 1) ⟨(dst,v) :: e,o,n⟩ d (acc ++ [(gK g ++ (rdK x ++ rdK y),[.e dst],af)]) K t) :
  TrO Γ (⟨some dst,.bin op x y,g,af⟩ :: r) nv ⟨e,o,n⟩ d acc K t :=
 Am hg (c:=c) (we:=[(dst,v)]) (wo:=[]) (rd:=rdK x ++ rdK y) (by simp [hx,hy,hb]) (by simp) hc h
theorem Dq {op : BinOp} {c : Prop} {p q : List UInt8} (hg : gOn e g = true) (hx : Aa e x = some (.str p)) (hy : Aa e y = some (.str q)) (hb : Hb op (.str p) (.str q) = (c,v)) (hc : c)
  (h : TrO Γ r (nv + 1) ⟨(dst,v) :: e,o,n⟩ d (acc ++ [(gK g ++ (rdK x ++ rdK y),[.e dst],af)]) K t) :
  TrO Γ (⟨some dst,.bin op x y,g,af⟩ :: r) nv ⟨e,o,n⟩ d acc K t :=
 Am hg (c:=c) (we:=[(dst,v)]) (wo:=[]) (rd:=rdK x ++ rdK y) (by simp [hx,hy,hb]) (by simp) hc h
theorem Jl {neg p q : Bool} (hg : gOn e g = true) (hx : Aa e x = some (.bool p)) (hy : Aa e y = some (.bool q))
  (h : TrO Γ r (nv + 1) ⟨(dst,.bool (if neg then !(p == q) else (p == q))) :: e,o,n⟩ d (acc ++ [(gK g ++ (rdK x ++ rdK y),[.e dst],af)]) K t) :
  TrO Γ (⟨some dst,.eqB neg x y,g,af⟩ :: r) nv ⟨e,o,n⟩ d acc K t :=
 Am hg (c:=True) (we:=[(dst,.bool (if neg then !(p == q) else (p == q)))]) (wo:=[]) (rd:=rdK x ++ rdK y) (by simp [hx,hy]) (by simp [hx,hy]) trivial h
theorem Jk {neg p : Bool} {c : Prop} {cs cs' : List D} (hg : gOn e g = true) (hx : Aa e x = some (.agg cs)) (hy : Aa e y = some (.agg cs')) (hq : eqL cs cs' = (c,p)) (hc : c) (hn : Nat.beq cs.length m = true)
  (h : TrO Γ r (nv + 1) ⟨(dst,.bool (if neg then !p else p)) :: e,o,n⟩ d (acc ++ [(gK g ++ (rdK x ++ rdK y),[.e dst],af)]) K t) :
  TrO Γ (⟨some dst,.eqA m neg x y,g,af⟩ :: r) nv ⟨e,o,n⟩ d acc K t:=by
 have hn':=Nat.eq_of_beq_eq_true hn
 exact Am hg (c:=True) (we:=[(dst,.bool (if neg then !p else p))]) (wo:=[]) (rd:=rdK x ++ rdK y) (by simp [hx,hy,hq,hc,hn']) (by simp [hx,hy]) trivial h
theorem KN {op : UnOp} {c : Prop} (hg : gOn e g = true) (hx : Aa e x = some v) (hw : strip v = (true,v)) (hb : unD op v = (c,w)) (hc : c)
  (h : TrO Γ r (nv + 1) ⟨(dst,w) :: e,o,n⟩ d (acc ++ [(gK g ++ rdK x,[.e dst],af)]) K t) :
  TrO Γ (⟨some dst,.un op x,g,af⟩ :: r) nv ⟨e,o,n⟩ d acc K t :=
 Am hg (c:=c) (we:=[(dst,w)]) (wo:=[]) (rd:=rdK x) (by simp only [evalOp,R.run_bind,Aq,Option.getD_some,hx,hw,hb,R.run_pure,Bz,Ad]; simp) (by simp) hc h
theorem Jj (hg : gOn e g = true) (hx : Aa e x = some (.int k' a)) (h : TrO Γ r (nv + 1) ⟨(dst,.int k (k.wrap a)) :: e,o,n⟩ d (acc ++ [(gK g ++ rdK x,[.e dst],af)]) K t) :
  TrO Γ (⟨some dst,.cvt k x,g,af⟩ :: r) nv ⟨e,o,n⟩ d acc K t :=
 Am hg (c:=True) (we:=[(dst,.int k (k.wrap a))]) (wo:=[]) (rd:=rdK x) (by simp [hx]) (by simp [hx]) trivial h
theorem ML {bytes : Nat} {q : α} (en : α → D) (hg : gOn e g = true) (hx : Aa e x = some (.int k a)) (hy : Aa e y = some (.int k' a)) (hz : z = en q) (hl : 0 ≤ a ∧ a ≤ 16777216) (hby : Nat.ble bytes 65536 = true)
  (h : TrO Γ r (nv + 1) ⟨(dst,.osl dst nv 0 (List.replicate a.toNat q).length) :: e,(dst,some (nv,⟨false,false,s,ty,(List.replicate a.toNat q).map en⟩)) :: o,n⟩ d (acc ++ [(gK g ++ (rdK x ++ rdK y),[.e dst,.o dst],af)]) K t) :
  TrO Γ (⟨some dst,.mkS s ty bytes z x y,g,af⟩ :: r) nv ⟨e,o,n⟩ d acc K t:=by
 have:=Nat.le_of_ble_eq_true hby
 subst hz
 exact Am hg (c:=True) (we:=[(dst,.osl dst nv 0 (List.replicate a.toNat q).length)]) (wo:=[(dst,some (nv,⟨false,false,s,ty,(List.replicate a.toNat q).map en⟩))]) (rd:=rdK x ++ rdK y) (by simp [hx,hy,hl,this]) (by simp [hx,hy]) trivial h
theorem Is (hg : gOn e g = true) {i : Nat} (hx : Aa e x = some (.optr gi vi i off)) (h : TrO Γ r (nv + 1) ⟨(dst,.optr gi vi i (off + m)) :: e,o,n⟩ d (acc ++ [(gK g ++ rdK x,[.e dst],af)]) K t) :
  TrO Γ (⟨some dst,.fldA m x,g,af⟩ :: r) nv ⟨e,o,n⟩ d acc K t :=
 Am hg (c:=True) (we:=[(dst,.optr gi vi i (off + m))]) (wo:=[]) (rd:=rdK x) (by simp [hx]) (by simp [hx]) trivial h
theorem GV (hg : gOn e g = true) (hx : Aa e x = some (.fptr z off)) (h : TrO Γ r (nv + 1) ⟨(dst,.fptr z (off + m)) :: e,o,n⟩ d (acc ++ [(gK g ++ rdK x,[.e dst],af)]) K t) :
  TrO Γ (⟨some dst,.fldA m x,g,af⟩ :: r) nv ⟨e,o,n⟩ d acc K t :=
 Am hg (c:=True) (we:=[(dst,.fptr z (off + m))]) (wo:=[]) (rd:=rdK x) (by simp [hx]) (by simp [hx]) trivial h
theorem Jn {cs : List D} {agg : Bool} (hg : gOn e g = true) (hx : Aa e x = some (.agg cs)) (hb : Nat.ble (off + m) cs.length = true) (hv : OI cs off m agg = v)
  (h : TrO Γ r (nv + 1) ⟨(dst,v) :: e,o,n⟩ d (acc ++ [(gK g ++ rdK x,[.e dst],af)]) K t) :
  TrO Γ (⟨some dst,.fld off m agg x,g,af⟩ :: r) nv ⟨e,o,n⟩ d acc K t:=by
 have hb':=Nat.le_of_ble_eq_true hb
 exact Am hg (c:=True) (we:=[(dst,v)]) (wo:=[]) (rd:=rdK x) (by simp [hx,hb',hv]) (by simp [hx]) trivial h
theorem DD {q : α} (hg : gOn e g = true) (hx : Aa e x = some (.sl (l.map en))) (hy : Aa e y = some (.int k a)) (hi : ixO l a = some q) (hs : (cells (en q)).length = s)
  (h : TrO Γ r (nv + 1) ⟨(dst,.fptr (en q) 0) :: e,o,n⟩ d (acc ++ [(gK g ++ (rdK x ++ rdK y),[.e dst],af)]) K t) :
  TrO Γ (⟨some dst,.ixA s x y,g,af⟩ :: r) nv ⟨e,o,n⟩ d acc K t:=by
 obtain ⟨h0,h1,h2⟩:=Alq hi
 refine Am hg (c:=True) (we:=[(dst,.fptr (en q) 0)]) (wo:=[]) (rd:=rdK x ++ rdK y) ?_ (by simp [hx,hy]) trivial h
 have hq : (l.map en).getD a.toNat .top = en q:=by simp [h2]
 simp only [evalOp,R.run_bind,Aq,Option.getD_some,hx,hy,strip,R.run_pure,Ad,hq,hs]
 simp [h0,h1]
theorem AbD {q : Nat} (hq : q = l.length) (hg : gOn e g = true) (hx : Aa e x = some (.osl gi vi 0 q)) (hy : Aa e y = some (.int k a)) (ho : lkO o gi = some (vi,⟨fz,false,s,ty,l.map en⟩)) (hi : 0 ≤ a ∧ a < l.length)
  (h : TrO Γ r (nv + 1) ⟨(dst,.optr gi vi a.toNat 0) :: e,o,n⟩ d (acc ++ [(gK g ++ (rdK x ++ (rdK y ++ [.o gi])),[.e dst],af)]) K t) :
  TrO Γ (⟨some dst,.ixA s x y,g,af⟩ :: r) nv ⟨e,o,n⟩ d acc K t:=by
 subst hq
 refine Am hg (c:=True) (we:=[(dst,.optr gi vi a.toNat 0)]) (wo:=[]) (rd:=rdK x ++ (rdK y ++ [Key.o gi])) ?_ (by simp [hx,hy,ho]) trivial h
 simp only [evalOp,R.run_bind,Aq,Option.getD_some,hx,hy,strip,R.AW,Ax,ho,R.AG,Ad]
 simp [hi.1,hi.2]
theorem Jm {ds : List D} {i : Nat} (hg : gOn e g = true) (hx : Aa e x = some (.tup ds)) (hi : ds[i]? = some v) (h : TrO Γ r (nv + 1) ⟨(dst,v) :: e,o,n⟩ d (acc ++ [(gK g ++ rdK x,[.e dst],af)]) K t) :
  TrO Γ (⟨some dst,.ext x i,g,af⟩ :: r) nv ⟨e,o,n⟩ d acc K t:=by
 have hl:=(List.getElem?_eq_some_iff.1 hi).1
 exact Am hg (c:=True) (we:=[(dst,v)]) (wo:=[]) (rd:=rdK x) (by have:=(List.getElem?_eq_some_iff.1 hi).2; simp [hx,hl,this]) (by simp [hx]) trivial h
theorem GX (hg : gOn e g = true) (hx : Aa e x = some (.sl (l.map en))) (h : TrO Γ r (nv + 1) ⟨(dst,.int .i64 l.length) :: e,o,n⟩ d (acc ++ [(gK g ++ rdK x,[.e dst],af)]) K t) :
  TrO Γ (⟨some dst,.len false x,g,af⟩ :: r) nv ⟨e,o,n⟩ d acc K t :=
 Am hg (c:=True) (we:=[(dst,.int .i64 l.length)]) (wo:=[]) (rd:=rdK x) (by simp [hx]) (by simp [hx]) trivial h
theorem FZ {i q : Nat} (hg : gOn e g = true) (hx : Aa e x = some (.osl gi vi i q)) (h : TrO Γ r (nv + 1) ⟨(dst,.int .i64 q) :: e,o,n⟩ d (acc ++ [(gK g ++ rdK x,[.e dst],af)]) K t) :
  TrO Γ (⟨some dst,.len false x,g,af⟩ :: r) nv ⟨e,o,n⟩ d acc K t :=
 Am hg (c:=True) (we:=[(dst,.int .i64 q)]) (wo:=[]) (rd:=rdK x) (by simp [hx]) (by simp [hx]) trivial h
theorem FY (hg : gOn e g = true) (hx : Aa e x = some .nils) (h : TrO Γ r (nv + 1) ⟨(dst,.int .i64 0) :: e,o,n⟩ d (acc ++ [(gK g ++ rdK x,[.e dst],af)]) K t) :
  TrO Γ (⟨some dst,.len false x,g,af⟩ :: r) nv ⟨e,o,n⟩ d acc K t :=
 Am hg (c:=True) (we:=[(dst,.int .i64 0)]) (wo:=[]) (rd:=rdK x) (by simp [hx]) (by simp [hx]) trivial h
theorem Ga {p : List UInt8} (hg : gOn e g = true) (hx : Aa e x = some (.str p)) (h : TrO Γ r (nv + 1) ⟨(dst,.int .i64 p.length) :: e,o,n⟩ d (acc ++ [(gK g ++ rdK x,[.e dst],af)]) K t) :
  TrO Γ (⟨some dst,.len true x,g,af⟩ :: r) nv ⟨e,o,n⟩ d acc K t :=
 Am hg (c:=True) (we:=[(dst,.int .i64 p.length)]) (wo:=[]) (rd:=rdK x) (by simp [hx]) (by simp [hx]) trivial h
theorem Aey {bytes : Nat} {c c' : Prop} {new old : List D} {wo : List (Nat × Ac)} {rk rk' : List Key} (l l' : List α) (en : α → D) (hg : gOn e g = true) (hx : Aa e x = some v) (hy : Aa e y = some w) (hvw : strip v = (true,v)) (hww : strip w = (true,w))
  (hv : (view w).run ⟨e,o,n⟩ = (c,new)) (hvr : (view w).rd ⟨e,o,n⟩ = rk) (hc : c) (hn : new = l'.map en)
  (ht : (target s ty v).run ⟨e,o,n⟩ = (c',old,wo,false)) (htr : (target s ty v).rd ⟨e,o,n⟩ = rk') (hc' : c') (ho : old = l.map en)
  (hs : ∀ q,(cells (en q)).length = s) (hby : Nat.ble bytes 65536 = true) (hl : l.length + l'.length ≤ 16777216)
  (h : TrO Γ r (nv + 1) ⟨(dst,.osl dst nv 0 (l ++ l').length) :: e,(dst,some (nv,⟨false,false,s,ty,(l ++ l').map en⟩)) :: (wo ++ o),n⟩ d (acc ++ [(gK g ++ (rdK x ++ (rdK y ++ (rk ++ rk'))),[.e dst,.o dst] ++ wo.map (fun x=>.o x.1),af)]) K t) :
  TrO Γ (⟨some dst,.app s ty bytes x y,g,af⟩ :: r) nv ⟨e,o,n⟩ d acc K t:=by
 have hb':=Nat.le_of_ble_eq_true hby
 subst hn; subst ho
 refine Am hg (c:=True) (we:=[(dst,.osl dst nv 0 (l ++ l').length)]) (wo:=(dst,some (nv,⟨false,false,s,ty,(l ++ l').map en⟩)) :: wo) (rd:=rdK x ++ (rdK y ++ (rk ++ rk'))) ?_ ?_ trivial (by simpa using h)
 ·simp only [evalOp,R.run_bind,Aq,Option.getD_some,hx,hy,hvw,hww,source,hv,ht,R.run_pure,Ad,CA,nmR,cond_false]
  simp [hc,hc',hl,hb',hs]
 ·simp only [evalOp,R.AK,Aq,Bl,Option.getD_some,hx,hy,hvw,hww,source,hv,hvr,htr,R.BD]
  simp
theorem Jo (hg : gOn e g = true) (hx : Aa e x = some (.int k a)) (hy : Aa e y = some (.int k b)) (h : TrO Γ r (nv + 1) ⟨(dst,.int k (RH a b)) :: e,o,n⟩ d (acc ++ [(gK g ++ (rdK x ++ rdK y),[.e dst],af)]) K t) :
  TrO Γ (⟨some dst,.max [x,y],g,af⟩ :: r) nv ⟨e,o,n⟩ d acc K t :=
 Am hg (c:=True) (we:=[(dst,.int k (RH a b))]) (wo:=[]) (rd:=rdK x ++ rdK y) (by simp [AM,hx,hy,Hg]) (by simp [AM,hx,hy]) trivial h
theorem Jp (hg : gOn e g = true) (hx : Aa e x = some (.int k a)) (hy : Aa e y = some (.int k b)) (h : TrO Γ r (nv + 1) ⟨(dst,.int k (Sm a b)) :: e,o,n⟩ d (acc ++ [(gK g ++ (rdK x ++ rdK y),[.e dst],af)]) K t) :
  TrO Γ (⟨some dst,.min [x,y],g,af⟩ :: r) nv ⟨e,o,n⟩ d acc K t :=
 Am hg (c:=True) (we:=[(dst,.int k (Sm a b))]) (wo:=[]) (rd:=rdK x ++ rdK y) (by simp [AM,hx,hy,Hg]) (by simp [AM,hx,hy]) trivial h
theorem EM {hi : Arg} (hg : gOn e g = true) (hx : Aa e x = some (.sl (l.map en))) (hy : Aa e hi = some (.int k a)) (hs : ∀ q,(cells (en q)).length = s) (hp : Nat.blt 0 s = true) (hl : 0 ≤ a ∧ a ≤ l.length)
  (h : TrO Γ r (nv + 1) ⟨(dst,.sl ((l.take a.toNat).map en)) :: e,o,n⟩ d (acc ++ [(gK g ++ (rdK x ++ rdK hi),[.e dst],af)]) K t) :
  TrO Γ (⟨some dst,.slc s x none (some hi),g,af⟩ :: r) nv ⟨e,o,n⟩ d acc K t:=by
 have hp' : 0 < s:=by simpa using hp
 refine Am hg (c:=True) (we:=[(dst,.sl ((l.take a.toNat).map en))]) (wo:=[]) (rd:=rdK x ++ rdK hi) ?_ ?_ trivial h
 ·simp only [evalOp,R.run_bind,Aq,Option.getD_some,hx,hy,strip,Bo,R.AG,R.run_pure,Bk,fits,BL,bound,Bz,Ad]
  simp [hl,hs,hp',List.map_take]
 ·simp [Bo,hx,hy,fits]
theorem EN {lo : Arg} (hg : gOn e g = true) (hx : Aa e x = some (.sl (l.map en))) (hy : Aa e lo = some (.int k a)) (hs : ∀ q,(cells (en q)).length = s) (hp : Nat.blt 0 s = true) (hl : 0 ≤ a ∧ a ≤ l.length)
  (h : TrO Γ r (nv + 1) ⟨(dst,.sl ((l.drop a.toNat).map en)) :: e,o,n⟩ d (acc ++ [(gK g ++ (rdK x ++ rdK lo),[.e dst],af)]) K t) :
  TrO Γ (⟨some dst,.slc s x (some lo) none,g,af⟩ :: r) nv ⟨e,o,n⟩ d acc K t:=by
 have hp' : 0 < s:=by simpa using hp
 refine Am hg (c:=True) (we:=[(dst,.sl ((l.drop a.toNat).map en))]) (wo:=[]) (rd:=rdK x ++ rdK lo) ?_ ?_ trivial h
 ·have ht : List.take (l.length - a.toNat) (List.drop a.toNat (l.map en)) = (l.drop a.toNat).map en:=by
   rw [← List.map_drop]; exact List.take_of_length_le (by simp)
  simp only [evalOp,R.run_bind,Aq,Option.getD_some,hx,hy,strip,Bo,R.AG,R.run_pure,Bk,fits,BL,bound,Bz,Ad,List.length_map,Int.toNat_natCast]
  rw [ht]
  simp [hl,hs,hp']
 ·simp [Bo,hx,hy,fits]
theorem AbB {hi : Arg} {q : Nat} (hq : q = l.length) (hg : gOn e g = true) (hx : Aa e x = some (.osl gi vi 0 q)) (hy : Aa e hi = some (.int k a)) (ho : lkO o gi = some (vi,⟨fz,var,s,ty,es⟩)) (hp : Nat.blt 0 s = true) (hl : 0 ≤ a ∧ a ≤ l.length)
  (h : TrO Γ r (nv + 1) ⟨(dst,.osl gi vi 0 a.toNat) :: e,o,n⟩ d (acc ++ [(gK g ++ (rdK x ++ (rdK hi ++ [.o gi])),[.e dst],af)]) K t) :
  TrO Γ (⟨some dst,.slc s x none (some hi),g,af⟩ :: r) nv ⟨e,o,n⟩ d acc K t:=by
 subst hq
 have hp' : 0 < s:=by simpa using hp
 refine Am hg (c:=True) (we:=[(dst,.osl gi vi 0 a.toNat)]) (wo:=[]) (rd:=rdK x ++ (rdK hi ++ [Key.o gi])) ?_ ?_ trivial h
 ·simp only [evalOp,R.run_bind,Aq,Option.getD_some,hx,hy,strip,Bo,R.AG,R.run_pure,Bk,fits,R.AW,Ax,ho,BL,bound,Bz,Ad]
  simp [hl,hp']
 ·simp [Bo,hx,hy,fits,ho]
theorem Zf {lo : Arg} {q : Nat} (hq : q = l.length) (hg : gOn e g = true) (hx : Aa e x = some (.osl gi vi 0 q)) (hy : Aa e lo = some (.int k a)) (ho : lkO o gi = some (vi,⟨fz,var,s,ty,es⟩)) (hp : Nat.blt 0 s = true) (hl : 0 ≤ a ∧ a ≤ l.length)
  (h : TrO Γ r (nv + 1) ⟨(dst,.osl gi vi a.toNat (l.length - a.toNat)) :: e,o,n⟩ d (acc ++ [(gK g ++ (rdK x ++ (rdK lo ++ [.o gi])),[.e dst],af)]) K t) :
  TrO Γ (⟨some dst,.slc s x (some lo) none,g,af⟩ :: r) nv ⟨e,o,n⟩ d acc K t:=by
 subst hq
 have hp' : 0 < s:=by simpa using hp
 refine Am hg (c:=True) (we:=[(dst,.osl gi vi a.toNat (l.length - a.toNat))]) (wo:=[]) (rd:=rdK x ++ (rdK lo ++ [Key.o gi])) ?_ ?_ trivial h
 ·simp only [evalOp,R.run_bind,Aq,Option.getD_some,hx,hy,strip,Bo,R.AG,R.run_pure,Bk,fits,R.AW,Ax,ho,BL,bound,Bz,Ad]
  simp [hl,hp']
 ·simp [Bo,hx,hy,fits,ho]
theorem GY {lo hi : Arg} {k2 : IntKind} (hg : gOn e g = true) (hx : Aa e x = some (.sl (l.map en))) (hy : Aa e lo = some (.int k a)) (hz : Aa e hi = some (.int k2 b)) (hs : ∀ q,(cells (en q)).length = s) (hp : Nat.blt 0 s = true) (hl : 0 ≤ a ∧ a ≤ b ∧ b ≤ l.length)
  (h : TrO Γ r (nv + 1) ⟨(dst,.sl (((l.drop a.toNat).take (b.toNat - a.toNat)).map en)) :: e,o,n⟩ d (acc ++ [(gK g ++ (rdK x ++ (rdK lo ++ rdK hi)),[.e dst],af)]) K t) :
  TrO Γ (⟨some dst,.slc s x (some lo) (some hi),g,af⟩ :: r) nv ⟨e,o,n⟩ d acc K t:=by
 have hp' : 0 < s:=by simpa using hp
 refine Am hg (c:=True) (we:=[(dst,.sl (((l.drop a.toNat).take (b.toNat - a.toNat)).map en))]) (wo:=[]) (rd:=rdK x ++ (rdK lo ++ rdK hi)) ?_ ?_ trivial h
 ·simp only [evalOp,R.run_bind,Aq,Option.getD_some,hx,hy,hz,strip,Bo,R.AG,R.run_pure,Bk,fits,BL,bound,Bz,Ad]
  simp [hl,hs,hp',List.map_take,List.map_drop]
 ·simp [Bo,hx,hy,hz,fits]
end
end Go.Dw
namespace Go.Dw
section
variable {A B : Type}
def Pf (ptr : List (Nat × (Nat × Nat))) (kind : Kind) (enc : A → List D) (dec : List D → A) (f : A → Option B) (encR : B → D) (encE : B → List D) : Spec where
 ptr:=ptr
 kind:=kind
 pre:=fun ds=>∃ a b,ds = enc a ∧ f a = some b
 res:=fun ds=>match f (dec ds) with | some b=>encR b | none=>.top
 eff:=fun ds=>match f (dec ds) with | some b=>encE b | none=>[]
variable {ptr : List (Nat × (Nat × Nat))} {kind : Kind} {enc : A → List D} {dec : List D → A} {f : A → Option B} {encR : B → D} {encE : B → List D} {a : A} {b : B}
theorem Bp (hde : ∀ a,dec (enc a) = a) (hf : f a = some b) : (Pf ptr kind enc dec f encR encE).res (enc a) = encR b:=by simp [Pf,hde,hf]
theorem Ca (hde : ∀ a,dec (enc a) = a) (hf : f a = some b) : (Pf ptr kind enc dec f encR encE).eff (enc a) = encE b:=by simp [Pf,hde,hf]
def Bs (ptr : List (Nat × (Nat × Nat))) (kind : Kind) (rs : List AP) (encR : B → D) (encE : B → List D) : B → Au → S → Prop:=fun b e τ =>
 match e with
 | .exit _=>False
 | _=>Wk (Ci ⟨ptr,kind,fun _=>True,fun _=>encR b,fun _=>encE b⟩ rs []) τ
theorem NF {P : Program} {Γ : As} (hΓ : ∀ k sp,Γ k = some sp → Pd P (k % 4096) sp) {k : Nat} {fn : Func} {dc : OH} {rs : List AP} (hf : P.funcs[k]? = some fn) (hname : (fn.name == "runtime.NumGoroutine") = false)
  (hc : (fn.body.bind (OK P fn.ntmps)) = some dc) (hr : fn.results.toList.mapM (OM P) = some rs) {np : Nat} (hnp : np ≤ fn.ntmps) (hde : ∀ a,dec (enc a) = a) (hlen : ∀ a,(enc a).length = np) (hkeys : ∀ a,BB ptr 0 (enc a) = ptr.map Prod.fst) (hptr : Ew ptr = true)
  (hT : ∀ a,TrE Γ dc (Bs ptr kind rs encR encE) ⟨Di ptr 0 (enc a),Cu ptr 0 (enc a),262144⟩ (f a)) (hni : BF kind = none:=by rfl) (hno : Dn kind = none:=by rfl) : Pd P k (Pf ptr kind enc dec f encR encE):=by
 refine Mq hΓ hf hname hc hr hnp (by rintro ds ⟨a,b,rfl,_⟩; exact ⟨hlen a,hkeys a⟩) hptr ?_ hni hno
 rintro ds ⟨a,b,rfl,hb⟩ _
 have h:=hT a b hb
 refine h.mono fun τ0 h=>Br _ _ _ _ (fun e τ hq=>?_) h
 have key : ∀ τ,Ci ⟨ptr,kind,fun _=>True,fun _=>encR b,fun _=>encE b⟩ rs [] τ → Ci (Pf ptr kind enc dec f encR encE) rs (enc a) τ:=by
  simp only [Ci,Bp hde hb,Ca hde hb]
  exact fun _ h=>h
 cases e with
 | exit id=>exact hq.elim
 | normal=>exact hq.mono key
 | ret=>exact hq.mono key
end
def Ak (e : List (Nat × D)) : List Arg → List D
 | []=>[]
 | x :: r=>(Aa e x).getD .top :: Ak e r
def Bd : List Arg → List Key
 | []=>[]
 | x :: r=>rdK x ++ Bd r
section
variable {Γ : As} {X A B : Type} {K : KR X} {t : Option X} {e : List (Nat × D)} {o : List (Nat × Ac)} {n nv : Nat} {d : Bool} {acc : List CO}
 {r : List Av} {dst : Nat} {g : Option (Nat × Bool)} {af : List Nat} {α : Type}
 {ptr : List (Nat × (Nat × Nat))} {kind : Kind} {enc : A → List D} {dec : List D → A} {f : A → Option B} {encR : B → D} {encE : B → List D} {b : B}
 {fa : Arg} {args : List Arg} {caps : List D} {k : Nat} {c : Prop} {ds : List D} {w : List (Nat × Ac)} {ps : List (Nat × Nat × Own)} {rk : List Key} {s ty : Nat}
theorem Bq : ∀ args : List Arg,(AM args).run ⟨e,o,n⟩ = Ak e args
 | []=>rfl
 | x :: r=>by simp [AM,Ak,Bq r]
theorem CZ : ∀ args : List Arg,(AM args).rd ⟨e,o,n⟩ = Bd args
 | []=>rfl
 | x :: r=>by simp [AM,Bd,CZ r]
theorem Db {sp : Spec} {dst : Option Nat} {c2 : Prop} {we : List (Nat × D)} {wo : List (Nat × Ac)} (hg : gOn e g = true) (hf : Aa e fa = some (.clo k caps)) (hΓ : Γ (k + 4096 * AL (Ak e args)) = some sp) (hr : (Ae sp.ptr 0 (Ak e args ++ caps)).run ⟨e,o,n⟩ = (c,ds,w,ps))
  (hk : (Ae sp.ptr 0 (Ak e args ++ caps)).rd ⟨e,o,n⟩ = rk) (hco : AR dst nv sp c ds w ps = ⟨c2,we,wo⟩) (hc : c2)
  (h : TrO Γ r (nv + 1) ⟨we ++ e,wo ++ o,n⟩ d (acc ++ [(gK g ++ (rdK fa ++ (Bd args ++ rk)),we.map (fun x=>.e x.1) ++ wo.map (fun x=>.o x.1),af)]) K t) (hin : BF sp.kind = none:=by rfl) (hkb : Nat.blt k 4096 = true:=by rfl) :
  TrO Γ (⟨dst,.call fa args,g,af⟩ :: r) nv ⟨e,o,n⟩ d acc K t:=by
 refine Am hg (c:=c2) (we:=we) (wo:=wo) (rd:=rdK fa ++ (Bd args ++ rk)) ?_ ?_ hc h
 ·simp only [evalOp,R.run_bind,Bk,Option.getD_some,hf,hkb,Bq,hΓ,hin,hr,R.run_pure,hco]
 ·simp only [evalOp,R.AK,Bk,Fh,Option.getD_some,hf,hkb,Bq,hΓ,hin,CZ,hr,hk,R.BD,List.append_nil]
theorem It {sp : Spec} {vi gi ty' m : Nat} {l l' : List Int} {fl : List Int → List Int} {fk : List Int → Nat} (hg : gOn e g = true) (hf : Aa e fa = some (.clo k caps)) (hΓ : Γ (k + 4096 * AL (Ak e args)) = some sp) (hin : BF sp.kind = some (false,fl,fk))
  (hr : Ak e args ++ caps = [.osl gi vi 0 m]) (hm : m = l.length) (ho : lkO o gi = some (vi,⟨false,false,1,ty',l.map (.int .i64)⟩)) (hl : l.length < 4611686018427387904) (hfl : fl l = l')
  (h : TrO Γ r (nv + 1) ⟨e,(gi,some (vi,⟨false,false,1,ty',l'.map (.int .i64)⟩)) :: o,n⟩ d (acc ++ [(gK g ++ (rdK fa ++ (Bd args ++ [.o gi])),[.o gi],af)]) K t) (hkb : Nat.blt k 4096 = true:=by rfl) :
  TrO Γ (⟨none,.call fa args,g,af⟩ :: r) nv ⟨e,o,n⟩ d acc K t:=by
 subst hm hfl
 have hd : (l.map (D.int .i64)).map Ds = l:=by simp [Function.comp_def,Ds]
 refine Am hg (c:=True) (we:=[]) (wo:=[(gi,some (vi,⟨false,false,1,ty',(fl l).map (.int .i64)⟩))]) (rd:=rdK fa ++ (Bd args ++ [Key.o gi])) ?_ ?_ trivial ?_
 ·simp only [evalOp,R.run_bind,Bk,Option.getD_some,hf,hkb,Bq,hΓ,hin,hr,Cv,R.AW,Ax,ho,R.AG]
  simp [Ad,hd,hl,List.take_of_length_le,AA,cells,plain]
 ·simp only [evalOp,R.AK,Bk,Fh,Option.getD_some,hf,hkb,Bq,hΓ,hin,CZ,hr,Cv,R.BU,Ax,ho,R.Ce]
 ·exact h
theorem GW {sp : Spec} {vi gi ty' m : Nat} {l l' : List Int} {fl : List Int → List Int} {fk : List Int → Nat} (hg : gOn e g = true) (hf : Aa e fa = some (.clo k caps)) (hΓ : Γ (k + 4096 * AL (Ak e args)) = some sp) (hin : BF sp.kind = some (false,fl,fk))
  (hr : Ak e args ++ caps = [.osl gi vi 0 m]) (hm : m = l.length) (ho : lkO o gi = some (vi,⟨false,false,1,ty',l.map (.int .i64)⟩)) (hl : l.length < 4611686018427387904) (hfl : fl l = l')
  (h : TrO Γ r (nv + 1) ⟨(dst,.top) :: e,(gi,some (vi,⟨false,false,1,ty',l'.map (.int .i64)⟩)) :: o,n⟩ d (acc ++ [(gK g ++ (rdK fa ++ (Bd args ++ [.o gi])),[.e dst,.o gi],af)]) K t) (hkb : Nat.blt k 4096 = true:=by rfl) :
  TrO Γ (⟨some dst,.call fa args,g,af⟩ :: r) nv ⟨e,o,n⟩ d acc K t:=by
 subst hm hfl
 have hd : (l.map (D.int .i64)).map Ds = l:=by simp [Function.comp_def,Ds]
 refine Am hg (c:=True) (we:=[(dst,.top)]) (wo:=[(gi,some (vi,⟨false,false,1,ty',(fl l).map (.int .i64)⟩))]) (rd:=rdK fa ++ (Bd args ++ [Key.o gi])) ?_ ?_ trivial ?_
 ·simp only [evalOp,R.run_bind,Bk,Option.getD_some,hf,hkb,Bq,hΓ,hin,hr,Cv,R.AW,Ax,ho,R.AG]
  simp [Ad,hd,hl,List.take_of_length_le,AA,cells,plain]
 ·simp only [evalOp,R.AK,Bk,Fh,Option.getD_some,hf,hkb,Bq,hΓ,hin,CZ,hr,Cv,R.BU,Ax,ho,R.Ce]
 ·exact h
theorem Fs {sp : Spec} {vi gi ty' m : Nat} {l l' : List Int} {fl : List Int → List Int} {fk : List Int → Nat} (hg : gOn e g = true) (hf : Aa e fa = some (.clo k caps)) (hΓ : Γ (k + 4096 * AL (Ak e args)) = some sp) (hin : BF sp.kind = some (true,fl,fk))
  (hr : Ak e args ++ caps = [.osl gi vi 0 m]) (hm : m = l.length) (ho : lkO o gi = some (vi,⟨false,false,1,ty',l.map (.int .i64)⟩)) (hl : l.length < 4611686018427387904) (hfl : (fl l).take (fk l) = l') (hfk : fk l = l'.length)
  (h : TrO Γ r (nv + 1) ⟨(dst,.osl gi vi 0 l'.length) :: e,(gi,some (vi,⟨false,false,1,ty',l'.map (.int .i64)⟩)) :: o,n⟩ d (acc ++ [(gK g ++ (rdK fa ++ (Bd args ++ [.o gi])),[.e dst,.o gi],af)]) K t) (hkb : Nat.blt k 4096 = true:=by rfl) :
  TrO Γ (⟨some dst,.call fa args,g,af⟩ :: r) nv ⟨e,o,n⟩ d acc K t:=by
 subst hm hfl
 have hd : (l.map (D.int .i64)).map Ds = l:=by simp [Function.comp_def,Ds]
 refine Am hg (c:=True) (we:=[(dst,.osl gi vi 0 ((fl l).take (fk l)).length)]) (wo:=[(gi,some (vi,⟨false,false,1,ty',((fl l).take (fk l)).map (.int .i64)⟩))]) (rd:=rdK fa ++ (Bd args ++ [Key.o gi])) ?_ ?_ trivial ?_
 ·simp only [evalOp,R.run_bind,Bk,Option.getD_some,hf,hkb,Bq,hΓ,hin,hr,Cv,R.AW,Ax,ho,R.AG]
  simp [Ad,hd,hl,List.take_of_length_le,AA,cells,plain]
  rw [List.length_take] at hfk
  exact ⟨hfk,by rw [List.drop_of_length_le (by simp),List.append_nil]⟩
 ·simp only [evalOp,R.AK,Bk,Fh,Option.getD_some,hf,hkb,Bq,hΓ,hin,CZ,hr,Cv,R.BU,Ax,ho,R.Ce]
 ·exact h
theorem AcY (a : A) (hg : gOn e g = true) (hf : Aa e fa = some (.clo k caps)) (hΓ : Γ (k + 4096 * AL (Ak e args)) = some (Pf ptr .val enc dec f encR encE)) (hde : ∀ a,dec (enc a) = a) (hr : (Ae ptr 0 (Ak e args ++ caps)).run ⟨e,o,n⟩ = (c,ds,w,ps))
  (hk : (Ae ptr 0 (Ak e args ++ caps)).rd ⟨e,o,n⟩ = rk) (hc : c) (hds : ds = enc a) (hb : f a = some b)
  (h : TrO Γ r (nv + 1) ⟨(dst,encR b) :: e,(Ah ps (encE b) ++ w) ++ o,n⟩ d (acc ++ [(gK g ++ (rdK fa ++ (Bd args ++ rk)),.e dst :: (Ah ps (encE b) ++ w).map (fun x=>.o x.1),af)]) K t) (hkb : Nat.blt k 4096 = true:=by rfl) :
  TrO Γ (⟨some dst,.call fa args,g,af⟩ :: r) nv ⟨e,o,n⟩ d acc K t:=by
 subst hds
 refine Db (hkb:=hkb) hg hf hΓ (sp:=Pf ptr .val enc dec f encR encE) hr hk (c2:=c ∧ ∃ a' b',enc a = enc a' ∧ f a' = some b') (we:=[(dst,encR b)]) (wo:=Ah ps (encE b) ++ w) ?_ ⟨hc,a,b,rfl,hb⟩ h
 simp only [AR,Bp hde hb,Ca hde hb,Ad]
 rfl
theorem EK (a : A) (hg : gOn e g = true) (hf : Aa e fa = some (.clo k caps)) (hΓ : Γ (k + 4096 * AL (Ak e args)) = some (Pf ptr .val enc dec f encR encE)) (hde : ∀ a,dec (enc a) = a) (hr : (Ae ptr 0 (Ak e args ++ caps)).run ⟨e,o,n⟩ = (c,ds,w,ps))
  (hk : (Ae ptr 0 (Ak e args ++ caps)).rd ⟨e,o,n⟩ = rk) (hc : c) (hds : ds = enc a) (hb : f a = some b)
  (h : TrO Γ r (nv + 1) ⟨e,(Ah ps (encE b) ++ w) ++ o,n⟩ d (acc ++ [(gK g ++ (rdK fa ++ (Bd args ++ rk)),(Ah ps (encE b) ++ w).map (fun x=>.o x.1),af)]) K t) (hkb : Nat.blt k 4096 = true:=by rfl) :
  TrO Γ (⟨none,.call fa args,g,af⟩ :: r) nv ⟨e,o,n⟩ d acc K t:=by
 subst hds
 refine Db (hkb:=hkb) hg hf hΓ (sp:=Pf ptr .val enc dec f encR encE) hr hk (c2:=c ∧ ∃ a' b',enc a = enc a' ∧ f a' = some b') (we:=[]) (wo:=Ah ps (encE b) ++ w) ?_ ⟨hc,a,b,rfl,hb⟩ h
 simp only [AR,Bp hde hb,Ca hde hb,Ad]
 rfl
theorem AaX (a : A) (hg : gOn e g = true) (hf : Aa e fa = some (.clo k caps)) (hΓ : Γ (k + 4096 * AL (Ak e args)) = some (Pf [] .ground enc dec f encR encE)) (hde : ∀ a,dec (enc a) = a) (hr : (Ae [] 0 (Ak e args ++ caps)).run ⟨e,o,n⟩ = (c,ds,w,ps))
  (hk : (Ae [] 0 (Ak e args ++ caps)).rd ⟨e,o,n⟩ = rk) (hc : c) (hds : ds = enc a) (hb : f a = some b) (hgr : isGround (encR b) = true)
  (h : TrO Γ r (nv + 1) ⟨(dst,encR b) :: e,o,n⟩ d (acc ++ [(gK g ++ (rdK fa ++ (Bd args ++ rk)),[.e dst],af)]) K t) (hkb : Nat.blt k 4096 = true:=by rfl) :
  TrO Γ (⟨some dst,.call fa args,g,af⟩ :: r) nv ⟨e,o,n⟩ d acc K t:=by
 subst hds
 refine Db (hkb:=hkb) hg hf hΓ (sp:=Pf [] .ground enc dec f encR encE) hr hk (c2:=c ∧ (∃ a' b',enc a = enc a' ∧ f a' = some b') ∧ isGround (encR b) = true ∧ ([] : List (Nat × (Nat × Nat))) = []) (we:=[(dst,encR b)]) (wo:=[]) ?_ ⟨hc,⟨a,b,rfl,hb⟩,hgr,rfl⟩ h
 simp only [AR,Bp hde hb,Ad]
 simp [Pf]
theorem Fq (a : A) {l : List α} {en : α → D} (hg : gOn e g = true) (hf : Aa e fa = some (.clo k caps)) (hΓ : Γ (k + 4096 * AL (Ak e args)) = some (Pf ptr (.row s ty) enc dec f encR encE)) (hde : ∀ a,dec (enc a) = a) (hr : (Ae ptr 0 (Ak e args ++ caps)).run ⟨e,o,n⟩ = (c,ds,w,ps))
  (hk : (Ae ptr 0 (Ak e args ++ caps)).rd ⟨e,o,n⟩ = rk) (hc : c) (hds : ds = enc a) (hb : f a = some b) (hl : encR b = .sl (l.map en))
  (h : TrO Γ r (nv + 1) ⟨(dst,.osl dst nv 0 l.length) :: e,((dst,some (nv,⟨false,false,s,ty,l.map en⟩)) :: (Ah ps (encE b) ++ w)) ++ o,n⟩ d (acc ++ [(gK g ++ (rdK fa ++ (Bd args ++ rk)),.e dst :: .o dst :: (Ah ps (encE b) ++ w).map (fun x=>.o x.1),af)]) K t) (hkb : Nat.blt k 4096 = true:=by rfl) :
  TrO Γ (⟨some dst,.call fa args,g,af⟩ :: r) nv ⟨e,o,n⟩ d acc K t:=by
 subst hds
 refine Db (hkb:=hkb) hg hf hΓ (sp:=Pf ptr (.row s ty) enc dec f encR encE) hr hk (c2:=c ∧ (∃ a' b',enc a = enc a' ∧ f a' = some b') ∧ (some dst).isSome = true) (we:=[(dst,.osl dst nv 0 l.length)]) (wo:=(dst,some (nv,⟨false,false,s,ty,l.map en⟩)) :: (Ah ps (encE b) ++ w)) ?_ ⟨hc,⟨a,b,rfl,hb⟩,rfl⟩ h
 simp only [AR,Bp hde hb,Ca hde hb,hl,Ad,AH]
 simp [Pf]
theorem AcX (a : A) (hg : gOn e g = true) (hf : Aa e fa = some (.clo k caps)) (hΓ : Γ (k + 4096 * AL (Ak e args)) = some (Pf ptr (.ptr s ty) enc dec f encR encE)) (hde : ∀ a,dec (enc a) = a) (hr : (Ae ptr 0 (Ak e args ++ caps)).run ⟨e,o,n⟩ = (c,ds,w,ps))
  (hk : (Ae ptr 0 (Ak e args ++ caps)).rd ⟨e,o,n⟩ = rk) (hc : c) (hds : ds = enc a) (hb : f a = some b)
  (h : TrO Γ r (nv + 1) ⟨(dst,.optr dst nv 0 0) :: e,((dst,some (nv,⟨false,true,s,ty,[encR b]⟩)) :: (Ah ps (encE b) ++ w)) ++ o,n⟩ d (acc ++ [(gK g ++ (rdK fa ++ (Bd args ++ rk)),.e dst :: .o dst :: (Ah ps (encE b) ++ w).map (fun x=>.o x.1),af)]) K t) (hkb : Nat.blt k 4096 = true:=by rfl) :
  TrO Γ (⟨some dst,.call fa args,g,af⟩ :: r) nv ⟨e,o,n⟩ d acc K t:=by
 subst hds
 refine Db (hkb:=hkb) hg hf hΓ (sp:=Pf ptr (.ptr s ty) enc dec f encR encE) hr hk (c2:=c ∧ (∃ a' b',enc a = enc a' ∧ f a' = some b') ∧ (some dst).isSome = true) (we:=[(dst,.optr dst nv 0 0)]) (wo:=(dst,some (nv,⟨false,true,s,ty,[encR b]⟩)) :: (Ah ps (encE b) ++ w)) ?_ ⟨hc,⟨a,b,rfl,hb⟩,rfl⟩ h
 simp only [AR,Bp hde hb,Ca hde hb,Ad,AH]
 simp [Pf]
theorem AiC (a : A) {q : Nat} {rs : List D} {z : D} (hg : gOn e g = true) (hf : Aa e fa = some (.clo k caps)) (hΓ : Γ (k + 4096 * AL (Ak e args)) = some (Pf ptr (.tupPtr q s ty) enc dec f encR encE)) (hde : ∀ a,dec (enc a) = a) (hr : (Ae ptr 0 (Ak e args ++ caps)).run ⟨e,o,n⟩ = (c,ds,w,ps))
  (hk : (Ae ptr 0 (Ak e args ++ caps)).rd ⟨e,o,n⟩ = rk) (hc : c) (hds : ds = enc a) (hb : f a = some b) (hl : encR b = .tup rs) (hz : rs.getD q .top = z)
  (h : TrO Γ r (nv + 1) ⟨(dst,.tup (rs.set q (.optr dst nv 0 0))) :: e,((dst,some (nv,⟨false,true,s,ty,[z]⟩)) :: (Ah ps (encE b) ++ w)) ++ o,n⟩ d (acc ++ [(gK g ++ (rdK fa ++ (Bd args ++ rk)),.e dst :: .o dst :: (Ah ps (encE b) ++ w).map (fun x=>.o x.1),af)]) K t) (hkb : Nat.blt k 4096 = true:=by rfl) :
  TrO Γ (⟨some dst,.call fa args,g,af⟩ :: r) nv ⟨e,o,n⟩ d acc K t:=by
 subst hds
 subst hz
 refine Db (hkb:=hkb) hg hf hΓ (sp:=Pf ptr (.tupPtr q s ty) enc dec f encR encE) hr hk (c2:=c ∧ (∃ a' b',enc a = enc a' ∧ f a' = some b') ∧ (some dst).isSome = true) (we:=[(dst,.tup (rs.set q (.optr dst nv 0 0)))]) (wo:=(dst,some (nv,⟨false,true,s,ty,[rs.getD q .top]⟩)) :: (Ah ps (encE b) ++ w)) ?_ ⟨hc,⟨a,b,rfl,hb⟩,rfl⟩ h
 simp only [AR,Bp hde hb,Ca hde hb,hl,Ad,AH]
 simp [Pf]
theorem AmM {q : Nat} (hg : gOn e g = true) (hx : Ak e args = caps) (hc : ∀ d ∈ caps,Acx d = true)
  (h : TrO Γ r (nv + 1) ⟨(dst,.clo q caps) :: e,o,n⟩ d (acc ++ [(gK g ++ Bd args,[.e dst],af)]) K t) : TrO Γ (⟨some dst,.mkf q args,g,af⟩ :: r) nv ⟨e,o,n⟩ d acc K t :=
 Am hg (c:=∀ d ∈ caps,Acx d = true) (we:=[(dst,.clo q caps)]) (wo:=[]) (rd:=Bd args) (by simp [evalOp,Bq,hx,Ad]) (by simp [evalOp,CZ]) hc h
end
@[simp] theorem JR (g : Nat) : (Ab g = false) ↔ g < 4096:=by
 simp only [Ab]
 cases hb : Nat.ble 4096 g
 ·simp only [true_iff]; by_cases h : g < 4096
  ·exact h
  ·rw [Nat.ble_eq_true_of_le (by omega)] at hb; cases hb
 ·have:=Nat.le_of_ble_eq_true hb; simp; omega
@[simp] theorem NU (g : Nat) : (Ab g = true) ↔ 4096 ≤ g:=by
 have:=JR g
 cases hb : Ab g <;> simp_all <;> omega
section
variable {B α : Type} {e : List (Nat × D)} {o : List (Nat × Ac)} {n np : Nat} {ptr : List (Nat × (Nat × Nat))} {encR : B → D} {encE : B → List D} {b : B} {r0 : AP} {rs : List AP}
 {ce c c1 : Prop} {effs ds : List D} {we w : List (Nat × Ac)} {d0 d1 : D} {s ty g : Nat}
theorem UR (he : (BE ptr).run ⟨e,o,n⟩ = (ce,effs,we)) (hce : ce) (heff : effs = encE b) (hr : (DX r0).run ⟨e,o,n⟩ = (c,d0,w)) (hc : c) (hd : d0 = encR b) : TrX .ret (Bs ptr .val [r0] encR encE) ⟨e,o,n⟩ (some b):=by
 rintro _ ⟨⟩
 refine ⟨_,.refl _,?_⟩
 simp only [Ci,he,hr]
 exact ⟨hce,heff,hc,hd⟩
theorem JP (he : (BE ptr).run ⟨e,o,n⟩ = (ce,effs,we)) (hce : ce) (heff : effs = encE b) (hr : (DX r0).run ⟨e,o,n⟩ = (c,d0,w)) (hc : c) (hd : d0 = encR b) : TrX .ret (Bs ptr .ground [r0] encR encE) ⟨e,o,n⟩ (some b):=by
 rintro _ ⟨⟩
 refine ⟨_,.refl _,?_⟩
 simp only [Ci,he,hr]
 exact ⟨hce,heff,hc,hd⟩
theorem EJ {_q : D → Prop} (h : rs.length ≠ 1) (hk : ce ∧ effs = encE b ∧ c ∧ .tup ds = encR b ∧ rs.length ≠ 1) (he : (BE ptr).run ⟨e,o,n⟩ = (ce,effs,we)) (hr : (AD rs).run ⟨e,o,n⟩ = (c,ds,w)) (kind : Kind) (hkind : kind = .val ∨ kind = .ground) :
  Ci ⟨ptr,kind,fun _=>True,fun _=>encR b,fun _=>encE b⟩ rs [] ⟨e,o,n⟩:=by
 rcases hkind with rfl | rfl <;> (
  simp only [Ci,he]
  refine ⟨hk.1,hk.2.1,?_⟩
  match rs,h,hr with
  | [],h,hr=>simp only [hr]; exact hk.2.2
  | [_],h,_=>exact (h rfl).elim
  | _ :: _ :: _,h,hr=>simp only [hr]; exact hk.2.2)
theorem Qu (he : (BE ptr).run ⟨e,o,n⟩ = (ce,effs,we)) (hce : ce) (heff : effs = encE b) (hr : (AD rs).run ⟨e,o,n⟩ = (c,ds,w)) (hc : c) (hd : .tup ds = encR b) (hl : rs.length ≠ 1) : TrX .ret (Bs ptr .val rs encR encE) ⟨e,o,n⟩ (some b):=by
 rintro _ ⟨⟩
 refine ⟨_,.refl _,?_⟩
 exact EJ (_q:=fun _=>True) hl ⟨hce,heff,hc,hd,hl⟩ he hr _ (.inl rfl)
theorem Hn (he : (BE ptr).run ⟨e,o,n⟩ = (ce,effs,we)) (hce : ce) (heff : effs = encE b) (hr : (AD rs).run ⟨e,o,n⟩ = (c,ds,w)) (hc : c) (hd : .tup ds = encR b) (hl : rs.length ≠ 1) : TrX .ret (Bs ptr .ground rs encR encE) ⟨e,o,n⟩ (some b):=by
 rintro _ ⟨⟩
 refine ⟨_,.refl _,?_⟩
 exact EJ (_q:=fun _=>True) hl ⟨hce,heff,hc,hd,hl⟩ he hr _ (.inr rfl)
theorem MC (he : (BE ptr).run ⟨e,o,n⟩ = (ce,effs,we)) (hce : ce) (heff : effs = encE b) (hr : (OG r0).run ⟨e,o,n⟩ = (c,d0)) (hc : c) (hs : (DW false s ty d0).run ⟨e,o,n⟩ = (c1,d1,g)) (hc1 : c1) (hd : d1 = encR b) (hw : we.all (fun x=>x.1 != g) = true) :
  TrX .ret (Bs ptr (.row s ty) [r0] encR encE) ⟨e,o,n⟩ (some b):=by
 rintro _ ⟨⟩
 refine ⟨_,.refl _,?_⟩
 simp only [Ci,he,hr,hs]
 exact ⟨hce,heff,hc,hc1,hd,hw⟩
theorem MB (hr : (OG r0).run ⟨e,o,n⟩ = (c,d0)) (hc : c) (hs : (Cc s ty d0).run ⟨e,o,n⟩ = (c1,d1,w,g)) (hc1 : c1) (hd : d1 = encR b) (he : (BE ptr).run ⟨e,o,n⟩ = (ce,effs,we)) (hce : ce) (heff : effs = encE b) (hrg : Ab g = false:=by rfl) :
  TrX .ret (Bs ptr (.ptr s ty) [r0] encR encE) ⟨e,o,n⟩ (some b):=by
 rintro _ ⟨⟩
 refine ⟨_,.refl _,?_⟩
 simp only [Ci,he,hr,hs]
 exact ⟨hce,heff,hc,hc1,hd,hrg⟩
theorem JQ {q : Nat} {cA cB cP : Prop} {dA dB : List D} {dP dq : D} {wA wB wP : List (Nat × Ac)} (hq : q < rs.length) (hl : rs.length ≠ 1) (hA : (AD (rs.take q)).run ⟨e,o,n⟩ = (cA,dA,wA)) (hcA : cA) (hB : (AD (rs.drop (q + 1))).run ⟨e,o,n⟩ = (cB,dB,wB)) (hcB : cB)
  (hr : (OG (rs.getD q (.t 0))).run ⟨e,o,n⟩ = (c,dq)) (hc : c) (hP : (Cc s ty dq).run ⟨e,o,n⟩ = (cP,dP,wP,g)) (hcP : cP) (hd : .tup (dA ++ dP :: dB) = encR b) (he : (BE []).run ⟨e,o,n⟩ = (ce,effs,we)) (hce : ce) (heff : effs = encE b) :
  TrX .ret (Bs [] (.tupPtr q s ty) rs encR encE) ⟨e,o,n⟩ (some b):=by
 rintro _ ⟨⟩
 refine ⟨_,.refl _,?_⟩
 have key : q < rs.length ∧ rs.length ≠ 1 ∧ True ∧ ((AD (rs.take q)).run ⟨e,o,n⟩).1 ∧ ((AD (rs.drop (q + 1))).run ⟨e,o,n⟩).1 ∧ ((OG (rs.getD q (.t 0))).run ⟨e,o,n⟩).1 ∧ ((Cc s ty ((OG (rs.getD q (.t 0))).run ⟨e,o,n⟩).2).run ⟨e,o,n⟩).1 ∧
   .tup (((AD (rs.take q)).run ⟨e,o,n⟩).2.1 ++ ((Cc s ty ((OG (rs.getD q (.t 0))).run ⟨e,o,n⟩).2).run ⟨e,o,n⟩).2.1 :: ((AD (rs.drop (q + 1))).run ⟨e,o,n⟩).2.1) = encR b:=by
  rw [hA,hB,hr,hP]
  exact ⟨hq,hl,trivial,hcA,hcB,hc,hcP,hd⟩
 clear hA hB hr hP
 simp only [Ci,he]
 refine ⟨hce,heff,?_⟩
 cases rs with
 | nil=>exact key
 | cons r0 rs=>cases rs <;> exact key
end
@[simp] theorem NR (cs : List D) : cells (.agg cs) = cs:=rfl
def HO (e : List (Nat × D)) : List (Nat × D) → Prop
 | []=>True
 | (t,d) :: r=>(Ps e t).getD .top = d ∧ HO e r
def HP (o : List (Nat × Ac)) : List (Nat × Ac) → Prop
 | []=>True
 | (g,x) :: r=>lkO o g = x ∧ HP o r
theorem HO.get {e : List (Nat × D)} : ∀ {E : List (Nat × D)},HO e E → ∀ p ∈ E,(Ps e p.1).getD .top = p.2
 | [],_,p,hp=>by cases hp
 | q :: r,h,p,hp=>by
  cases hp with
  | head=>exact h.1
  | tail _ hp=>exact HO.get h.2 p hp
theorem HP.get {o : List (Nat × Ac)} : ∀ {O : List (Nat × Ac)},HP o O → ∀ p ∈ O,lkO o p.1 = p.2
 | [],_,p,hp=>by cases hp
 | q :: r,h,p,hp=>by
  cases hp with
  | head=>exact h.1
  | tail _ hp=>exact HP.get h.2 p hp
theorem NB {B : Type} {ptr : List (Nat × (Nat × Nat))} {kind : Kind} {rs : List AP} {encR : B → D} {encE : B → List D} {τ : S} {t : Option B} {x : Au} {E : List (Nat × D)} {O : List (Nat × Ac)} (hh : Has τ E O) (hx : ∀ id,x ≠ .exit id) (h : ∀ n,TrX .ret (Bs ptr kind rs encR encE) ⟨E,O,n⟩ t) : TrX x (Bs ptr kind rs encR encE) τ t:=fun r hr=>by
 obtain ⟨n,hh⟩:=hh
 obtain ⟨τ',h1,h2⟩:=h n r hr
 cases x with
 | exit id=>exact (hx id rfl).elim
 | normal=>exact ⟨τ',hh.trans h1,h2⟩
 | ret=>exact ⟨τ',hh.trans h1,h2⟩
theorem Aah {e E : List (Nat × D)} {o O : List (Nat × Ac)} {n : Nat} (hE : HO e E) (hO : HP o O) : Has ⟨e,o,n⟩ E O:=by
 refine ⟨n,?_⟩
 refine Chg.Du (τ:=⟨E,O,n⟩) [] ⟨?_,?_,?_,Nat.le_refl _⟩ (.refl _)
 ·intro p hp; cases hp
 ·intro p hp
  refine .inl (.inl ?_)
  have:=hE.get p hp
  rw [BG] at this
  exact this
 ·intro p hp
  refine .inl ?_
  have:=hO.get p hp
  simp only [S.gof,List.nil_append,Ax]
  exact this
theorem My {x : D} {g v q q' : Nat} (h1 : x = .osl g v 0 q) (h2 : q = q') : x = .osl g v 0 q':=h2 ▸ h1
section
variable {e E : List (Nat × D)} {o O : List (Nat × Ac)} {n : Nat} {ws : List (Nat × Ac)} {α : Type}
def HJ (e : List (Nat × D)) (o : List (Nat × Ac)) (n : Nat) (ws : List (Nat × Ac)) : List (Nat × D) → Prop
 | []=>True
 | (t,d) :: r=>Conv ⟨e,o,n⟩ ws ((Ps e t).getD .top) d ∧ HJ e o n ws r
def HK (e : List (Nat × D)) (o : List (Nat × Ac)) (n : Nat) (ws : List (Nat × Ac)) : List (Nat × Ac) → Prop
 | []=>True
 | (g,x) :: r=>(lkO (ws ++ o) g = x ∨ ∃ v p z z',lkO (ws ++ o) g = some (v,p) ∧ p.var = true ∧ p.es = [z] ∧ x = some (v,{ p with es:=[z'] }) ∧ Conv ⟨e,o,n⟩ ws z z') ∧ HK e o n ws r
def FzB (o : List (Nat × Ac)) : List (Nat × Ac) → Prop
 | []=>True
 | (g,x) :: r=>(∃ v p,lkO o g = some (v,p) ∧ p.var = false ∧ x = some (v,{ p with fz:=true })) ∧ FzB o r
theorem Abq (ws : List (Nat × Ac)) (hw : FzB o ws) (hE : HJ e o n ws E) (hO : HK e o n ws O) : Has ⟨e,o,n⟩ E O:=by
 refine ⟨n,?_⟩
 refine Chg.Du (τ:=⟨E,O,n⟩) ws ⟨?_,?_,?_,Nat.le_refl _⟩ (.refl _)
 ·clear hE hO
  induction ws with
  | nil=>intro p hp; cases hp
  | cons q r ih =>
   intro p hp
   cases hp with
   | head =>
    obtain ⟨v,p,h1,h2,h3⟩:=hw.1
    exact ⟨v,p,by rw [Ax]; exact h1,h2,h3⟩
   | tail _ hp=>exact ih hw.2 p hp
 ·clear hw hO
  induction E with
  | nil=>intro p hp; cases hp
  | cons q r ih =>
   intro p hp
   cases hp with
   | head =>
    have:=hE.1
    rw [BG] at this
    exact this
   | tail _ hp=>exact ih hE.2 p hp
 ·clear hw hE
  induction O with
  | nil=>intro p hp; cases hp
  | cons q r ih =>
   intro p hp
   cases hp with
   | head =>
    simp only [S.gof,Ax]
    exact hO.1
   | tail _ hp=>exact ih hO.2 p hp
theorem PF {x d : D} (h : x = d) : Conv ⟨e,o,n⟩ ws x d:=.inl (.inl h)
theorem UY {x d : D} (h : x = d) : De ⟨e,o,n⟩ ws x d:=.inl h
theorem XS {x : D} (en : α → D) (h : x = .nils) : De ⟨e,o,n⟩ ws x (.sl (([] : List α).map en)):=by
 subst h
 exact .inr ⟨trivial,rfl,fun p hp=>by cases hp⟩
theorem XT {x : D} {g v q s ty : Nat} {fz : Bool} {l : List α} {en : α → D} (h : x = .osl g v 0 q) (hq : q = l.length) (ho : lkO o g = some (v,⟨fz,false,s,ty,l.map en⟩)) (hw : (g,some (v,(⟨true,false,s,ty,l.map en⟩ : Own))) ∈ ws) : De ⟨e,o,n⟩ ws x (.sl (l.map en)):=by
 subst h; subst hq
 refine .inr ⟨?_,?_,?_⟩
 ·simp [AE,ho]
 ·simp [AE,ho]; exact List.take_of_length_le (by simp)
 ·intro p hp
  simp [AE,ho] at hp
  subst hp
  exact hw
theorem EZ {x : D} {g v i s ty : Nat} {fz : Bool} {l : List α} {en : α → D} (h : x = .osl g v i (l.length - i)) (hi : i ≤ l.length) (ho : lkO o g = some (v,⟨fz,false,s,ty,l.map en⟩)) (hw : (g,some (v,(⟨true,false,s,ty,l.map en⟩ : Own))) ∈ ws) : De ⟨e,o,n⟩ ws x (.sl ((l.drop i).map en)):=by
 subst h
 refine .inr ⟨?_,?_,?_⟩
 ·simp [AE,ho]; omega
 ·simp [AE,ho]; exact List.take_of_length_le (by simp)
 ·intro p hp
  simp [AE,ho] at hp
  subst hp
  exact hw
theorem Aad {x d : D} (h : De ⟨e,o,n⟩ ws x d) : Conv ⟨e,o,n⟩ ws x d:=.inl h
theorem ZT {x : D} {cs cs' : List D} (h : x = .agg cs) (hc : DZ ⟨e,o,n⟩ ws cs cs') : Conv ⟨e,o,n⟩ ws x (.agg cs'):=.inr ⟨cs,cs',h,rfl,hc⟩
end
@[simp] theorem CV {α : Type} (en : α → D) (l : List α) : List.take l.length (l.map en) = l.map en:=List.take_of_length_le (by simp)
@[simp] theorem OW {α : Type} (en : α → D) (l : List α) (i : Nat) : List.take (l.length - i) (List.drop i (l.map en)) = (l.drop i).map en:=by
 rw [← List.map_drop]; exact List.take_of_length_le (by simp)
@[simp] theorem Nt {α : Type} (en : α → D) (l : List α) (i : Nat) (y : D) : List.take l.length ((l.map en).set i y) = (l.map en).set i y:=List.take_of_length_le (by simp)
theorem OV {α : Type} (en : α → D) (l : List α) : List.take l.length (List.drop 0 (l.map en)) = l.map en:=CV en l
theorem TH {α : Type} (en : α → D) (l : List α) {q : Nat} (h : q = l.length) : List.take q (List.drop 0 (l.map en)) = l.map en:=h ▸ CV en l
theorem Sz {α : Type} (en : α → D) (l : List α) {q : Nat} (h : q = l.length) : List.take q (l.map en) = l.map en:=h ▸ CV en l
@[simp] theorem Ns {α : Type} (en : α → D) (l l' : List α) : List.take (l.length + l'.length) (l.map en ++ l'.map en) = l.map en ++ l'.map en:=List.take_of_length_le (by simp)
def cel (d : D) (i : Nat) : D:=match d with | .agg cs=>cs.getD i .top | .tup cs=>cs.getD i .top | _=>.top
def uI : D → Int | .int _ n=>n | _=>0
def uBo : D → Bool | .bool b=>b | _=>false
def uS : D → List UInt8 | .str s=>s | _=>[]
def uL {α : Type} (u : D → α) : D → List α | .sl es=>es.map u | _=>[]
abbrev eI (k : IntKind) (n : Int) : D:=.int k n
abbrev eBo (b : Bool) : D:=.bool b
abbrev eS (s : List UInt8) : D:=.str s
abbrev eL {α : Type} (en : α → D) (l : List α) : D:=.sl (l.map en)
@[simp] theorem PV {α : Type} {u : D → α} {en : α → D} (h : ∀ a,u (en a) = a) (l : List α) : uL u (.sl (l.map en)) = l:=by
 simp only [uL,List.map_map]
 conv=>rhs; rw [← List.map_id l]
 exact List.map_congr_left fun a _=>h a
end Go.Dw
namespace Go.Dw
open Go.ChangeShapes Go.WideShapes Go.ChangeAt Go.RowKit Go.Deep
def Yb (W : World) : Fz:=fun b i=>W.cell? ⟨b,i,none⟩
def Rep (W : World) (ds : List D) (cs : List Value) : Prop:=ds.length = cs.length ∧ (∀ v ∈ cs,v.oneCell' = true) ∧ ∀ (j : Nat) c v,ds[j]? = some c → cs[j]? = some v → Fro (Yb W) c v
structure Rd (P : Program) (W : World) {T : Type} (t : TypeId) (en : T → D) (Q : T → Prop) : Prop where
 rd : ∀ {H : Type} {enc : TypeId × Value → H} (n : Nat) (cs : List Value) (x : DataW H × List MemPlace),DataW.trod enc P W 0 (fun _=>true) true n t cs = some x → ∃ a,Q a ∧ Rep W (cells (en a)) cs
def QY (k : IntKind) (n : Int) : Prop:=k.min ≤ n ∧ n ≤ k.max
def Aqd {T : Type} (_ : T) : Prop:=True
def OC (s : List UInt8) : Prop:=s.length ≤ maxLen
def qL {T : Type} (q : T → Prop) (l : List T) : Prop:=l.length ≤ maxLen ∧ ∀ x ∈ l,q x
section
variable {P : Program} {W : World} {t e : TypeId}
theorem Rep.one {d : D} {v : Value} (h1 : v.oneCell' = true) (h : Fro (Yb W) d v) : Rep W [d] [v]:=by
 refine ⟨rfl,fun x hx=>?_,fun j c x hc hx=>?_⟩
 ·simp only [List.mem_singleton] at hx; subst hx; exact h1
 ·rcases j with _ | j
  ·simp only [List.getElem?_cons_zero,Option.some.injEq] at hc hx
   subst hc; subst hx; exact h
  ·simp at hc
theorem Rd.int {k : IntKind} (ht : P.underlying t = some (.int k)) : Rd P W t (D.int k) (fun n=>k.min ≤ n ∧ n ≤ k.max):=by
 refine ⟨fun n cs x h=>?_⟩
 cases n with
 | zero=>simp [DataW.trod] at h
 | succ n =>
  simp only [DataW.trod,ht] at h
  split at h <;> rename_i h1 <;> try (cases h1; done)
  all_goals try (cases h; done)
  cases h1
  split at h
  ·rename_i hc
   obtain ⟨rfl,hw⟩:=hc
   exact ⟨_,by simpa [Lit.wf] using hw,Rep.one rfl (.int _ _)⟩
  ·cases h
theorem Rd.bool (ht : P.underlying t = some .bool) : Rd P W t D.bool (fun _=>True):=by
 refine ⟨fun n cs x h=>?_⟩
 cases n with
 | zero=>simp [DataW.trod] at h
 | succ n =>
  simp only [DataW.trod,ht] at h
  split at h <;> rename_i h1 <;> try (cases h1; done)
  all_goals try (cases h; done)
  exact ⟨_,trivial,Rep.one rfl (.bool _)⟩
theorem Rd.str (ht : P.underlying t = some .string) : Rd P W t D.str (fun s=>s.length ≤ maxLen):=by
 refine ⟨fun n cs x h=>?_⟩
 cases n with
 | zero=>simp [DataW.trod] at h
 | succ n =>
  simp only [DataW.trod,ht] at h
  split at h <;> simp_all
  rename_i s
  exact ⟨s.data.toList,by simpa using h.1,Rep.one rfl (by have:=Fro.str (F:=Yb W) s.data.toList; simpa using this)⟩
theorem GC {a : Addr} {n : Nat} {cs : List Value} (h : W.cells? 0 a n = some cs) : cs.length = n ∧ ∀ i,i < n → W.cell? (a.add i) = cs[i]?:=by
 unfold World.cells? at h
 rw [if_pos (Nat.zero_le _)] at h
 have hl:=mapM_some_length h
 simp only [List.length_range] at hl
 exact ⟨hl,fun i hi=>mapM_some_get h i i (by simp [hi])⟩
theorem KH {a : Addr} {v : Value} (h : W.cell? a = some v) : a = ⟨a.block,a.off,none⟩:=by
 unfold World.cell? at h
 split at h
 ·split at h
  ·cases h
  ·rename_i hs
   obtain ⟨b,o,s⟩:=a
   cases s with
   | none=>rfl
   | some s=>simp at hs
 ·cases h
theorem Rd.slice {T : Type} [Inhabited T] {en : T → D} {Q : T → Prop} (ht : P.underlying t = some (.slice e)) (hs : 0 < P.cellsOf e) (hc : ∀ a,(cells (en a)).length = P.cellsOf e) (he : Rd P W e en Q) :
  Rd P W t (eL en) (fun l=>l.length ≤ maxLen ∧ ∀ x ∈ l,Q x):=by
 refine ⟨fun n cs x h=>?_⟩
 rcases DataW.trod_slice ht h with ⟨rfl,_⟩ | ⟨a,len,cap,elems,rest,m,_,rfl,_,_,hl,hm,hlen,hel,_,_⟩
 ·exact ⟨[],⟨Nat.zero_le _,fun x hx=>by cases hx⟩,Rep.one rfl (.sl0 none 0)⟩
 ·have each : ∀ i,∃ p : T × List Value,i < len → W.cells? 0 (a.add (i * P.cellsOf e)) (P.cellsOf e) = some p.2 ∧ Q p.1 ∧ Rep W (cells (en p.1)) p.2:=by
   intro i
   by_cases hi : i < len
   ·have h1:=hel i hi
    have h2 : i < elems.length:=by omega
    rw [List.getElem?_eq_getElem h2,Option.bind_eq_some_iff] at h1
    obtain ⟨cs,h3,h4⟩:=h1
    obtain ⟨q,hq,hr⟩:=he.rd m cs _ h4
    exact ⟨(q,cs),fun _=>⟨h3,hq,hr⟩⟩
   ·exact ⟨(default,[]),fun h=>absurd h hi⟩
  obtain ⟨f,hf⟩:=Classical.axiomOfChoice each
  have hes : ((List.range len).map fun i=>(f i).1).length = len:=by simp
  refine ⟨(List.range len).map fun i=>(f i).1,⟨by rw [hes]; omega,fun x hx=>?_⟩,Rep.one rfl ?_⟩
  ·simp only [List.mem_map,List.mem_range] at hx
   obtain ⟨i,hi,rfl⟩:=hx
   exact (hf i hi).2.1
  ·by_cases h0 : len = 0
   ·subst h0
    exact .sl0 _ _
   ·have hget : ∀ (i j : Nat),i < len → j < P.cellsOf e → W.cell? ((a.add (i * P.cellsOf e)).add j) = (f i).2[j]?:=fun i j hi hj=>(GC (hf i hi).1).2 j hj
    have hlenc : ∀ i,i < len → (f i).2.length = P.cellsOf e:=fun i hi=>(GC (hf i hi).1).1
    have ha : a = ⟨a.block,a.off,none⟩:=by
     have h1:=hget 0 0 (by omega) hs
     have h2 : 0 < (f 0).2.length:=by rw [hlenc 0 (by omega)]; exact hs
     rw [List.getElem?_eq_getElem h2] at h1
     simp only [Nat.zero_mul,Addr.add,if_true] at h1
     exact KH h1
    generalize a.block = b at ha
    generalize a.off = o at ha
    subst ha
    have hidx : ∀ (i : Nat) x,(((List.range len).map fun i=>(f i).1).map en)[i]? = some x → i < len ∧ x = en (f i).1:=by
     intro i x hx
     simp only [List.getElem?_map,Option.map_eq_some_iff] at hx
     obtain ⟨q,⟨r,hr,rfl⟩,rfl⟩:=hx
     obtain ⟨h1,h2⟩:=List.getElem?_eq_some_iff.1 hr
     simp only [List.getElem_range] at h2
     subst h2
     exact ⟨by simpa using h1,rfl⟩
    have key : ∀ (i j : Nat) x c,(((List.range len).map fun i=>(f i).1).map en)[i]? = some x → (cells x)[j]? = some c → i < len ∧ ∃ v,(f i).2[j]? = some v ∧ Yb W b (o + i * P.cellsOf e + j) = some v ∧ v.oneCell' = true ∧ Fro (Yb W) c v:=by
     intro i j x c hx hj
     obtain ⟨hi,rfl⟩:=hidx i x hx
     obtain ⟨_,_,r1,r2,r3⟩:=hf i hi
     have hjl : j < (cells (en (f i).1)).length:=(List.getElem?_eq_some_iff.1 hj).1
     have hjl' : j < (f i).2.length:=by rw [← r1]; exact hjl
     have hv:=List.getElem?_eq_getElem hjl'
     refine ⟨hi,_,hv,?_,r2 _ (List.getElem_mem hjl'),r3 j c _ hj hv⟩
     have:=hget i j hi (by rw [← hc (f i).1]; exact hjl)
     rw [BP,BP,hv] at this
     exact this
    have:=Fro.sl (F:=Yb W) (((List.range len).map fun i=>(f i).1).map en) b o cap (P.cellsOf e) (fun i j=>(f i).2.getD j undef) (by simpa using hl)
     (fun x hx=>by
      simp only [List.mem_map] at hx
      obtain ⟨q,_,rfl⟩:=hx
      exact hc q)
     (fun i j x c hx hj=>by
      obtain ⟨_,v,h1,h2,_⟩:=key i j x c hx hj
      rw [h2,List.getD_eq_getElem?_getD,h1]; rfl)
     (fun i j x c hx hj=>by
      obtain ⟨_,v,h1,_,h3,_⟩:=key i j x c hx hj
      rw [List.getD_eq_getElem?_getD,h1]; exact h3)
     (fun i j x c hx hj=>by
      obtain ⟨_,v,h1,_,_,h4⟩:=key i j x c hx hj
      rw [List.getD_eq_getElem?_getD,h1]; exact h4)
    rw [List.length_map,hes] at this
    exact this
theorem Rep.append {ds ds' : List D} {cs cs' : List Value} (h : Rep W ds cs) (h' : Rep W ds' cs') : Rep W (ds ++ ds') (cs ++ cs'):=by
 obtain ⟨h1,h2,h3⟩:=h
 obtain ⟨k1,k2,k3⟩:=h'
 refine ⟨by simp [h1,k1],fun v hv=>(List.mem_append.1 hv).elim (h2 v) (k2 v),fun j c v hc hv=>?_⟩
 by_cases hj : j < ds.length
 ·rw [List.getElem?_append_left hj] at hc
  rw [List.getElem?_append_left (by omega)] at hv
  exact h3 j c v hc hv
 ·rw [List.getElem?_append_right (by omega)] at hc
  rw [List.getElem?_append_right (by omega),← h1] at hv
  exact k3 _ c v hc hv
theorem Ls {α : Type} (l : List α) (a b : Nat) : (l.drop a).take b ++ l.drop (a + b) = l.drop a:=by
 rw [← List.drop_drop,List.take_append_drop]
theorem Rd.Ot {T T0 : Type} {f0 : Field} {en : T → D} {e0 : T0 → D} {Q : T → Prop} {Q0 : T0 → Prop} (mk : T0 → T) (ht : P.underlying t = some (.struct #[f0])) (o0 : f0.offset = 0) (hsz : P.cellsOf t = P.cellsOf f0.type)
  (h0 : Rd P W f0.type e0 Q0) (hmk : ∀ a,cells (en (mk a)) = cells (e0 a)) (hQ : ∀ a,Q0 a → Q (mk a)) : Rd P W t en Q:=by
 refine ⟨fun n cs x h=>?_⟩
 obtain ⟨y0,m,_,hl,k0⟩:=trod_struct1 ht h
 obtain ⟨a,q0,r0⟩:=h0.rd m _ _ k0
 refine ⟨mk a,hQ a q0,?_⟩
 rw [hmk]
 rw [o0,List.drop_zero,← hsz,← hl,List.take_length] at r0
 exact r0
theorem Rd.Ou {T T0 T1 : Type} {f0 f1 : Field} {en : T → D} {e0 : T0 → D} {e1 : T1 → D} {Q : T → Prop} {Q0 : T0 → Prop} {Q1 : T1 → Prop} (mk : T0 → T1 → T) (ht : P.underlying t = some (.struct #[f0,f1])) (o0 : f0.offset = 0) (o1 : f1.offset = P.cellsOf f0.type)
  (hsz : P.cellsOf t = P.cellsOf f0.type + P.cellsOf f1.type) (h0 : Rd P W f0.type e0 Q0) (h1 : Rd P W f1.type e1 Q1) (hmk : ∀ a b,cells (en (mk a b)) = cells (e0 a) ++ cells (e1 b)) (hQ : ∀ a b,Q0 a → Q1 b → Q (mk a b)) : Rd P W t en Q:=by
 refine ⟨fun n cs x h=>?_⟩
 obtain ⟨y0,y1,m,_,hl,k0,k1⟩:=trod_struct2 ht h
 obtain ⟨a,q0,r0⟩:=h0.rd m _ _ k0
 obtain ⟨b,q1,r1⟩:=h1.rd m _ _ k1
 refine ⟨mk a b,hQ a b q0 q1,?_⟩
 rw [hmk]
 have:=r0.append r1
 have e1 : List.take (P.cellsOf f1.type) (List.drop (P.cellsOf f0.type) cs) = List.drop (P.cellsOf f0.type) cs:=List.take_of_length_le (by simp; omega)
 rw [o0,o1,e1,List.drop_zero,List.take_append_drop] at this
 exact this
theorem Rd.Ov {T T0 T1 T2 : Type} {f0 f1 f2 : Field} {en : T → D} {e0 : T0 → D} {e1 : T1 → D} {e2 : T2 → D} {Q : T → Prop} {Q0 : T0 → Prop} {Q1 : T1 → Prop} {Q2 : T2 → Prop} (mk : T0 → T1 → T2 → T) (ht : P.underlying t = some (.struct #[f0,f1,f2]))
  (o0 : f0.offset = 0) (o1 : f1.offset = P.cellsOf f0.type) (o2 : f2.offset = P.cellsOf f0.type + P.cellsOf f1.type)
  (hsz : P.cellsOf t = P.cellsOf f0.type + P.cellsOf f1.type + P.cellsOf f2.type) (h0 : Rd P W f0.type e0 Q0) (h1 : Rd P W f1.type e1 Q1) (h2 : Rd P W f2.type e2 Q2)
  (hmk : ∀ a b c,cells (en (mk a b c)) = cells (e0 a) ++ (cells (e1 b) ++ cells (e2 c))) (hQ : ∀ a b c,Q0 a → Q1 b → Q2 c → Q (mk a b c)) : Rd P W t en Q:=by
 refine ⟨fun n cs x h=>?_⟩
 obtain ⟨y0,y1,y2,m,_,hl,k0,k1,k2⟩:=trod_struct3 ht h
 obtain ⟨a,q0,r0⟩:=h0.rd m _ _ k0
 obtain ⟨b,q1,r1⟩:=h1.rd m _ _ k1
 obtain ⟨c,q2,r2⟩:=h2.rd m _ _ k2
 refine ⟨mk a b c,hQ a b c q0 q1 q2,?_⟩
 rw [hmk]
 have:=r0.append (r1.append r2)
 have e2 : List.take (P.cellsOf f2.type) (List.drop (P.cellsOf f0.type + P.cellsOf f1.type) cs) = List.drop (P.cellsOf f0.type + P.cellsOf f1.type) cs:=List.take_of_length_le (by simp; omega)
 rw [o0,o1,o2,e2,Ls,List.drop_zero,List.take_append_drop] at this
 exact this
theorem Rd.arg {T : Type} {en : T → D} {Q : T → Prop} (h : Rd P W t en Q) (hagg : ∀ a,(match P.underlying t with | some (.struct _) | some (.array _ _)=>True | _=>False) → ∃ cs,en a = .agg cs)
  (hone : ∀ a,¬ (match P.underlying t with | some (.struct _) | some (.array _ _)=>True | _=>False) → cells (en a) = [en a])
  {H : Type} {enc : TypeId × Value → H} {b0 : Nat} {v : Value} {d : DataW H} {p : List MemPlace} (hv : Value.okWide P W .any b0 t v) (hr : DataW.Trod enc P W 0 (fun _=>true) true t v d p) : ∃ a,Q a ∧ Fro (Yb W) (en a) v:=by
 obtain ⟨n,hn⟩:=hr
 obtain ⟨a,hq,r1,r2,r3⟩:=h.rd n _ _ hn
 refine ⟨a,hq,?_⟩
 by_cases hs : (match P.underlying t with | some (.struct _) | some (.array _ _)=>True | _=>False)
 ·obtain ⟨cs,hcs⟩:=hagg a hs
  have hva : ∃ C,v = .agg C:=by
   unfold Value.okWide at hv
   split at hv
   ·obtain ⟨C,rfl,_⟩:=hv; exact ⟨C,rfl⟩
   ·obtain ⟨C,rfl,_⟩:=hv; exact ⟨C,rfl⟩
   ·rename_i h1 h2
    split at hs
    ·rename_i fs hu; exact absurd hu (h1 fs)
    ·rename_i m e hu; exact absurd hu (h2 m e)
    ·exact hs.elim
  obtain ⟨C,rfl⟩:=hva
  rw [hcs] at r1 r3 ⊢
  simp only [Value.cells] at r1 r2 r3
  have:=Fro.agg (F:=Yb W) cs C.toList r1 r2 r3
  simpa using this
 ·have h1:=hone a hs
  have hva : ∃ x,v.cells.toList = [x] ∧ v = x:=by
   have hl : v.cells.toList.length = 1:=by rw [← r1,h1]; rfl
   cases v with
   | agg C =>
    exfalso
    unfold Value.okWide at hv
    split at hv
    ·rename_i fs hu; exact hs (by rw [hu]; trivial)
    ·rename_i m e hu; exact hs (by rw [hu]; trivial)
    ·unfold Cell.okWide at hv
     split at hv <;> first | (rename_i h1 h2; cases h2) | skip
     unfold Cell.ok at hv
     split at hv <;> first | (rename_i h1 h2; cases h2) | exact hv
   | _=>exact ⟨_,rfl,rfl⟩
  obtain ⟨x,hx,rfl⟩:=hva
  rw [h1] at r3
  exact r3 0 _ _ rfl (by rw [hx]; rfl)
end
end Go.Dw
namespace Go.Dw
open Go.ChangeShapes Go.WideShapes Go.ChangeAt Go.RowKit
section
variable {H : Type} {enc : TypeId × Value → H} {P : Program} {W W' : World}
theorem La (hb : ∀ b,b < W.heap.size → W'.heap[b]? = W.heap[b]?) {a : Addr} (h : a.block < W.heap.size) : W'.cell? a = W.cell? a:=by
 unfold World.cell?
 rw [hb _ h]
theorem JE (hb : ∀ b,b < W.heap.size → W'.heap[b]? = W.heap[b]?) {a : Addr} (h : a.block < W.heap.size) : W'.frozen? a = W.frozen? a:=by
 unfold World.frozen?
 rw [hb _ h]
theorem Ln (hb : ∀ b,b < W.heap.size → W'.heap[b]? = W.heap[b]?) {p : MemPlace} (h : p.block < W.heap.size) : W.sameAt W' p:=by
 cases p with
 | cell b off=>exact La hb h
 | map b=>exact hb b h
theorem ET {sp : Nat → Bool} (K : Kids P (· < P.types.size)) (hz : ∀ t e,t < P.types.size → P.underlying t = some (.slice e) → 0 < P.cellsOf e) : ∀ {ts : List TypeId} {vs : List Value} {ds : List (DataW H)} {ps : List MemPlace},(∀ t ∈ ts,t < P.types.size) →
  DataW.TrodAll enc P W 0 (fun _=>true) true ts vs ds ps → (∀ p ∈ ps,W.sameAt W' p) → (∀ p ∈ ps,sp p.block = true) → DataW.TrodAll enc P W' 0 sp true ts vs ds ps
 | [],[],[],_,_,h,_,_=>h
 | _ :: _,_ :: _,_ :: _,_,hT,⟨p,q,⟨n,h1⟩,h2,e⟩,hs,hsp=>by
  subst e
  exact ⟨p,q,⟨n,DataW.trod_respare K hz n _ _ _ (hT _ (List.mem_cons.2 (Or.inl rfl))) (DataW.trod_carry n _ _ _ h1 (fun x hx=>hs x (List.mem_append_left _ hx))) (fun x hx=>hsp x (List.mem_append_left _ hx))⟩,
   ET K hz (fun t ht=>hT t (List.mem_cons.2 (Or.inr ht))) h2 (fun x hx=>hs x (List.mem_append_right _ hx)) (fun x hx=>hsp x (List.mem_append_right _ hx)),rfl⟩
 | [],[],_ :: _,_,_,h,_,_=>h.elim
 | [],_ :: _,_,_,_,h,_,_=>h.elim
 | _ :: _,[],_,_,_,h,_,_=>h.elim
 | _ :: _,_ :: _,[],_,_,h,_,_=>h.elim
theorem HH {f : Func} {s : ChangeSpec} {apart fresh handsOn again : Bool} {args : Array Value} {v : Value} {ds gs : List (DataW H)} {before : List MemPlace}
  (hW : DataW.Whole enc P f.params.toList s.vars apart W args.toList ds gs before) (hvs : s.vars = []) (K : Kids P (· < P.types.size)) (hz : ∀ t e,t < P.types.size → P.underlying t = some (.slice e) → 0 < P.cellsOf e) (hts : ∀ t ∈ f.params.toList,t < P.types.size)
  (hres : ∀ (b : Nat) (sp : Nat → Bool) (hd : Bool),DataW.TrodAll enc P W' b sp hd f.resultTypes.toList (v.resultList f.resultTypes.size) (s.fn H (ds ++ gs)).results [])
  (hargs : (s.fn H (ds ++ gs)).args = ds) (hvars : (s.fn H (ds ++ gs)).vars = []) (hos : W'.os = W.os) (hout : W'.output = W.output) (hb : ∀ b,b < W.heap.size → W'.heap[b]? = W.heap[b]?)
  (hok : ∀ (j : Nat) (t : TypeId) (r : Value),f.resultTypes[j]? = some t → (v.resultList f.resultTypes.size)[j]? = some r → Value.okWide P W' .any 0 t r) :
  s.post enc P f apart fresh handsOn again W args v W':=by
 have hW':=hW
 obtain ⟨p,q,hA,hV,e,hzz,hn⟩:=hW
 rw [hvs] at hV
 obtain ⟨rfl,rfl⟩:=trodVars_none hV
 subst e
 simp only [List.append_nil] at hW' hn hzz
 have hlt : ∀ x ∈ p,x.block < W.heap.size:=hW'.lt
 have hargs' : ∀ sp : Nat → Bool,(∀ x ∈ p,sp x.block = true) → DataW.TrodAll enc P W' 0 sp true f.params.toList args.toList (s.fn H (ds ++ [])).args p:=by
  intro sp hsp
  rw [hargs]
  exact ET K hz hts hA (fun x hx=>Ln hb (hlt x hx)) hsp
 have hvars' : ∀ sp : Nat → Bool,DataW.TrodVars enc P W' sp s.vars (s.fn H (ds ++ [])).vars []:=by
  intro sp
  rw [hvs,hvars]
  exact (rfl : ([] : List MemPlace) = [])
 have hold : ∀ x ∈ p,(fun b=>decide (b < W.heap.size)) x.block = true:=fun x hx=>by simpa using hlt x hx
 refine ⟨ds,[],p,[],p,[],hW',hres _ _ _,hargs' _ hold,hvars' _,⟨hos,hout,fun i hi=>?_⟩,fun _=>?_⟩
 ·rw [hb i hi]
  cases W.heap[i]? with
  | none=>rfl
  | some o=>cases o <;> first | exact ⟨rfl,rfl,rfl,fun _ _=>rfl⟩ | exact .inr ⟨rfl,rfl⟩ | rfl
 ·refine ⟨hok,_,_,([] ++ p) ++ [],⟨[] ++ p,[],trodAll_append (hargs' _ (fun _ _=>rfl)) (hres _ _ _),hvars' _,rfl,?_,?_⟩,?_⟩
  ·intro b off hp
   have hp' : MemPlace.cell b off ∈ p:=by simpa using hp
   rw [JE hb (hlt _ hp')]
   exact hzz b off hp'
  ·intro ha
   have:=hn ha
   simpa using this
  ·intro x hp _
   simpa using hp
theorem Als {k : Nat} {fn : Func} {A : Type} {enc0 : A → List D} {dec0 : List D → A} {f : A → Option Bool} {encR : Bool → D} {encE : Bool → List D} (hspec : Pd P k (Pf [] .ground enc0 dec0 f encR encE)) (hde : ∀ a,dec0 (enc0 a) = a) (hR : encR true = .bool true)
  {s : ChangeSpec} {apart fresh handsOn again : Bool} {args : Array Value} {ds gs : List (DataW H)} {before : List MemPlace} (hW : DataW.Whole enc P fn.params.toList s.vars apart W args.toList ds gs before) (hvs : s.vars = [])
  (hl : laidOutB P = true) (hm : mapsRowed P = true) (hz : ((List.range P.types.size).all fun t=>match P.underlying t with | some (.slice e)=>decide (0 < P.cellsOf e) | _=>true) = true) (hts : fn.params.toList.all (fun t=>decide (t < P.types.size)) = true)
  {tb : TypeId} (hrt : fn.resultTypes = #[tb]) (htb : P.underlying tb = some .bool) (hfn : ∀ ds : List (DataW H),ds.length = fn.params.size → s.fn H ds = { results:=[.lit (.bool true)],args:=ds,vars:=[] }) (hlen : ds.length = fn.params.size)
  (hglob : AeF P (Yb W)) (hread : ∃ a,BV (Yb W) W [] 0 (enc0 a) args.toList [] ∧ f a = some true) :
  Calls P k args W fun e W'=>∃ v,e = .returned v ∧ s.post enc P fn apart fresh handsOn again W args v W':=by
 obtain ⟨a,hA,hfa⟩:=hread
 have hgs : gs = []:=by
  obtain ⟨p,q,_,hV,_⟩:=hW
  rw [hvs] at hV
  exact (trodVars_none hV).1
 subst hgs
 have hF : Fok (Yb W) W:=fun b i x h=>h
 have hfin : ∀ b i x,Yb W b i = some x → b < W.heap.size:=by
  intro b i x h
  simp only [Yb,World.cell?] at h
  split at h
  ·rename_i hb
   exact (Array.getElem?_eq_some_iff.1 hb).1
  ·cases h
 have h:=(hspec (Yb W) hglob).2.2.1 rfl rfl W (Yb W) (enc0 a) args.toList [] (Af.refl _) hF hfin hA ⟨a,true,rfl,hfa⟩
 have e0 : args.toList.toArray = args:=by simp
 rw [e0] at h
 refine h.mono fun e W' hq=>?_
 obtain ⟨v,F',_,_,rfl,_,_,hst,hres,_⟩:=hq
 have hv : v = .bool true:=by
  have h1 : Fro F' ((Pf [] .ground enc0 dec0 f encR encE).res (enc0 a)) v:=hres
  rw [Bp hde hfa,hR] at h1
  cases h1
  rfl
 subst hv
 refine ⟨_,rfl,HH hW hvs (kids_rows hl hm) (slices_full_of P hz) (fun t ht=>by simpa using List.all_eq_true.1 hts t ht) ?_ ?_ ?_ hst.os hst.output (fun b hb=>hst.block b hb (fun ⟨_,hm,_⟩=>by cases hm)) ?_⟩
 ·intro b sp hd
  rw [List.append_nil,hfn ds hlen,hrt]
  exact trodAll_cons_mk (p:=[]) (p':=[]) (shut_bool htb true) trodAll_mk0
 ·rw [List.append_nil,hfn ds hlen]
 ·rw [List.append_nil,hfn ds hlen]
 ·exact ok_one hrt rfl (okWide_bool_mk htb true)
end
end Go.Dw
namespace Go.Dw
abbrev eR {α : Type} (s ty : Nat) (en : α → D) (l : List α) : D:=.row s ty (l.map en)
def uR {α : Type} (u : D → α) : D → List α | .row _ _ es=>es.map u | _=>[]
@[simp] theorem OE {α : Type} {u : D → α} {en : α → D} (h : ∀ a,u (en a) = a) (s ty : Nat) (l : List α) : uR u (.row s ty (l.map en)) = l:=by
 simp only [uR,List.map_map]
 conv=>rhs; rw [← List.map_id l]
 exact List.map_congr_left fun a _=>h a
theorem Kz {α : Type} {l : List α} {en : α → D} (h : ∀ q,AA (en q) = true) : ∀ e ∈ l.map en,AA e = true:=fun e he=>by
 obtain ⟨q,_,rfl⟩:=List.mem_map.1 he
 exact h q
section
variable {Γ : As} {X : Type} {K : KR X} {t : Option X} {e : List (Nat × D)} {o : List (Nat × Ac)} {n nv : Nat} {d : Bool} {acc : List CO}
 {r : List Av} {dst : Nat} {g : Option (Nat × Bool)} {af : List Nat} {α : Type}
variable {x y : Arg} {v w : D} {k k' : IntKind} {a b : Int} {s ty gi vi ii off m : Nat} {fz var : Bool} {es es' : List D} {z z' : D} {l l' : List α} {en : α → D}
theorem Xl {i : Nat} {c : Prop} {cs' : List D} {wo : List (Nat × Ac)} {rk : List Key} (hg : gOn e g = true) (hx : Aa e x = some (.optr gi vi i off)) (hy : Aa e y = some v) (hw : strip v = (true,v)) (ho : lkO o gi = some (vi,⟨false,var,s,ty,es⟩))
  (hr : (AF var (cells v)).run ⟨e,o,n⟩ = (c,cs',wo)) (hrd : (AF var (cells v)).rd ⟨e,o,n⟩ = rk) (hc : c) (hz : es[i]? = some z) (hk : known v = true) (hl : (cells v).length = m) (hb : Nat.ble (off + m) (cells z).length = true)
  (hes : es.set i (PH z off cs') = es') (hwo : wo.all (fun x=>x.1 != gi) = true)
  (h : TrO Γ r (nv + 1) ⟨e,(gi,some (vi,⟨false,var,s,ty,es'⟩)) :: (wo ++ o),n⟩ d (acc ++ [(gK g ++ (rdK x ++ (rdK y ++ (.o gi :: rk))),.o gi :: wo.map (fun x=>.o x.1),af)]) K t) (hrg : Ab gi = true:=by rfl) :
  TrO Γ (⟨none,.st m x y,g,af⟩ :: r) nv ⟨e,o,n⟩ d acc K t:=by
 have hb':=Nat.le_of_ble_eq_true hb
 obtain ⟨hi',rfl⟩:=List.getElem?_eq_some_iff.1 hz
 have hgd : es.getD i .top = es[i]:=by simp [hi']
 refine Am hg (c:=True) (we:=[]) (wo:=(gi,some (vi,⟨false,var,s,ty,es'⟩)) :: wo) (rd:=rdK x ++ (rdK y ++ (Key.o gi :: rk))) ?_ ?_ trivial (by simpa using h)
 ·simp only [evalOp,R.run_bind,Aq,Option.getD_some,hx,hy,hw,Cw,R.AW,Ax,ho,hrg,if_true,R.AG,hr,hgd,hes]
  simp [hc,hi',hb',hk,hl,hwo]
 ·simp only [evalOp,R.AK,Aq,Bl,Option.getD_some,hx,hy,hw,Cw,R.BU,Ax,ho,hrg,if_true,R.Ce,hrd,hr]
  simp
theorem Lt {i s0 ty0 : Nat} {es0 es0' : List D} (l : List α) (en : α → D) (hg : gOn e g = true) (hx : Aa e x = some (.optr gi vi i off)) (ho : lkO o gi = some (vi,⟨false,var,s0,ty0,es0⟩)) (hz : es0[i]? = some z) (hb : Nat.ble (off + 1) (cells z).length = true)
  (hv : OI (cells z) off 1 false = .row s ty (l.map en)) (hes : es0.set i (PH z off [.hole (4096 + dst) nv l.length]) = es0')
  (h : TrO Γ r (nv + 1) ⟨(dst,.osl (4096 + dst) nv 0 l.length) :: e,(4096 + dst,some (nv,⟨false,false,s,ty,l.map en⟩)) :: (gi,some (vi,⟨false,var,s0,ty0,es0'⟩)) :: o,n⟩ d (acc ++ [(gK g ++ (rdK x ++ [.o gi]),[.e dst,.o (4096 + dst),.o gi],af)]) K t)
  (hrg : Ab gi = true:=by rfl) (hne : Nat.beq gi (4096 + dst) = false:=by rfl) :
  TrO Γ (⟨some dst,.ld 1 false x,g,af⟩ :: r) nv ⟨e,o,n⟩ d acc K t:=by
 obtain ⟨hi,rfl⟩:=List.getElem?_eq_some_iff.1 hz
 have hb':=Nat.le_of_ble_eq_true hb
 have hgd : es0.getD i .top = es0[i]:=by simp [hi]
 have hne' : gi ≠ 4096 + dst:=fun e=>by subst e; simp at hne
 refine Am hg (c:=True) (we:=[(dst,.osl (4096 + dst) nv 0 l.length)]) (wo:=[(4096 + dst,some (nv,⟨false,false,s,ty,l.map en⟩)),(gi,some (vi,⟨false,var,s0,ty0,es0'⟩))]) (rd:=rdK x ++ [Key.o gi]) ?_ ?_ trivial h
 ·simp only [evalOp,R.run_bind,Aq,Option.getD_some,hx,strip,R.AW,Ax,ho,Ad,hgd,hv,hrg]
  simp [hi,hb',hne',hes]
 ·simp only [evalOp,R.AK,Aq,Bl,Option.getD_some,hx,strip,R.BU,Ax,ho,hgd,hv,hrg]
  simp
theorem Nz {i nm u q s0 ty0 : Nat} {es0 : List D} (hg : gOn e g = true) (hx : Aa e x = some (.optr gi vi i 0)) (ho : lkO o gi = some (vi,⟨false,var,s0,ty0,es0⟩)) (hz : es0[i]? = some (.hole nm u q))
  (h : TrO Γ r (nv + 1) ⟨(dst,.osl nm u 0 q) :: e,o,n⟩ d (acc ++ [(gK g ++ (rdK x ++ [.o gi]),[.e dst],af)]) K t) (hrg : Ab gi = true:=by rfl) :
  TrO Γ (⟨some dst,.ld 1 false x,g,af⟩ :: r) nv ⟨e,o,n⟩ d acc K t:=by
 obtain ⟨hi,he⟩:=List.getElem?_eq_some_iff.1 hz
 have hgd : es0.getD i .top = .hole nm u q:=by simp [hi,he]
 refine Am hg (c:=True) (we:=[(dst,.osl nm u 0 q)]) (wo:=[]) (rd:=rdK x ++ [Key.o gi]) ?_ ?_ trivial h
 ·simp only [evalOp,R.run_bind,Aq,Option.getD_some,hx,strip,R.AW,Ax,ho,Ad,hgd,hrg]
  simp [hi,cells,OI]
 ·simp only [evalOp,R.AK,Aq,Bl,Option.getD_some,hx,strip,R.BU,Ax,ho,hgd,hrg]
  simp [cells,OI]
theorem NY {i s0 ty0 : Nat} {l : List (List α)} {q : List α} (en : α → D) (hg : gOn e g = true) (hx : Aa e x = some (.optr gi vi i 0)) (ho : lkO o gi = some (vi,⟨false,false,s0,ty0,l.map (eR s ty en)⟩)) (hi : l[i]? = some q)
  (h : TrO Γ r (nv + 1) ⟨(dst,.osl (4096 + dst) nv 0 q.length) :: e,(4096 + dst,some (nv,⟨false,false,s,ty,q.map en⟩)) :: (gi,some (vi,⟨false,false,s0,ty0,(l.map (eR s ty en)).set i (.hole (4096 + dst) nv q.length)⟩)) :: o,n⟩ d (acc ++ [(gK g ++ (rdK x ++ [.o gi]),[.e dst,.o (4096 + dst),.o gi],af)]) K t)
  (hrg : Ab gi = true:=by rfl) (hne : Nat.beq gi (4096 + dst) = false:=by rfl) :
  TrO Γ (⟨some dst,.ld 1 false x,g,af⟩ :: r) nv ⟨e,o,n⟩ d acc K t :=
 Lt (i:=i) (z:=eR s ty en q) q en hg hx ho (by simp [hi]) rfl rfl rfl h hrg hne
theorem Ny {q : Nat} {es : List D} (hq : es.length = q) (hg : gOn e g = true) (hx : Aa e x = some (.osl gi vi 0 q)) (hy : Aa e y = some (.int k a)) (ho : lkO o gi = some (vi,⟨fz,false,s,ty,es⟩)) (hi : 0 ≤ a ∧ a < q)
  (h : TrO Γ r (nv + 1) ⟨(dst,.optr gi vi a.toNat 0) :: e,o,n⟩ d (acc ++ [(gK g ++ (rdK x ++ (rdK y ++ [.o gi])),[.e dst],af)]) K t) :
  TrO Γ (⟨some dst,.ixA s x y,g,af⟩ :: r) nv ⟨e,o,n⟩ d acc K t:=by
 subst hq
 refine Am hg (c:=True) (we:=[(dst,.optr gi vi a.toNat 0)]) (wo:=[]) (rd:=rdK x ++ (rdK y ++ [Key.o gi])) ?_ (by simp [evalOp,strip,R.BU,Ax,hx,hy,ho]) trivial h
 simp only [evalOp,R.run_bind,Aq,Option.getD_some,hx,hy,strip,R.AW,Ax,ho,R.AG,Ad]
 simp [hi.1,hi.2]
theorem NA {i g' v' m s0 ty0 : Nat} {l : List (List α)} {q q' : List α} {es : List D} {c : Prop} {cs' : List D} {wo : List (Nat × Ac)} {rk : List Key} (en : α → D) (hg : gOn e g = true) (hx : Aa e x = some (.optr gi vi i 0)) (hy : Aa e y = some (.osl g' v' 0 m)) (ho : lkO o gi = some (vi,⟨false,false,s0,ty0,es⟩)) (hes : es = l.map (eR s ty en) ∨ ∃ p u w,es = (l.map (eR s ty en)).set i (.hole p u w)) (hi : l[i]? = some q)
  (hr : (AF false [.osl g' v' 0 m]).run ⟨e,o,n⟩ = (c,cs',wo)) (hrd : (AF false [.osl g' v' 0 m]).rd ⟨e,o,n⟩ = rk) (hc : c) (hcs : cs' = [eR s ty en q']) (hwo : wo.all (fun x=>x.1 != gi) = true)
  (h : TrO Γ r (nv + 1) ⟨e,(gi,some (vi,⟨false,false,s0,ty0,(l.set i q').map (eR s ty en)⟩)) :: (wo ++ o),n⟩ d (acc ++ [(gK g ++ (rdK x ++ (rdK y ++ (.o gi :: rk))),.o gi :: wo.map (fun x=>.o x.1),af)]) K t) (hrg : Ab gi = true:=by rfl) :
  TrO Γ (⟨none,.st 1 x y,g,af⟩ :: r) nv ⟨e,o,n⟩ d acc K t:=by
 subst hcs
 obtain ⟨hl,_⟩:=List.getElem?_eq_some_iff.1 hi
 have hlen : i < es.length:=by rcases hes with rfl | ⟨p,u,w,rfl⟩ <;> simpa using hl
 have hset : es.set i (eR s ty en q') = (l.set i q').map (eR s ty en):=by
  rcases hes with rfl | ⟨p,u,w,rfl⟩ <;> simp [List.map_set]
 have hz : es[i]? = some es[i]:=by simp [hlen]
 have hc1 : (cells es[i]).length = 1 ∧ PH es[i] 0 [eR s ty en q'] = eR s ty en q':=by
  rcases hes with rfl | ⟨p,u,w,rfl⟩
  ·simp [cells,PH]
  ·simp [cells,PH]
 exact Xl (i:=i) (off:=0) (m:=1) (z:=es[i]) hg hx hy rfl ho hr hrd hc hz rfl rfl (by rw [hc1.1]; rfl) (by rw [hc1.2]; exact hset) hwo h hrg
theorem NV {bytes : Nat} {c c' : Prop} {new old : List D} {wo : List (Nat × Ac)} {rk rk' : List Key} (l l' : List α) (en : α → D) (hg : gOn e g = true) (hx : Aa e x = some v) (hy : Aa e y = some w) (hvw : strip v = (true,v)) (hww : strip w = (true,w))
  (hv : (view w).run ⟨e,o,n⟩ = (c,new)) (hvr : (view w).rd ⟨e,o,n⟩ = rk) (hc : c) (hn : new = l'.map en)
  (ht : (target s ty v).run ⟨e,o,n⟩ = (c',old,wo,true)) (htr : (target s ty v).rd ⟨e,o,n⟩ = rk') (hc' : c') (ho : old = l.map en)
  (hs : ∀ q,(cells (en q)).length = s) (hby : Nat.ble bytes 65536 = true) (hl : l.length + l'.length ≤ 16777216) (hpl : ∀ q,AA (en q) = true)
  (h : TrO Γ r (nv + 1) ⟨(dst,.osl (4096 + dst) nv 0 (l ++ l').length) :: e,(4096 + dst,some (nv,⟨false,false,s,ty,(l ++ l').map en⟩)) :: (wo ++ o),n⟩ d (acc ++ [(gK g ++ (rdK x ++ (rdK y ++ (rk ++ rk'))),[.e dst,.o (4096 + dst)] ++ wo.map (fun x=>.o x.1),af)]) K t) :
  TrO Γ (⟨some dst,.app s ty bytes x y,g,af⟩ :: r) nv ⟨e,o,n⟩ d acc K t:=by
 have hb':=Nat.le_of_ble_eq_true hby
 subst hn; subst ho
 refine Am hg (c:=True) (we:=[(dst,.osl (4096 + dst) nv 0 (l ++ l').length)]) (wo:=(4096 + dst,some (nv,⟨false,false,s,ty,(l ++ l').map en⟩)) :: wo) (rd:=rdK x ++ (rdK y ++ (rk ++ rk'))) ?_ ?_ trivial (by simpa using h)
 ·simp only [evalOp,R.run_bind,Aq,Option.getD_some,hx,hy,hvw,hww,source,hv,ht,R.run_pure,Ad,CA,nmR,cond_true]
  have hall : ∀ q ∈ l.map en ++ l'.map en,AA q = true:=by
   intro q hq
   rcases List.mem_append.1 hq with hq | hq <;> (obtain ⟨p,_,rfl⟩:=List.mem_map.1 hq; exact hpl p)
  simp [hc,hc',hl,hb',hs]
  intro q hq
  rcases hq with ⟨p,_,rfl⟩ | ⟨p,_,rfl⟩ <;> exact hpl p
 ·simp only [evalOp,R.AK,Aq,Bl,Option.getD_some,hx,hy,hvw,hww,source,hv,hvr,htr,R.BD]
  simp
theorem Fp {s' ty' q : Nat} (hg : gOn e g = true) (hx : Aa e x = some (.osl gi vi 0 q)) (ho : lkO o gi = some (ii,⟨false,var,s,ty,es⟩))
  (h : TrO Γ r (nv + 1) ⟨(dst,.osl gi vi 0 q) :: e,o,n⟩ d (acc ++ [(gK g ++ (rdK x ++ [.o gi]),[.e dst],af)]) K t) (hrg : Ab gi = true:=by rfl) :
  TrO Γ (⟨some dst,.asg x (some (s',ty')),g,af⟩ :: r) nv ⟨e,o,n⟩ d acc K t:=by
 refine Am hg (c:=True) (we:=[(dst,.osl gi vi 0 q)]) (wo:=[]) (rd:=rdK x ++ [Key.o gi]) ?_ ?_ trivial h
 ·simp only [evalOp,R.run_bind,Bk,Option.getD_some,hx,R.AW,Ax,ho,Bool.false_eq_true,if_false,R.AG,hrg,if_true,Ad]
 ·simp only [evalOp,R.AK,Bk,Fh,Option.getD_some,hx,R.BU,Ax,ho,Bool.false_eq_true,if_false,hrg,if_true,R.Ce]
theorem AdU {bytes : Nat} (hg : gOn e g = true) (hx : Aa e x = some (.int k a)) (hy : Aa e y = some (.int k' a)) (hl : 0 ≤ a ∧ a ≤ 16777216) (hby : Nat.ble bytes 65536 = true)
  (h : TrO Γ r (nv + 1) ⟨(dst,.osl dst nv 0 (List.replicate a.toNat ([] : List α)).length) :: e,(dst,some (nv,⟨false,false,s,ty,(List.replicate a.toNat ([] : List α)).map (fun _=>.nils)⟩)) :: o,n⟩ d (acc ++ [(gK g ++ (rdK x ++ rdK y),[.e dst,.o dst],af)]) K t) :
  TrO Γ (⟨some dst,.mkS s ty bytes .nils x y,g,af⟩ :: r) nv ⟨e,o,n⟩ d acc K t:=by
 have:=Nat.le_of_ble_eq_true hby
 exact Am hg (c:=True) (we:=[(dst,.osl dst nv 0 (List.replicate a.toNat ([] : List α)).length)]) (wo:=[(dst,some (nv,⟨false,false,s,ty,(List.replicate a.toNat ([] : List α)).map (fun _=>.nils)⟩))]) (rd:=rdK x ++ rdK y) (by simp [evalOp,Ad,AH,strip,hx,hy,hl,this]) (by simp [evalOp,strip,hx,hy]) trivial h
end
section
variable {e E : List (Nat × D)} {o O : List (Nat × Ac)} {n : Nat} {α : Type} {g v s ty : Nat} {var : Bool} {es es' : List D} {z : D}
theorem Co {τ : S} (hw : Rw ⟨e,o,n⟩ τ) (h : Has τ E O) : Has ⟨e,o,n⟩ E O:=h.imp fun _ h=>.rw hw h
theorem Fb {i off g' v' m s' ty' : Nat} {l : List α} {en : α → D} {c : D} (ho : lkO o g = some (v,⟨false,var,s,ty,es⟩)) (hz : es[i]? = some z) (hc : (cells z)[off]? = some c) (hh : c = .hole g' v' m ∨ (c = .osl g' v' 0 m ∧ var = true)) (ho' : lkO o g' = some (v',⟨false,false,s',ty',l.map en⟩))
  (hm : m = l.length) (hp : ∀ q,AA (en q) = true) (hes : es.set i (PH z off [.row s' ty' (l.map en)]) = es')
  (h : Has ⟨e,(g,some (v,⟨false,var,s,ty,es'⟩)) :: (g',none) :: o,n⟩ E O) (hrg : Ab g = true:=by rfl) (hne : Nat.beq g g' = false:=by rfl) : Has ⟨e,o,n⟩ E O:=by
 obtain ⟨hi,rfl⟩:=List.getElem?_eq_some_iff.1 hz
 have hgd : es.getD i .top = es[i]:=by simp [hi]
 have hne' : g ≠ g':=fun e=>by subst e; simp at hne
 subst hm
 have:=Rw.close (σ:=⟨e,o,n⟩) g v i off g' v' l.length ⟨false,var,s,ty,es⟩ ⟨false,false,s',ty',l.map en⟩ c (by rw [Ax]; exact ho) hrg rfl hi (by rw [hgd]; exact hc) hh (by rw [Ax]; exact ho') rfl rfl (by simp) (.inr fun e he=>by
  obtain ⟨q,_,rfl⟩:=List.mem_map.1 he
  exact hp q) hne'
 refine Co this ?_
 simp only [hgd,CV,hes]
 exact h
theorem JH {i g' v' m s' ty' : Nat} {l : List (List α)} {q q' : List α} {en : α → D} (hi : l[i]? = some q) (ho : lkO o g = some (v,⟨false,false,s,ty,(l.map (eR s' ty' en)).set i (.hole g' v' m)⟩)) (ho' : lkO o g' = some (v',⟨false,false,s',ty',q'.map en⟩))
  (hm : m = q'.length) (hp : ∀ q,AA (en q) = true)
  (h : Has ⟨e,(g,some (v,⟨false,false,s,ty,(l.set i q').map (eR s' ty' en)⟩)) :: (g',none) :: o,n⟩ E O) (hrg : Ab g = true:=by rfl) (hne : Nat.beq g g' = false:=by rfl) : Has ⟨e,o,n⟩ E O:=by
 obtain ⟨hl,_⟩:=List.getElem?_eq_some_iff.1 hi
 refine Fb (i:=i) (off:=0) (z:=.hole g' v' m) (c:=.hole g' v' m) ho (by simp [hl]) rfl (.inl rfl) ho' hm hp ?_ h hrg hne
 simp [PH,List.map_set]
theorem LZ {i g' v' m s' ty' : Nat} {l : List (List α)} {q : List α} {en : α → D} (hi : l[i]? = some q) (ho : lkO o g = some (v,⟨false,false,s,ty,(l.map (eR s' ty' en)).set i (.hole g' v' m)⟩)) (ho' : lkO o g' = some (v',⟨false,false,s',ty',q.map en⟩))
  (hm : m = q.length) (hp : ∀ q,AA (en q) = true)
  (h : Has ⟨e,(g,some (v,⟨false,false,s,ty,l.map (eR s' ty' en)⟩)) :: (g',none) :: o,n⟩ E O) (hrg : Ab g = true:=by rfl) (hne : Nat.beq g g' = false:=by rfl) : Has ⟨e,o,n⟩ E O:=by
 refine JH hi ho ho' hm hp ?_ hrg hne
 obtain ⟨hl,he⟩:=List.getElem?_eq_some_iff.1 hi
 have : l.set i q = l:=by rw [← he]; exact List.set_getElem_self hl
 rw [this]
 exact h
theorem Om {off s' ty' : Nat} {z' : D} (t : Nat) (l : List α) (en : α → D) (ho : lkO o g = some (v,⟨false,true,s,ty,[z]⟩)) (hc : (cells z)[off]? = some (.row s' ty' (l.map en))) (hz : PH z off [.osl (4096 + t) n 0 l.length] = z')
  (h : Has ⟨e,(4096 + t,some (n,⟨false,false,s',ty',l.map en⟩)) :: (g,some (v,⟨false,true,s,ty,[z']⟩)) :: o,n + 1⟩ E O) (hrg : Ab g = true:=by rfl) (hne : Nat.beq g (4096 + t) = false:=by rfl) : Has ⟨e,o,n⟩ E O:=by
 have hne' : g ≠ 4096 + t:=fun e=>by subst e; simp at hne
 have:=Rw.opn (σ:=⟨e,o,n⟩) g v 0 off t s' ty' (l.map en) ⟨false,true,s,ty,[z]⟩ (by rw [Ax]; exact ho) hrg rfl rfl (by simp) hc hne'
 refine Co this ?_
 simp only [List.length_map,List.getD_cons_zero,List.set_cons_zero,hz]
 exact h
theorem Ia {s' ty' i : Nat} {q : List α} (t : Nat) (en : α → D) (ho : lkO o g = some (v,⟨false,false,s,ty,es⟩)) (hz : es[i]? = some (eR s' ty' en q))
  (h : Has ⟨e,(4096 + t,some (n,⟨false,false,s',ty',q.map en⟩)) :: (g,some (v,⟨false,false,s,ty,es.set i (.hole (4096 + t) n q.length)⟩)) :: o,n + 1⟩ E O) (hrg : Ab g = true:=by rfl) (hne : Nat.beq g (4096 + t) = false:=by rfl) : Has ⟨e,o,n⟩ E O:=by
 have hne' : g ≠ 4096 + t:=fun e=>by subst e; simp at hne
 obtain ⟨hi,he⟩:=List.getElem?_eq_some_iff.1 hz
 have hgd : es.getD i .top = eR s' ty' en q:=by simp [hi,he]
 have:=Rw.opnr (σ:=⟨e,o,n⟩) g v i 0 t s' ty' (q.map en) ⟨false,false,s,ty,es⟩ (by rw [Ax]; exact ho) hrg rfl rfl hi (by simp only [hgd]; rfl) hne'
 refine Co this ?_
 simp only [List.length_map,hgd]
 exact h
theorem NT {s' ty' i j t1 t2 : Nat} {l : List (List α)} {q1 q2 : List α} (en : α → D) (ho : lkO o g = some (v,⟨false,false,s,ty,l.map (eR s' ty' en)⟩)) (h1 : l[i]? = some q1) (h2 : l[j]? = some q2) (hij : i ≠ j)
  (h : Has ⟨e,(4096 + t2,some (n + 1,⟨false,false,s',ty',q2.map en⟩)) :: (g,some (v,⟨false,false,s,ty,((l.map (eR s' ty' en)).set i (.hole (4096 + t1) n q1.length)).set j (.hole (4096 + t2) (n + 1) q2.length)⟩)) :: (4096 + t1,some (n,⟨false,false,s',ty',q1.map en⟩)) :: (g,some (v,⟨false,false,s,ty,(l.map (eR s' ty' en)).set i (.hole (4096 + t1) n q1.length)⟩)) :: o,n + 1 + 1⟩ E O)
  (hrg : Ab g = true:=by rfl) (hne1 : Nat.beq g (4096 + t1) = false:=by rfl) (hne2 : Nat.beq g (4096 + t2) = false:=by rfl) : Has ⟨e,o,n⟩ E O:=by
 refine Ia (s':=s') (ty':=ty') (i:=i) (q:=q1) t1 en ho (by simp [h1]) ?_ hrg hne1
 have hg1 : g ≠ 4096 + t1:=fun e=>by subst e; simp at hne1
 refine Ia (s':=s') (ty':=ty') (i:=j) (q:=q2) t2 en (v:=v) (s:=s) (ty:=ty) (es:=(l.map (eR s' ty' en)).set i (.hole (4096 + t1) n q1.length)) ?_ ?_ h hrg hne2
 ·have hb : Nat.beq g (4096 + t1) = false:=hne1
  simp [lkO,Ps,hb]
 ·rw [List.getElem?_set_ne hij]; simp [h2]
theorem NI {i j g1 g2 u1 u2 m1 m2 s' ty' : Nat} {l : List (List α)} {q1 q2 q1' q2' : List α} {en : α → D} (h1 : l[i]? = some q1) (h2 : l[j]? = some q2) (hij : i ≠ j)
  (ho : lkO o g = some (v,⟨false,false,s,ty,((l.map (eR s' ty' en)).set i (.hole g1 u1 m1)).set j (.hole g2 u2 m2)⟩)) (ho1 : lkO o g1 = some (u1,⟨false,false,s',ty',q1'.map en⟩)) (ho2 : lkO o g2 = some (u2,⟨false,false,s',ty',q2'.map en⟩))
  (hm1 : m1 = q1'.length) (hm2 : m2 = q2'.length) (hp : ∀ q,AA (en q) = true)
  (h : Has ⟨e,(g,some (v,⟨false,false,s,ty,((l.set i q1').set j q2').map (eR s' ty' en)⟩)) :: (g1,none) :: (g,some (v,⟨false,false,s,ty,((l.map (eR s' ty' en)).set i (.hole g1 u1 m1)).set j (eR s' ty' en q2')⟩)) :: (g2,none) :: o,n⟩ E O) (hrg : Ab g = true:=by rfl) (hne1 : Nat.beq g g1 = false:=by rfl) (hne2 : Nat.beq g g2 = false:=by rfl) (hne : Nat.beq g1 g2 = false:=by rfl) : Has ⟨e,o,n⟩ E O:=by
 obtain ⟨hi,_⟩:=List.getElem?_eq_some_iff.1 h1
 obtain ⟨hj,_⟩:=List.getElem?_eq_some_iff.1 h2
 have hb1 : Nat.beq g1 g = false:=by
  cases hb : Nat.beq g1 g
  ·rfl
  ·rw [Nat.eq_of_beq_eq_true hb] at hne1; simp at hne1
 refine Fb (s':=s') (ty':=ty') (i:=j) (off:=0) (z:=.hole g2 u2 m2) (c:=.hole g2 u2 m2) (es':=((l.map (eR s' ty' en)).set i (.hole g1 u1 m1)).set j (eR s' ty' en q2')) ho (by simp [hj]) rfl (.inl rfl) ho2 hm2 hp (by simp [PH]) ?_ hrg hne2
 refine Fb (s':=s') (ty':=ty') (i:=i) (off:=0) (z:=.hole g1 u1 m1) (c:=.hole g1 u1 m1) (v:=v) (s:=s) (ty:=ty) (es:=((l.map (eR s' ty' en)).set i (.hole g1 u1 m1)).set j (eR s' ty' en q2')) (l:=q1') (en:=en) ?_ ?_ rfl (.inl rfl) ?_ hm1 hp ?_ h hrg hne1
 ·simp [lkO,Ps]
 ·rw [List.getElem?_set_ne (fun e=>hij e.symm)]; simp [hi]
 ·simp only [lkO,Ps,hb1,cond_false,hne]
  exact ho1
 ·rw [List.set_comm _ _ hij,List.set_set]
  simp only [PH]
  rw [List.set_comm _ _ (fun e=>hij e.symm)]
  simp [List.map_set]
theorem NJ {g2 : Nat} (ho : lkO o g = some (v,⟨false,var,s,ty,es⟩)) (hrg : Ab g = false) (hg2 : g2 = 4096 + g) (he : Each (Enr false) es es')
  (h : Has ⟨e.map (fun p=>(p.1,ren g g2 p.2)),(g2,some (v,⟨false,var,s,ty,es'⟩)) :: (g,none) :: o,n⟩ E O) : Has ⟨e,o,n⟩ E O:=by
 have:=Rw.enrich (σ:=⟨e,o,n⟩) g g2 v ⟨false,var,s,ty,es⟩ es' (by rw [Ax]; exact ho) rfl (.inr ⟨hrg,hg2⟩) (by rw [hrg]; exact he)
 refine Co this ?_
 have hb : Nat.beq g g2 = false:=by
  cases hb : Nat.beq g g2
  ·rfl
  ·have:=Nat.eq_of_beq_eq_true hb; omega
 rw [hb]
 exact h
theorem Ni (ho : lkO o g = some (v,⟨false,var,s,ty,es⟩)) (hrg : Ab g = true) (he : Each (Enr true) es es')
  (h : Has ⟨e.map (fun p=>(p.1,ren g g p.2)),(g,some (v,⟨false,var,s,ty,es'⟩)) :: (g,some (v,⟨false,var,s,ty,es'⟩)) :: o,n⟩ E O) : Has ⟨e,o,n⟩ E O:=by
 have:=Rw.enrich (σ:=⟨e,o,n⟩) g g v ⟨false,var,s,ty,es⟩ es' (by rw [Ax]; exact ho) rfl (.inl ⟨rfl,hrg⟩) (by rw [hrg]; exact he)
 refine Co this ?_
 simpa using h
theorem NZ {s' ty' : Nat} {l : List (List α)} (en : α → D) (hs : 0 < s') (hl : ∀ q ∈ l,q = []) : Each (Enr false) (l.map fun _=>.nils) (l.map (eR s' ty' en)):=by
 refine ⟨by simp,fun i e e' h1 h2=>?_⟩
 rw [List.getElem?_map,Option.map_eq_some_iff] at h1 h2
 obtain ⟨q,hq,rfl⟩:=h1
 obtain ⟨q',hq',rfl⟩:=h2
 rw [hq] at hq'; cases hq'
 have:=hl q (List.mem_of_getElem? hq)
 subst this
 refine ⟨rfl,fun j c c' h1 h2=>?_⟩
 rcases j with _ | j
 ·simp only [cells,List.getElem?_cons_zero,Option.some.injEq] at h1 h2
  subst h1; subst h2
  exact .inr ⟨rfl,s',ty',hs,rfl⟩
 ·simp [cells] at h1
theorem NS (ho : lkO o g = some (v,⟨false,var,s,ty,es⟩)) (he : Each Frr es es') (h : Has ⟨e,(g,some (v,⟨false,var,s,ty,es'⟩)) :: o,n⟩ E O) (hrg : Ab g = true:=by rfl) : Has ⟨e,o,n⟩ E O:=by
 have:=Rw.frows (σ:=⟨e,o,n⟩) g v ⟨false,var,s,ty,es⟩ es' (by rw [Ax]; exact ho) hrg rfl he
 exact Co this h
theorem Ob {s' ty' : Nat} {l : List (List α)} (en : α → D) (hp : ∀ q,AA (en q) = true) : Each Frr (l.map (eR s' ty' en)) (l.map (eL en)):=by
 refine ⟨by simp,fun i e e' h1 h2=>?_⟩
 rw [List.getElem?_map,Option.map_eq_some_iff] at h1 h2
 obtain ⟨q,hq,rfl⟩:=h1
 obtain ⟨q',hq',rfl⟩:=h2
 rw [hq] at hq'; cases hq'
 refine ⟨rfl,fun j c c' h1 h2=>?_⟩
 rcases j with _ | j
 ·simp only [cells,List.getElem?_cons_zero,Option.some.injEq] at h1 h2
  subst h1; subst h2
  exact .inr ⟨s',ty',_,rfl,fun e he=>by
   obtain ⟨p,_,rfl⟩:=List.mem_map.1 he
   exact hp p,rfl⟩
 ·simp [cells] at h1
theorem AfM (ho : lkO o g = some (v,⟨false,false,s,ty,es⟩)) (he : es.map nrm = es') (h : Has ⟨e,(g,some (v,⟨false,false,s,ty,es'⟩)) :: o,n⟩ E O) (hrg : Ab g = false:=by rfl) : Has ⟨e,o,n⟩ E O:=by
 subst he
 have:=Rw.nilsl (σ:=⟨e,o,n⟩) g v ⟨false,false,s,ty,es⟩ (by rw [Ax]; exact ho) hrg rfl rfl
 exact Co this h
theorem Aht {l : List (List α)} (en : α → D) (hl : ∀ q ∈ l,q = []) : (l.map fun _=>D.nils).map nrm = l.map (eL en):=by
 rw [List.map_map]
 refine List.map_congr_left fun q hq=>?_
 rw [hl q hq]
 rfl
theorem AeN (ho : lkO o g = some (v,⟨false,true,s,ty,[z]⟩)) (hc : (cells z).all PG = true) (h : Has ⟨e.map (fun p=>(p.1,frp g v z p.2)),(g,none) :: o.map (fun p=>(p.1,frO g v z p.2)),n⟩ E O) : Has ⟨e,o,n⟩ E O:=by
 have:=Rw.fvar (σ:=⟨e,o,n⟩) g v ⟨false,true,s,ty,[z]⟩ z (by rw [Ax]; exact ho) rfl rfl rfl hc
 exact Co this h
end
end Go.Dw
namespace Go.Dw
abbrev eA {α : Type} (en : α → D) (l : List α) : D:=.agg (l.map en)
def uA {α : Type} (u : D → α) : D → List α | .agg cs=>cs.map u | _=>[]
@[simp] theorem OD {α : Type} {u : D → α} {en : α → D} (h : ∀ a,u (en a) = a) (l : List α) : uA u (.agg (l.map en)) = l:=by
 simp only [uA,List.map_map]
 conv=>rhs; rw [← List.map_id l]
 exact List.map_congr_left fun a _=>h a
def fpD : D → D | .fptr e _=>e | _=>.top
def Ahg : D → Nat → D | .clo _ caps,j=>caps.getD j .top | _,_=>.top
theorem Hz (cs : List D) (off : Nat) (d : D) : setAt cs off [d] = cs.set off d:=rfl
section
variable {Γ : As} {X : Type} {K : KR X} {t : Option X} {e : List (Nat × D)} {o : List (Nat × Ac)} {n nv : Nat} {d : Bool} {acc : List CO}
 {r : List Av} {dst : Nat} {g : Option (Nat × Bool)} {af : List Nat} {α : Type}
variable {x y : Arg} {v w : D} {k k' : IntKind} {a b : Int} {s ty gi vi ii off m : Nat} {fz var : Bool} {l : List α} {en : α → D}
theorem Uo {i len : Nat} (hg : gOn e g = true) (hx : Aa e x = some (.optr gi vi i off)) (hy : Aa e y = some (.int k a)) (hi : 0 ≤ a ∧ a < len)
  (h : TrO Γ r (nv + 1) ⟨(dst,.optr gi vi i (off + a.toNat * s)) :: e,o,n⟩ d (acc ++ [(gK g ++ (rdK x ++ rdK y),[.e dst],af)]) K t) :
  TrO Γ (⟨some dst,.ixP s len x y,g,af⟩ :: r) nv ⟨e,o,n⟩ d acc K t :=
 Am hg (c:=True) (we:=[(dst,.optr gi vi i (off + a.toNat * s))]) (wo:=[]) (rd:=rdK x ++ rdK y) (by simp [evalOp,Ad,strip,hx,hy,hi.1,hi.2]) (by simp [evalOp,strip,hx,hy]) trivial h
theorem WQ {q : α} {j : Nat} (hj : off = j) (hg : gOn e g = true) (hx : Aa e x = some (.optr gi vi 0 off)) (ho : lkO o gi = some (vi,⟨fz,var,s,ty,[.agg (l.map en)]⟩)) (hi : l[j]? = some q) (hpl : plain (en q) = true) (_hc : ∀ q,cells (en q) = [en q])
  (h : TrO Γ r (nv + 1) ⟨(dst,en q) :: e,o,n⟩ d (acc ++ [(gK g ++ (rdK x ++ [.o gi]),[.e dst],af)]) K t) :
  TrO Γ (⟨some dst,.ld 1 false x,g,af⟩ :: r) nv ⟨e,o,n⟩ d acc K t:=by
 subst hj
 have hl:=(List.getElem?_eq_some_iff.1 hi).1
 refine Ey (i:=0) (m:=1) (agg:=false) (off:=off) (z:=.agg (l.map en)) (v:=en q) hg hx ho rfl ?_ ?_ h (by simp [hpl])
 ·simp only [cells,List.length_map]
  exact Nat.ble_eq_true_of_le (by omega)
 ·simp only [OI,cells,Bool.false_eq_true,if_false]
  simp [hi]
theorem AiD {q q' : α} {j : Nat} {z' : D} (hj : off = j) (hg : gOn e g = true) (hx : Aa e x = some (.optr gi vi 0 off)) (hy : Aa e y = some (en q')) (hw : strip (en q') = (true,en q')) (ho : lkO o gi = some (vi,⟨false,true,s,ty,[.agg (l.map en)]⟩)) (hi : l[j]? = some q) (hk : known (en q') = true) (hc : cells (en q') = [en q']) (hz : D.agg ((l.set j q').map en) = z')
  (h : TrO Γ r (nv + 1) ⟨e,(gi,some (vi,⟨false,true,s,ty,[z']⟩)) :: o,n⟩ d (acc ++ [(gK g ++ (rdK x ++ (rdK y ++ [.o gi])),[.o gi],af)]) K t) (hrg : Ab gi = false:=by rfl) :
  TrO Γ (⟨none,.st 1 x y,g,af⟩ :: r) nv ⟨e,o,n⟩ d acc K t:=by
 subst hj
 subst hz
 have hl:=(List.getElem?_eq_some_iff.1 hi).1
 refine Ez (z:=.agg (l.map en)) (z':=.agg ((l.set off q').map en)) hg hx hy hw ho hk (by rw [hc]; rfl) ?_ ?_ h hrg
 ·simp only [cells,List.length_map]
  exact Nat.ble_eq_true_of_le (by omega)
 ·simp only [PH,hc,Hz,List.map_set]
theorem AdD {q q' : α} {j : Nat} {z' : D} (hj : off = j) (hg : gOn e g = true) (hx : Aa e x = some (.optr gi vi 0 off)) (hy : Aa e y = some (en q')) (hw : strip (en q') = (true,en q')) (ho : lkO o gi = some (vi,⟨false,true,s,ty,[.agg (l.map en)]⟩)) (hi : l[j]? = some q) (hk : known (en q') = true) (hc : cells (en q') = [en q']) (hz : D.agg ((l.set j q').map en) = z')
  (hcl : (AF true [en q']).run ⟨e,o,n⟩ = (True ∧ True ∧ ([] : List (Nat × Ac)).all (fun _=>([] : List (Nat × Ac)).all fun _=>true) = true,[en q'],[])) (hrd : (AF true [en q']).rd ⟨e,o,n⟩ = [])
  (h : TrO Γ r (nv + 1) ⟨e,(gi,some (vi,⟨false,true,s,ty,[z']⟩)) :: o,n⟩ d (acc ++ [(gK g ++ (rdK x ++ (rdK y ++ [.o gi])),[.o gi],af)]) K t) (hrg : Ab gi = true:=by rfl) :
  TrO Γ (⟨none,.st 1 x y,g,af⟩ :: r) nv ⟨e,o,n⟩ d acc K t:=by
 subst hj
 subst hz
 have hl:=(List.getElem?_eq_some_iff.1 hi).1
 refine Xl (i:=0) (c:=True ∧ True ∧ ([] : List (Nat × Ac)).all (fun _=>([] : List (Nat × Ac)).all fun _=>true) = true) (z:=.agg (l.map en)) (es':=[.agg ((l.set off q').map en)]) (cs':=[en q']) (wo:=[]) (rk:=[]) hg hx hy hw ho (by rw [hc]; exact hcl) (by rw [hc]; exact hrd) ⟨trivial,trivial,rfl⟩ rfl hk (by rw [hc]; rfl) ?_ ?_ rfl h hrg
 ·simp only [cells,List.length_map]
  exact Nat.ble_eq_true_of_le (by omega)
 ·simp only [PH,Hz,List.map_set,List.set_cons_zero]
theorem NW {len : Nat} {z : D} (hg : gOn e g = true) (hx : Aa e x = some (.fptr z off)) (hy : Aa e y = some (.int k a)) (hi : 0 ≤ a ∧ a < len)
  (h : TrO Γ r (nv + 1) ⟨(dst,.fptr z (off + a.toNat * s)) :: e,o,n⟩ d (acc ++ [(gK g ++ (rdK x ++ rdK y),[.e dst],af)]) K t) :
  TrO Γ (⟨some dst,.ixP s len x y,g,af⟩ :: r) nv ⟨e,o,n⟩ d acc K t :=
 Am hg (c:=True) (we:=[(dst,.fptr z (off + a.toNat * s))]) (wo:=[]) (rd:=rdK x ++ rdK y) (by simp [evalOp,Ad,strip,hx,hy,hi.1,hi.2]) (by simp [evalOp,strip,hx,hy]) trivial h
theorem Nu {q : α} {j : Nat} (hj : off = j) (hg : gOn e g = true) (hx : Aa e x = some (.fptr (.agg (l.map en)) off)) (hi : l[j]? = some q) (_hc : ∀ q,cells (en q) = [en q])
  (h : TrO Γ r (nv + 1) ⟨(dst,en q) :: e,o,n⟩ d (acc ++ [(gK g ++ rdK x,[.e dst],af)]) K t) :
  TrO Γ (⟨some dst,.ld 1 false x,g,af⟩ :: r) nv ⟨e,o,n⟩ d acc K t:=by
 subst hj
 have hl:=(List.getElem?_eq_some_iff.1 hi).1
 refine Gu (m:=1) (agg:=false) (off:=off) (z:=.agg (l.map en)) (v:=en q) hg hx ?_ ?_ h
 ·simp only [cells,List.length_map]
  exact Nat.ble_eq_true_of_le (by omega)
 ·simp only [OI,cells,Bool.false_eq_true,if_false]
  simp [hi]
theorem NN {q : α} {len : Nat} (hg : gOn e g = true) (hx : Aa e x = some (.agg (l.map en))) (hy : Aa e y = some (.int k a)) (hi : 0 ≤ a ∧ a < len) (hl : len ≤ l.length) (hq : l[a.toNat]? = some q)
  (h : TrO Γ r (nv + 1) ⟨(dst,en q) :: e,o,n⟩ d (acc ++ [(gK g ++ (rdK x ++ rdK y),[.e dst],af)]) K t) :
  TrO Γ (⟨some dst,.ix 1 len false x y,g,af⟩ :: r) nv ⟨e,o,n⟩ d acc K t:=by
 refine Am hg (c:=True) (we:=[(dst,en q)]) (wo:=[]) (rd:=rdK x ++ rdK y) ?_ (by simp [evalOp,strip,hx,hy]) trivial h
 simp [evalOp,Ad,strip,hx,hy,hi.1,hi.2,hl,OI,hq]
end
end Go.Dw
namespace Go.Dw
section
variable {Γ Γ' : As} {X ι γ : Type} {K : X → Au → S → Prop} {t : Option X} {e E : List (Nat × D)} {o O : List (Nat × Ac)} {n nv N : Nat} {acc : List CO}
 {r : List Av} {dst : Option Nat} {g : Option (Nat × Bool)} {af : List Nat}
theorem Ahq {σ : S} {E1 : List (Nat × D)} {O1 : List (Nat × Ac)} (h : Has σ E1 O1) (k : ∀ n,Has ⟨E1,O1,n⟩ E O) : Has σ E O :=
 h.elim fun n h=>(k n).imp fun _ k=>h.trans k
theorem Ahp (rn : Nat → Nat) (hn : DF rn (o.map Prod.fst) = true) (h : Has ⟨e.map (fun p=>(p.1,rnm rn p.2)),o.map (fun p=>(rn p.1,rnO rn p.2)),n⟩ E O) : Has ⟨e,o,n⟩ E O :=
 Co (Rw.nams (σ:=⟨e,o,n⟩) rn hn) h
def TrC (Γ : As) (op : Av) (r : List Av) (K : X → Au → S → Prop) (σ : S) (t : Option X) : Prop:=∀ x,t = some x → Ha Γ op σ (Wk (fun τ=>wpS Γ r τ.n τ (K x .normal)))
theorem OR {op : Av} {E : γ → List (Nat × D)} {O : γ → List (Nat × Ac)} (g0 : γ) (hh : Has ⟨e,o,nv⟩ (E g0) (O g0)) (h : ∀ g nn,TrC Γ op r K ⟨E g,O g,nn⟩ t) : TrO Γ (op :: r) nv ⟨e,o,n⟩ false acc (Eu N K) t:=by
 intro x hx
 refine ⟨fun _=>.inr (.inl ?_),fun hd=>by cases hd⟩
 obtain ⟨m,hm⟩:=hh
 exact ⟨_,hm,h g0 m x hx⟩
def Ld (Γ : As) (r : List Av) (dst : Option Nat) (rs : List AP) (e : List (Nat × D)) (K : X → Au → S → Prop) : X → Au → S → Prop:=fun x =>
 Ih rs e (fun d τ=>Wk (fun τ=>wpS Γ r τ.n τ (K x .normal)) ⟨Ad dst d ++ τ.e,τ.o,τ.n⟩)
def JJ (dst : Option Nat) (rs : List AP) (e : List (Nat × D)) (E : ι → γ → List (Nat × D)) (O : ι → γ → List (Nat × Ac)) (j : ι → Option X) : X → Au → S → Prop:=fun x =>
 Ih rs e (fun d τ=>∃ s g,j s = some x ∧ Has ⟨Ad dst d ++ τ.e,τ.o,τ.n⟩ (E s g) (O s g))
theorem Ir {fa : Arg} {args : List Arg} {k np : Nat} {caps ds : List D} {rs : List AP} {dc : OH} {KK : X → Au → S → Prop} (hg : gOn e g = true) (hf : Aa e fa = some (.clo k caps)) (hds : Ak e args = ds) (hw : ds.all (fun d=>(match d with | .when ..=>false | _=>true)) = true) (hkb : Nat.blt k 4096 = true)
  (hΓ : Γ (k + 4096 * AL ds) = some (ON Γ' np rs dc)) (hnp : (ds ++ caps).length = np) (hE : DH 0 (ds ++ caps) = E) (hK : ∀ x ex τ,KK x ex τ → Ld Γ r dst rs e K x ex τ) (h : Tr Γ' dc KK ⟨E,o,n⟩ t) :
  TrC Γ ⟨dst,.call fa args,g,af⟩ r K ⟨e,o,n⟩ t:=by
 intro x hx
 have hrd : (AM args).run ⟨e,o,n⟩ = ds:=by rw [← hds]; exact Bq args
 have hraw : (raw fa).run ⟨e,o,n⟩ = .clo k caps:=by simp [hf]
 have hon : onG g ⟨e,o,n⟩:=by
  cases g with
  | none=>trivial
  | some p =>
   obtain ⟨tt,want⟩:=p
   show (guardOf ((S.mk e o n).ge tt) want).1 ∧ (guardOf ((S.mk e o n).ge tt) want).2 = true
   simp only [gOn,BG] at hg
   simp only [S.ge]
   generalize (look e tt).getD .top = dd at *
   cases dd <;> simp_all [guardOf]
   rename_i p dd
   cases dd <;> simp_all
 refine ⟨hon,fa,args,k,caps,ON Γ' np rs dc,Lf Γ' np rs dc,Wk (fun τ=>wpS Γ r τ.n τ (K x .normal)),fun τ hτ=>hτ,rfl,hraw,hkb,?_,rfl,?_,?_⟩
 ·show Γ (k + 4096 * AL ((AM args).run ⟨e,o,n⟩)) = _
  rw [hrd]; exact hΓ
 ·show ((AM args).run ⟨e,o,n⟩).all _ = true
  rw [hrd]; exact hw
 ·show Lf Γ' np rs dc ((AM args).run ⟨e,o,n⟩ ++ caps) ⟨e,o,n⟩ _
  rw [hrd]
  refine ⟨hnp,_,.refl _,?_⟩
  show DWp Γ' dc _ ⟨DH 0 (ds ++ caps),o,n⟩
  rw [hE]
  exact Br dc _ _ _ (fun ex τ hq=>hK x ex τ hq) (h x hx)
theorem OQ {fa : Arg} {args : List Arg} {k np : Nat} {caps ds : List D} {rs : List AP} {dc : OH} (hg : gOn e g = true) (hf : Aa e fa = some (.clo k caps)) (hds : Ak e args = ds) (hw : ds.all (fun d=>(match d with | .when ..=>false | _=>true)) = true) (hkb : Nat.blt k 4096 = true)
  (hΓ : Γ (k + 4096 * AL ds) = some (ON Γ' np rs dc)) (hnp : (ds ++ caps).length = np) (hE : DH 0 (ds ++ caps) = E) (h : Tr Γ' dc (Ld Γ r dst rs e K) ⟨E,o,n⟩ t) :
  TrC Γ ⟨dst,.call fa args,g,af⟩ r K ⟨e,o,n⟩ t:=Ir hg hf hds hw hkb hΓ hnp hE (fun _ _ _ h=>h) h
theorem Ky {rs : List AP} {K1 K2 : D → S → Prop} (h : ∀ d τ,K1 d τ → K2 d τ) {ex : Au} {τ : S} (hq : Ih rs e K1 ex τ) : Ih rs e K2 ex τ:=by
 cases ex with
 | exit id=>exact hq
 | normal=>exact Wk.mono (fun τ h'=>⟨h'.1,h _ _ h'.2⟩) hq
 | ret=>exact Wk.mono (fun τ h'=>⟨h'.1,h _ _ h'.2⟩) hq
theorem Ow {fa : Arg} {args : List Arg} {k np : Nat} {caps ds : List D} {rs : List AP} {dc : OH} {ES : ι → γ → List (Nat × D)} {OS : ι → γ → List (Nat × Ac)} {j : ι → Option X} (hg : gOn e g = true) (hf : Aa e fa = some (.clo k caps)) (hds : Ak e args = ds) (hw : ds.all (fun d=>(match d with | .when ..=>false | _=>true)) = true) (hkb : Nat.blt k 4096 = true)
  (hΓ : Γ (k + 4096 * AL ds) = some (ON Γ' np rs dc)) (hnp : (ds ++ caps).length = np) (hE : DH 0 (ds ++ caps) = E) (h : Tr Γ' dc (JJ dst rs e ES OS j) ⟨E,o,n⟩ t) (h2 : ∀ s g nn,TrO Γ r nn ⟨ES s g,OS s g,nn⟩ false [] (Eu 0 K) (j s)) :
  TrC Γ ⟨dst,.call fa args,g,af⟩ r K ⟨e,o,n⟩ t:=by
 refine Ir (KK:=JJ dst rs e ES OS j) hg hf hds hw hkb hΓ hnp hE (fun x ex τ hq=>?_) h
 refine Ky (fun d τ hq=>?_) hq
 obtain ⟨s,g,hj,m,hm⟩:=hq
 exact ⟨_,hm,(h2 s g m x hj).1 rfl⟩
theorem OT {rs : List AP} {d : D} {ex : Au} {e' : List (Nat × D)} {o' : List (Nat × Ac)} {n' : Nat} (hex : (match ex with | .exit _=>false | _=>true) = true) (hr : (OL rs ⟨e',o',n'⟩).1) (hd : (OL rs ⟨e',o',n'⟩).2 = d) (hh : Has ⟨Ad dst d ++ e,o',n'⟩ E O)
  (h : ∀ nn,TrO Γ r nn ⟨E,O,nn⟩ false [] (Eu 0 K) t) : TrX ex (Ld Γ r dst rs e K) ⟨e',o',n'⟩ t:=by
 intro x hx
 subst hd
 have key : Wk (fun τ=>(OL rs τ).1 ∧ (fun (d : D) (τ : S)=>Wk (fun τ=>wpS Γ r τ.n τ (K x .normal)) ⟨Ad dst d ++ τ.e,τ.o,τ.n⟩) (OL rs τ).2 ⟨e,τ.o,τ.n⟩) ⟨e',o',n'⟩:=by
  refine ⟨_,.refl _,?_⟩
  obtain ⟨m,hm⟩:=hh
  exact ⟨hr,_,hm,(h m x hx).1 rfl⟩
 cases ex with
 | exit id=>cases hex
 | normal=>exact key
 | ret=>exact key
theorem Oh {rs : List AP} {d : D} {ex : Au} {e' : List (Nat × D)} {o' : List (Nat × Ac)} {n' : Nat} {ES : ι → γ → List (Nat × D)} {OS : ι → γ → List (Nat × Ac)} {j : ι → Option X} {s : ι} (g : γ) (hex : (match ex with | .exit _=>false | _=>true) = true) (hr : (OL rs ⟨e',o',n'⟩).1) (hd : (OL rs ⟨e',o',n'⟩).2 = d)
  (hh : Has ⟨Ad dst d ++ e,o',n'⟩ (ES s g) (OS s g)) : TrX ex (JJ dst rs e ES OS j) ⟨e',o',n'⟩ (j s):=by
 intro x hx
 subst hd
 have key : Wk (fun τ=>(OL rs τ).1 ∧ (fun (d : D) (τ : S)=>∃ s g,j s = some x ∧ Has ⟨Ad dst d ++ τ.e,τ.o,τ.n⟩ (ES s g) (OS s g)) (OL rs τ).2 ⟨e,τ.o,τ.n⟩) ⟨e',o',n'⟩:=by
  refine ⟨_,.refl _,hr,s,g,hx,hh⟩
 cases ex with
 | exit id=>cases hex
 | normal=>exact key
 | ret=>exact key
theorem Oy {α : Type} {σ : S} {c : OH} {m : Option α} {k : α → Option X} (h : ∀ x,m = some x → Tr Γ c K σ (k x)) : Tr Γ c K σ (m.bind k):=by
 intro r hr
 obtain ⟨x,hx,hk⟩:=Option.bind_eq_some_iff.1 hr
 exact h x hx r hk
theorem OA {σ : S} {c : OH} {p : Prop} [Decidable p] (h : p → Tr Γ c K σ t) : Tr Γ c K σ (chk p t):=by
 intro r hr
 obtain ⟨hp,ht⟩:=HT hr
 exact h hp r ht
theorem On {α : Type} {l : List α} {f : α → D} {i j : Nat} {q : α} {u v : D} (h : l[i]? = some q) (hij : i ≠ j) : (((l.map f).set i u).set j v)[i]? = some u:=by
 have:=(List.getElem?_eq_some_iff.1 h).1
 rw [List.getElem?_set_ne (fun e=>hij e.symm)]; simp [this]
theorem Oo {α : Type} {l : List α} {f : α → D} {i j : Nat} {q : α} {u v : D} (h : l[j]? = some q) : (((l.map f).set i u).set j v)[j]? = some v:=by
 have:=(List.getElem?_eq_some_iff.1 h).1
 simp [this]
theorem MP {α : Type} {KK : KR X} {d : Bool} {x y : Arg} {s ty gi vi : Nat} {l : List α} {en : α → D} {i : Nat} {q q' : α} {c : Prop} {rk : List Key} (hg : gOn e g = true) (hx : Aa e x = some (.optr gi vi i 0)) (hy : Aa e y = some (en q')) (hw : strip (en q') = (true,en q'))
  (ho : lkO o gi = some (vi,⟨false,false,s,ty,l.map en⟩)) (hi : l[i]? = some q) (hk : known (en q') = true) (hc : ∀ q,cells (en q) = [en q])
  (hz : PH (en q) 0 [en q'] = en q') (hcl : (AF false [en q']).run ⟨e,o,n⟩ = (c,[en q'],[])) (hrd : (AF false [en q']).rd ⟨e,o,n⟩ = rk) (hcc : c)
  (h : TrO Γ r (nv + 1) ⟨e,(gi,some (vi,⟨false,false,s,ty,(l.set i q').map en⟩)) :: o,n⟩ d (acc ++ [(gK g ++ (rdK x ++ (rdK y ++ (.o gi :: rk))),[.o gi],af)]) KK t) (hrg : Ab gi = true:=by rfl) :
  TrO Γ (⟨none,.st 1 x y,g,af⟩ :: r) nv ⟨e,o,n⟩ d acc KK t:=by
 have hl:=(List.getElem?_eq_some_iff.1 hi).1
 refine Xl (i:=i) (off:=0) (m:=1) (z:=en q) (es':=(l.set i q').map en) (cs':=[en q']) (wo:=[]) (rk:=rk) hg hx hy hw ho (by rw [hc]; exact hcl) (by rw [hc]; exact hrd) hcc (by simp [hi]) hk (by rw [hc]; rfl) (by rw [hc]; rfl) ?_ rfl h hrg
 rw [hz,List.map_set]
end
end Go.Dw
namespace Go.Dw
def AfR {α : Type} (z : α) (n : Int) : List (Int × α) → α
 | []=>z
 | (k,u) :: r=>if k = n then u else AfR z n r
def AfS {α : Type} (n : Int) (u : α) : List (Int × α) → List (Int × α)
 | []=>[(n,u)]
 | (k,u') :: r=>if k = n then (k,u) :: r else (k,u') :: AfS n u r
def AcM {α : Type} (n : Int) : List (Int × α) → List (Int × α)
 | []=>[]
 | (k,u) :: r=>if k = n then r else (k,u) :: AcM n r
def BW {α : Type} (en : α → D) (p : Int × α) : D:=.agg [.int .i64 p.1,en p.2]
theorem Hv {α : Type} (en : α → D) (z : α) (n : Int) : ∀ l : List (Int × α),CT (en z) n (l.map (BW en)) = en (AfR z n l)
 | []=>rfl
 | (k,u) :: r=>by
  simp only [List.map_cons,BW,CT,AfR]
  split
  ·rfl
  ·exact Hv en z n r
theorem Hw {α : Type} (en : α → D) (u : α) (n : Int) : ∀ l : List (Int × α),CU n (en u) (l.map (BW en)) = (AfS n u l).map (BW en)
 | []=>rfl
 | (k,u') :: r=>by
  simp only [List.map_cons,BW,CU,AfS]
  split
  ·rfl
  ·have:=Hw en u n r
   simp only [List.map_cons,BW] at this ⊢
   rw [← this]
theorem Fe {α : Type} (en : α → D) (n : Int) : ∀ l : List (Int × α),CS n (l.map (BW en)) = (AcM n l).map (BW en)
 | []=>rfl
 | (k,u') :: r=>by
  simp only [List.map_cons,BW,CS,AcM]
  split
  ·rfl
  ·have:=Fe en n r
   simp only [List.map_cons,BW] at this ⊢
   rw [← this]
theorem AcV {α : Type} (l : List α) (en : α → D) (k : Nat) : List.take (l.length - k) (List.drop k (l.map en)) = (l.drop k).map en:=by
 rw [← List.map_drop]
 exact List.take_of_length_le (by simp)
section
variable {Γ : As} {X α : Type} {K : KR X} {t : Option X} {e E : List (Nat × D)} {o O : List (Nat × Ac)} {n nv : Nat} {acc : List CO} {d : Bool}
 {r : List Av} {dst : Nat} {g : Option (Nat × Bool)} {af : List Nat} {x y i : Arg} {gi vi ty : Nat} {m : Int} {en : α → D} {l : List (Int × α)} {z : D}
theorem BN (g v : Nat) : strip (.mref g v) = (true,.mref g v):=rfl
theorem BM (k : IntKind) (n : Int) : strip (.int k n) = (true,.int k n):=rfl
theorem Ox {K : X → Au → S → Prop} {N : Nat} 
  (h : ∀ nn,TrO Γ r (nn + 1) ⟨(dst,.mref dst nn) :: e,(dst,some (nn,⟨true,false,0,0,[]⟩)) :: o,nn + 1⟩ false [] (Eu N K) t) :
  TrO Γ (⟨some dst,.mkm,none,af⟩ :: r) nv ⟨e,o,n⟩ false acc (Eu N K) t:=by
 intro q hq
 refine ⟨fun _=>.inr (.inr ?_),fun hd=>by cases hd⟩
 exact ⟨_,.refl _,rfl,rfl,dst,rfl,_,.refl _,(h nv q hq).1 rfl⟩
theorem Oc {v gg off tt s tyy ss : Nat} {zz z' : D} (ho : lkO o gg = some (v,⟨false,true,ss,ty,[zz]⟩)) (hc : (cells zz)[off]? = some .nils) (hs : Nat.blt 0 s = true) (hz : PH zz off [.osl tt n 0 0] = z')
  (h : Has ⟨e,(gg,some (v,⟨false,true,ss,ty,[z']⟩)) :: (tt,some (n,⟨false,false,s,tyy,[]⟩)) :: o,n + 1⟩ E O) (hr : Ab gg = false:=by rfl) (hne : Nat.beq gg tt = false:=by rfl) : Has ⟨e,o,n⟩ E O:=by
 subst hz
 have hs' : 0 < s:=by simpa [Nat.blt_eq] using hs
 have hne' : gg ≠ tt:=fun e=>by subst e; simp at hne
 have:=Rw.nilv (σ:=⟨e,o,n⟩) gg v 0 off tt s tyy ⟨false,true,ss,ty,[zz]⟩ (by rw [Ax]; exact ho) hr rfl rfl (by simp) hc hs' hne'
 exact Co this h
theorem NK {v vw gw off gg s tyy ss tw k : Nat} {β : Type} {l : List β} {en : β → D} {zz z' : D} (how : lkO o gw = some (vw,⟨false,true,ss,tw,[zz]⟩)) (hc : (cells zz)[off]? = some (.osl gg v 0 k)) (ho : lkO o gg = some (v,⟨false,false,s,tyy,l.map en⟩)) (hk : k ≤ l.length)
  (hz : PH zz off [.osl gg v 0 (l.take k).length] = z')
  (h : Has ⟨e,(gw,some (vw,⟨false,true,ss,tw,[z']⟩)) :: (gg,some (v,⟨false,false,s,tyy,(l.take k).map en⟩)) :: o,n⟩ E O) (hrw : Ab gw = false:=by rfl) (hr : Ab gg = false:=by rfl) (hne : Nat.beq gw gg = false:=by rfl) : Has ⟨e,o,n⟩ E O:=by
 subst hz
 have hne' : gw ≠ gg:=fun e=>by subst e; simp at hne
 have:=Rw.shrink (σ:=⟨e,o,n⟩) gw vw 0 off gg v k ⟨false,true,ss,tw,[zz]⟩ ⟨false,false,s,tyy,l.map en⟩ (by rw [Ax]; exact how) hrw rfl rfl (by simp) hc (by rw [Ax]; exact ho) hr rfl rfl (by simpa using hk) hne'
 refine Co this ?_
 have e1 : ((l.map en).take k).length = (l.take k).length:=by simp
 have e2 : (l.map en).take k = (l.take k).map en:=List.map_take.symm
 simp only [List.getD_cons_zero,List.set_cons_zero]
 rw [e2,List.length_map]
 exact h
theorem Of (hg : gOn e g = true) (hx : Aa e x = some (.mref gi vi)) (hi : Aa e i = some (.int .i64 m)) (ho : lkO o gi = some (vi,⟨true,false,0,ty,l.map (BW en)⟩)) (zz : α) (hz : z = en zz)
  (h : TrO Γ r (nv + 1) ⟨(dst,en (AfR zz m l)) :: e,o,n⟩ d (acc ++ [(gK g ++ (rdK x ++ (rdK i ++ [.o gi])),[.e dst],af)]) K t) :
  TrO Γ (⟨some dst,.mget z x i,g,af⟩ :: r) nv ⟨e,o,n⟩ d acc K t:=by
 subst hz
 refine Am hg (c:=True) (we:=[(dst,en (AfR zz m l))]) (wo:=[]) (rd:=rdK x ++ (rdK i ++ [Key.o gi])) ?_ ?_ trivial h
 ·simp only [evalOp,R.run_bind,Aq,Option.getD_some,hx,hi,BN,BM,BT,R.AW,Ax,ho,R.AG,R.run_pure,Ad,Hv]
  simp
 ·simp only [evalOp,R.AK,Aq,Bl,Option.getD_some,hx,hi,BN,BM,BT,R.BU,Ax,ho,R.Ce,R.BD,List.append_nil]
theorem Og (hg : gOn e g = true) (hx : Aa e x = some (.mref gi vi)) (hi : Aa e i = some (.int .i64 m)) (u : α) (hy : Aa e y = some (en u)) (hw : strip (en u) = (true,en u)) (hgr : Ba (en u) = true) (ho : lkO o gi = some (vi,⟨true,false,0,ty,l.map (BW en)⟩))
  (h : TrO Γ r (nv + 1) ⟨e,(gi,some (vi,⟨true,false,0,ty,(AfS m u l).map (BW en)⟩)) :: o,n⟩ d (acc ++ [(gK g ++ (rdK x ++ (rdK i ++ (rdK y ++ [.o gi]))),[.o gi],af)]) K t) :
  TrO Γ (⟨none,.mset x i y,g,af⟩ :: r) nv ⟨e,o,n⟩ d acc K t:=by
 refine Am hg (c:=True) (we:=[]) (wo:=[(gi,some (vi,⟨true,false,0,ty,(AfS m u l).map (BW en)⟩))]) (rd:=rdK x ++ (rdK i ++ (rdK y ++ [Key.o gi]))) ?_ ?_ trivial h
 ·simp only [evalOp,R.run_bind,Aq,Option.getD_some,hx,hi,hy,hw,BN,BM,BT,R.AW,Ax,ho,R.AG,R.run_pure,Hw,hgr]
  simp
 ·simp only [evalOp,R.AK,Aq,Bl,Option.getD_some,hx,hi,hy,hw,BN,BM,BT,R.BU,Ax,ho,R.Ce,R.BD,List.append_nil]
theorem Oe (hg : gOn e g = true) (hx : Aa e x = some (.mref gi vi)) (hi : Aa e i = some (.int .i64 m)) (ho : lkO o gi = some (vi,⟨true,false,0,ty,l.map (BW en)⟩))
  (h : TrO Γ r (nv + 1) ⟨(dst,.tup []) :: e,(gi,some (vi,⟨true,false,0,ty,(AcM m l).map (BW en)⟩)) :: o,n⟩ d (acc ++ [(gK g ++ (rdK x ++ (rdK i ++ [.o gi])),[.e dst,.o gi],af)]) K t) :
  TrO Γ (⟨some dst,.mdel x i,g,af⟩ :: r) nv ⟨e,o,n⟩ d acc K t:=by
 refine Am hg (c:=True) (we:=[(dst,.tup [])]) (wo:=[(gi,some (vi,⟨true,false,0,ty,(AcM m l).map (BW en)⟩))]) (rd:=rdK x ++ (rdK i ++ [Key.o gi])) ?_ ?_ trivial h
 ·simp only [evalOp,R.run_bind,Aq,Option.getD_some,hx,hi,BN,BM,BT,R.AW,Ax,ho,R.AG,R.run_pure,Ad,Fe]
  simp
 ·simp only [evalOp,R.AK,Aq,Bl,Option.getD_some,hx,hi,BN,BM,BT,R.BU,Ax,ho,R.Ce,R.BD,List.append_nil]
theorem NX (hg : gOn e g = true) (hx : Aa e x = some (.mref gi vi)) (hi : Aa e i = some (.int .i64 m)) (ho : lkO o gi = some (vi,⟨true,false,0,ty,l.map (BW en)⟩))
  (h : TrO Γ r (nv + 1) ⟨e,(gi,some (vi,⟨true,false,0,ty,(AcM m l).map (BW en)⟩)) :: o,n⟩ d (acc ++ [(gK g ++ (rdK x ++ (rdK i ++ [.o gi])),[.o gi],af)]) K t) :
  TrO Γ (⟨none,.mdel x i,g,af⟩ :: r) nv ⟨e,o,n⟩ d acc K t:=by
 refine Am hg (c:=True) (we:=[]) (wo:=[(gi,some (vi,⟨true,false,0,ty,(AcM m l).map (BW en)⟩))]) (rd:=rdK x ++ (rdK i ++ [Key.o gi])) ?_ ?_ trivial h
 ·simp only [evalOp,R.run_bind,Aq,Option.getD_some,hx,hi,BN,BM,BT,R.AW,Ax,ho,R.AG,R.run_pure,Ad,Fe]
  simp
 ·simp only [evalOp,R.AK,Aq,Bl,Option.getD_some,hx,hi,BN,BM,BT,R.BU,Ax,ho,R.Ce,R.BD,List.append_nil]
end
theorem nbq (a b : Nat) : Nat.beq a b = decide (a = b):=by
 by_cases h : a = b
 ·simp [h]
 ·rw [decide_eq_false h]
  exact Bool.eq_false_iff.2 fun h'=>h (Nat.eq_of_beq_eq_true h')
end Go.Dw
namespace Go.Dw
class TyE (ty : Nat) {α : outParam Type} (en : outParam (α → D)) : Prop
def noE {B : Type} (_ : B) : List D:=[]
class Px {A : Type} (enc : A → List D) (dec : outParam (List D → A)) : Prop where
 ok : ∀ a,dec (enc a) = a
def EvL (l l' : List D) : Prop:=l = l'
theorem EvL.nil {l : List D} (h : l = []) : EvL l []:=h
theorem EvL.cons {l t t' : List D} {a : D} (h : l = a :: t) (ht : EvL t t') : EvL l (a :: t'):=by
 cases ht; exact h
def EvP (l l' : List (Nat × Nat × D)) : Prop:=l = l'
theorem EvP.nil {l : List (Nat × Nat × D)} (h : l = []) : EvP l []:=h
theorem EvP.cons {e : List (Nat × D)} {a b : Nat} {x : Arg} {r : List (Nat × Nat × Arg)} {d : D} {r' : List (Nat × Nat × D)} (h : Aa e x = some d) (ht : EvP (Cq e r) r') : EvP (Cq e ((a,b,x) :: r)) ((a,b,d) :: r'):=by
 cases ht; simp [EvP,Cq,h]
section
variable {Γ : As} {X : Type} {K : KR X} {t : Option X} {e : List (Nat × D)} {o : List (Nat × Ac)} {n nv : Nat} {d : Bool} {acc : List CO}
 {r : List Av} {dst : Nat} {g : Option (Nat × Bool)} {af : List Nat} {α : Type}
 {x y : Arg} {v v' w : D} {k k' : IntKind} {a b : Int} {s ty gi vi ii off m : Nat} {fz var : Bool} {es cs : List D} {z z' : D} {l l' : List α} {en : α → D}
theorem FC {i : Nat} (hg : gOn e g = true) (hx : Aa e x = some (.optr gi vi i off)) (ho : lkO o gi = some (vi,⟨fz,var,s,ty,es⟩)) (hz : es[i]? = some z) (hv : (cells z)[off]? = some v)
  (h : TrO Γ r (nv + 1) ⟨(dst,v) :: e,o,n⟩ d (acc ++ [(gK g ++ (rdK x ++ [.o gi]),[.e dst],af)]) K t) (hpl : (plain v || !Ab gi) = true:=by rfl) :
  TrO Γ (⟨some dst,.ld 1 false x,g,af⟩ :: r) nv ⟨e,o,n⟩ d acc K t :=
 Ey hg hx ho hz (Nat.ble_eq_true_of_le (List.getElem?_eq_some_iff.1 hv).1) (by simp [OI,hv]) h hpl
theorem FD {i : Nat} (hg : gOn e g = true) (hx : Aa e x = some (.optr gi vi i off)) (ho : lkO o gi = some (vi,⟨fz,var,s,ty,es⟩)) (hz : es[i]? = some z) (hb : Nat.ble (off + m) (cells z).length = true) (hv : EvL (((cells z).drop off).take m) cs)
  (h : TrO Γ r (nv + 1) ⟨(dst,.agg cs) :: e,o,n⟩ d (acc ++ [(gK g ++ (rdK x ++ [.o gi]),[.e dst],af)]) K t) :
  TrO Γ (⟨some dst,.ld m true x,g,af⟩ :: r) nv ⟨e,o,n⟩ d acc K t :=
 Ey hg hx ho hz hb (by cases hv; rfl) h (by rfl)
theorem IG (hg : gOn e g = true) (hx : Aa e x = some (.fptr z off)) (hv : (cells z)[off]? = some v)
  (h : TrO Γ r (nv + 1) ⟨(dst,v) :: e,o,n⟩ d (acc ++ [(gK g ++ rdK x,[.e dst],af)]) K t) :
  TrO Γ (⟨some dst,.ld 1 false x,g,af⟩ :: r) nv ⟨e,o,n⟩ d acc K t :=
 Gu hg hx (Nat.ble_eq_true_of_le (List.getElem?_eq_some_iff.1 hv).1) (by simp [OI,hv]) h
theorem IH (hg : gOn e g = true) (hx : Aa e x = some (.fptr z off)) (hb : Nat.ble (off + m) (cells z).length = true) (hv : EvL (((cells z).drop off).take m) cs)
  (h : TrO Γ r (nv + 1) ⟨(dst,.agg cs) :: e,o,n⟩ d (acc ++ [(gK g ++ rdK x,[.e dst],af)]) K t) :
  TrO Γ (⟨some dst,.ld m true x,g,af⟩ :: r) nv ⟨e,o,n⟩ d acc K t :=
 Gu hg hx hb (by cases hv; rfl) h
theorem LB (hg : gOn e g = true) (hx : Aa e x = some (.optr gi vi 0 0)) (hy : Aa e y = some v) (hw : strip v = (true,v)) (ho : lkO o gi = some (vi,⟨false,true,s,ty,[z]⟩)) (hk : known v = true) (hl : cells v = [v'])
  (hb : Nat.ble 1 (cells z).length = true) (hz : (match z with | .agg _=>false | _=>true) = true)
  (h : TrO Γ r (nv + 1) ⟨e,(gi,some (vi,⟨false,true,s,ty,[v']⟩)) :: o,n⟩ d (acc ++ [(gK g ++ (rdK x ++ (rdK y ++ [.o gi])),[.o gi],af)]) K t) (hrg : Ab gi = false:=by rfl) :
  TrO Γ (⟨none,.st 1 x y,g,af⟩ :: r) nv ⟨e,o,n⟩ d acc K t :=
 Ez hg hx hy hw ho hk (by rw [hl]; rfl) hb (by rw [hl]; cases z <;> first | rfl | cases hz) h hrg
theorem LC {zs : List D} (hg : gOn e g = true) (hx : Aa e x = some (.optr gi vi 0 off)) (hy : Aa e y = some v) (hw : strip v = (true,v)) (ho : lkO o gi = some (vi,⟨false,true,s,ty,[z]⟩)) (hk : known v = true) (hl : (cells v).length = m)
  (hzz : z = .agg zs) (hb : Nat.ble (off + m) zs.length = true) (hz : EvL (setAt zs off (cells v)) cs)
  (h : TrO Γ r (nv + 1) ⟨e,(gi,some (vi,⟨false,true,s,ty,[.agg cs]⟩)) :: o,n⟩ d (acc ++ [(gK g ++ (rdK x ++ (rdK y ++ [.o gi])),[.o gi],af)]) K t) (hrg : Ab gi = false:=by rfl) :
  TrO Γ (⟨none,.st m x y,g,af⟩ :: r) nv ⟨e,o,n⟩ d acc K t:=by
 subst hzz; cases hz
 exact Ez hg hx hy hw ho hk hl hb rfl h hrg
theorem Lz {zs : List D} {parts : List (Nat × Nat × Arg)} {ps : List (Nat × Nat × D)} (hg : gOn e g = true) (hp : EvP (Cq e parts) ps) (hf : Ei zs.length ps = true) (hz : EvL (DP zs ps) cs)
  (h : TrO Γ r (nv + 1) ⟨(dst,.agg cs) :: e,o,n⟩ d (acc ++ [(gK g ++ Da parts,[.e dst],af)]) K t) :
  TrO Γ (⟨some dst,.bld zs parts,g,af⟩ :: r) nv ⟨e,o,n⟩ d acc K t:=MK hg hp hf hz h
theorem JY (hg : gOn e g = true) (hx : Aa e x = some (.agg cs)) (hv : cs[off]? = some v)
  (h : TrO Γ r (nv + 1) ⟨(dst,v) :: e,o,n⟩ d (acc ++ [(gK g ++ rdK x,[.e dst],af)]) K t) :
  TrO Γ (⟨some dst,.fld off 1 false x,g,af⟩ :: r) nv ⟨e,o,n⟩ d acc K t :=
 Jn hg hx (Nat.ble_eq_true_of_le (List.getElem?_eq_some_iff.1 hv).1) (by simp [OI,hv]) h
theorem JZ {cs' : List D} (hg : gOn e g = true) (hx : Aa e x = some (.agg cs)) (hb : Nat.ble (off + m) cs.length = true) (hv : EvL ((cs.drop off).take m) cs')
  (h : TrO Γ r (nv + 1) ⟨(dst,.agg cs') :: e,o,n⟩ d (acc ++ [(gK g ++ rdK x,[.e dst],af)]) K t) :
  TrO Γ (⟨some dst,.fld off m true x,g,af⟩ :: r) nv ⟨e,o,n⟩ d acc K t :=
 Jn hg hx hb (by cases hv; rfl) h
theorem Ho (_ : TyE ty en) (hg : gOn e g = true) (hx : Aa e x = some .nils) (h : TrO Γ r (nv + 1) ⟨(dst,.osl dst nv 0 ([] : List α).length) :: e,(dst,some (nv,⟨false,false,s,ty,([] : List α).map en⟩)) :: o,n⟩ d (acc ++ [(gK g ++ rdK x,[.e dst,.o dst],af)]) K t) :
  TrO Γ (⟨some dst,.asg x (some (s,ty)),g,af⟩ :: r) nv ⟨e,o,n⟩ d acc K t:=IA hg en hx h
theorem LA {bytes : Nat} {q : α} (_ : TyE ty en) (hz : z = en q) (hg : gOn e g = true) (hx : Aa e x = some (.int k a)) (hy : Aa e y = some (.int k' a)) (hl : 0 ≤ a ∧ a ≤ 16777216) (hby : Nat.ble bytes 65536 = true)
  (h : TrO Γ r (nv + 1) ⟨(dst,.osl dst nv 0 (List.replicate a.toNat q).length) :: e,(dst,some (nv,⟨false,false,s,ty,(List.replicate a.toNat q).map en⟩)) :: o,n⟩ d (acc ++ [(gK g ++ (rdK x ++ rdK y),[.e dst,.o dst],af)]) K t) :
  TrO Γ (⟨some dst,.mkS s ty bytes z x y,g,af⟩ :: r) nv ⟨e,o,n⟩ d acc K t:=ML en hg hx hy hz hl hby h
theorem ID {c : Prop} {parts : List (Nat × Arg)} {i : Nat} {p : D} {rk : List Key} {q : α} (_ : TyE ty en) (hg : gOn e g = true) (hr : (AO parts).run ⟨e,o,n⟩ = (c,[(i,p)],[])) (hk : (AO parts).rd ⟨e,o,n⟩ = rk) (hc : c) (hq : p = en q)
  (hp : HW s 1 [(i,p)] = true) (hes : Xr [z] [(i,en q)] = [en q])
  (h : TrO Γ r (nv + 1) ⟨(dst,.osl dst nv 0 [q].length) :: e,(dst,some (nv,⟨false,false,s,ty,[q].map en⟩)) :: o,n⟩ d (acc ++ [(gK g ++ rk,[.e dst,.o dst],af)]) K t) :
  TrO Γ (⟨some dst,.bldS s ty z 1 parts,g,af⟩ :: r) nv ⟨e,o,n⟩ d acc K t:=by
 subst hq
 exact AcW [q] en hg hr hk hc hp hes rfl (by simpa using h)
theorem IF {p q : Bool} (hg : gOn e g = true) (hx : Aa e x = some (.bool p)) (hy : Aa e y = some (.bool q))
  (h : TrO Γ r (nv + 1) ⟨(dst,.bool (!(p == q))) :: e,o,n⟩ d (acc ++ [(gK g ++ (rdK x ++ rdK y),[.e dst],af)]) K t) :
  TrO Γ (⟨some dst,.eqB true x y,g,af⟩ :: r) nv ⟨e,o,n⟩ d acc K t:=Jl hg hx hy h
theorem IE {p q : Bool} (hg : gOn e g = true) (hx : Aa e x = some (.bool p)) (hy : Aa e y = some (.bool q))
  (h : TrO Γ r (nv + 1) ⟨(dst,.bool (p == q)) :: e,o,n⟩ d (acc ++ [(gK g ++ (rdK x ++ rdK y),[.e dst],af)]) K t) :
  TrO Γ (⟨some dst,.eqB false x y,g,af⟩ :: r) nv ⟨e,o,n⟩ d acc K t:=Jl hg hx hy h
theorem Abk {ops : List Av} {x : Nat} {wt : Bool} {b : Bool} {dt : Option Nat} {op : DOp} {t1 t2 : Option X} (hx : Ps e x = some (.bool b))
  (h1 : TrO Γ (⟨dt,op,some (x,wt),af⟩ :: ops) nv ⟨DL e x (.bool true),o,n⟩ d acc K t1) (h2 : TrO Γ (⟨dt,op,some (x,wt),af⟩ :: ops) nv ⟨DL e x (.bool false),o,n⟩ d acc K t2) :
  TrO Γ (⟨dt,op,some (x,wt),af⟩ :: ops) nv ⟨e,o,n⟩ d acc K (bif b then t1 else t2):=KM x hx h1 h2
end
section
variable {Γ : As} {X A B : Type} {K : KR X} {e : List (Nat × D)} {o : List (Nat × Ac)} {n nv : Nat} {d : Bool} {acc : List CO}
 {r : List Av} {dst : Nat} {g : Option (Nat × Bool)} {af : List Nat} {α : Type}
 {ptr : List (Nat × (Nat × Nat))} {kind : Kind} {enc : A → List D} {dec : List D → A} {f : A → Option B} {encR : B → D} {encE : B → List D} {m : Option B} {kt : B → Option X}
 {fa : Arg} {args : List Arg} {caps : List D} {k : Nat} {c : Prop} {ds : List D} {w : List (Nat × Ac)} {ps : List (Nat × Nat × Own)} {rk : List Key} {s ty : Nat}
theorem Gx (hg : gOn e g = true) (hf : Aa e fa = some (.clo k caps)) (hΓ : Γ (k + 4096 * AL (Ak e args)) = some (Pf ptr .val enc dec f encR encE)) [hde : Px enc dec] (hr : (Ae ptr 0 (Ak e args ++ caps)).run ⟨e,o,n⟩ = (c,ds,w,ps))
  (hk : (Ae ptr 0 (Ak e args ++ caps)).rd ⟨e,o,n⟩ = rk) (hc : c) (ha : ∃ a,f a = m ∧ ds = enc a)
  (h : ∀ b,m = some b → TrO Γ r (nv + 1) ⟨(dst,encR b) :: e,(Ah ps (encE b) ++ w) ++ o,n⟩ d (acc ++ [(gK g ++ (rdK fa ++ (Bd args ++ rk)),.e dst :: (Ah ps (encE b) ++ w).map (fun x=>.o x.1),af)]) K (kt b)) (hkb : Nat.blt k 4096 = true:=by rfl) :
  TrO Γ (⟨some dst,.call fa args,g,af⟩ :: r) nv ⟨e,o,n⟩ d acc K (m.bind kt) :=
 QU fun b hb=>ha.elim fun a ha=>AcY a hg hf hΓ hde.ok hr hk hc ha.2 (ha.1.trans hb) (h b hb) hkb
theorem FG (hg : gOn e g = true) (hf : Aa e fa = some (.clo k caps)) (hΓ : Γ (k + 4096 * AL (Ak e args)) = some (Pf ptr .val enc dec f encR encE)) [hde : Px enc dec] (hr : (Ae ptr 0 (Ak e args ++ caps)).run ⟨e,o,n⟩ = (c,ds,w,ps))
  (hk : (Ae ptr 0 (Ak e args ++ caps)).rd ⟨e,o,n⟩ = rk) (hc : c) (ha : ∃ a,f a = m ∧ ds = enc a)
  (h : ∀ b,m = some b → TrO Γ r (nv + 1) ⟨e,(Ah ps (encE b) ++ w) ++ o,n⟩ d (acc ++ [(gK g ++ (rdK fa ++ (Bd args ++ rk)),(Ah ps (encE b) ++ w).map (fun x=>.o x.1),af)]) K (kt b)) (hkb : Nat.blt k 4096 = true:=by rfl) :
  TrO Γ (⟨none,.call fa args,g,af⟩ :: r) nv ⟨e,o,n⟩ d acc K (m.bind kt) :=
 QU fun b hb=>ha.elim fun a ha=>EK a hg hf hΓ hde.ok hr hk hc ha.2 (ha.1.trans hb) (h b hb) hkb
theorem EE (hg : gOn e g = true) (hf : Aa e fa = some (.clo k caps)) (hΓ : Γ (k + 4096 * AL (Ak e args)) = some (Pf [] .ground enc dec f encR encE)) [hde : Px enc dec] (hr : (Ae [] 0 (Ak e args ++ caps)).run ⟨e,o,n⟩ = (c,ds,w,ps))
  (hk : (Ae [] 0 (Ak e args ++ caps)).rd ⟨e,o,n⟩ = rk) (hc : c) (ha : ∃ a,f a = m ∧ ds = enc a) (hgr : ∀ b,isGround (encR b) = true)
  (h : ∀ b,m = some b → TrO Γ r (nv + 1) ⟨(dst,encR b) :: e,o,n⟩ d (acc ++ [(gK g ++ (rdK fa ++ (Bd args ++ rk)),[.e dst],af)]) K (kt b)) (hkb : Nat.blt k 4096 = true:=by rfl) :
  TrO Γ (⟨some dst,.call fa args,g,af⟩ :: r) nv ⟨e,o,n⟩ d acc K (m.bind kt) :=
 QU fun b hb=>ha.elim fun a ha=>AaX a hg hf hΓ hde.ok hr hk hc ha.2 (ha.1.trans hb) (hgr b) (h b hb) hkb
theorem Gw {lf : B → List α} {en : α → D} (hg : gOn e g = true) (hf : Aa e fa = some (.clo k caps)) (hΓ : Γ (k + 4096 * AL (Ak e args)) = some (Pf ptr (.row s ty) enc dec f encR encE)) [hde : Px enc dec] (hr : (Ae ptr 0 (Ak e args ++ caps)).run ⟨e,o,n⟩ = (c,ds,w,ps))
  (hk : (Ae ptr 0 (Ak e args ++ caps)).rd ⟨e,o,n⟩ = rk) (hc : c) (ha : ∃ a,f a = m ∧ ds = enc a) (hl : ∀ b,encR b = .sl ((lf b).map en))
  (h : ∀ b,m = some b → TrO Γ r (nv + 1) ⟨(dst,.osl dst nv 0 (lf b).length) :: e,((dst,some (nv,⟨false,false,s,ty,(lf b).map en⟩)) :: (Ah ps (encE b) ++ w)) ++ o,n⟩ d (acc ++ [(gK g ++ (rdK fa ++ (Bd args ++ rk)),.e dst :: .o dst :: (Ah ps (encE b) ++ w).map (fun x=>.o x.1),af)]) K (kt b)) (hkb : Nat.blt k 4096 = true:=by rfl) :
  TrO Γ (⟨some dst,.call fa args,g,af⟩ :: r) nv ⟨e,o,n⟩ d acc K (m.bind kt) :=
 QU fun b hb=>ha.elim fun a ha=>Fq a hg hf hΓ hde.ok hr hk hc ha.2 (ha.1.trans hb) (hl b) (h b hb) hkb
theorem Gv (hg : gOn e g = true) (hf : Aa e fa = some (.clo k caps)) (hΓ : Γ (k + 4096 * AL (Ak e args)) = some (Pf ptr (.ptr s ty) enc dec f encR encE)) [hde : Px enc dec] (hr : (Ae ptr 0 (Ak e args ++ caps)).run ⟨e,o,n⟩ = (c,ds,w,ps))
  (hk : (Ae ptr 0 (Ak e args ++ caps)).rd ⟨e,o,n⟩ = rk) (hc : c) (ha : ∃ a,f a = m ∧ ds = enc a)
  (h : ∀ b,m = some b → TrO Γ r (nv + 1) ⟨(dst,.optr dst nv 0 0) :: e,((dst,some (nv,⟨false,true,s,ty,[encR b]⟩)) :: (Ah ps (encE b) ++ w)) ++ o,n⟩ d (acc ++ [(gK g ++ (rdK fa ++ (Bd args ++ rk)),.e dst :: .o dst :: (Ah ps (encE b) ++ w).map (fun x=>.o x.1),af)]) K (kt b)) (hkb : Nat.blt k 4096 = true:=by rfl) :
  TrO Γ (⟨some dst,.call fa args,g,af⟩ :: r) nv ⟨e,o,n⟩ d acc K (m.bind kt) :=
 QU fun b hb=>ha.elim fun a ha=>AcX a hg hf hΓ hde.ok hr hk hc ha.2 (ha.1.trans hb) (h b hb) hkb
variable {b : B} {t : Option X}
theorem GA (hg : gOn e g = true) (hf : Aa e fa = some (.clo k caps)) (hΓ : Γ (k + 4096 * AL (Ak e args)) = some (Pf ptr .val enc dec f encR encE)) [hde : Px enc dec] (hr : (Ae ptr 0 (Ak e args ++ caps)).run ⟨e,o,n⟩ = (c,ds,w,ps))
  (hk : (Ae ptr 0 (Ak e args ++ caps)).rd ⟨e,o,n⟩ = rk) (hm : m = some b) (hc : c) (ha : ∃ a,f a = m ∧ ds = enc a)
  (h : TrO Γ r (nv + 1) ⟨(dst,encR b) :: e,(Ah ps (encE b) ++ w) ++ o,n⟩ d (acc ++ [(gK g ++ (rdK fa ++ (Bd args ++ rk)),.e dst :: (Ah ps (encE b) ++ w).map (fun x=>.o x.1),af)]) K t) (hkb : Nat.blt k 4096 = true:=by rfl) :
  TrO Γ (⟨some dst,.call fa args,g,af⟩ :: r) nv ⟨e,o,n⟩ d acc K t :=
 ha.elim fun a ha=>AcY a hg hf hΓ hde.ok hr hk hc ha.2 (ha.1.trans hm) h hkb
theorem FH (hg : gOn e g = true) (hf : Aa e fa = some (.clo k caps)) (hΓ : Γ (k + 4096 * AL (Ak e args)) = some (Pf ptr .val enc dec f encR encE)) [hde : Px enc dec] (hr : (Ae ptr 0 (Ak e args ++ caps)).run ⟨e,o,n⟩ = (c,ds,w,ps))
  (hk : (Ae ptr 0 (Ak e args ++ caps)).rd ⟨e,o,n⟩ = rk) (hm : m = some b) (hc : c) (ha : ∃ a,f a = m ∧ ds = enc a)
  (h : TrO Γ r (nv + 1) ⟨e,(Ah ps (encE b) ++ w) ++ o,n⟩ d (acc ++ [(gK g ++ (rdK fa ++ (Bd args ++ rk)),(Ah ps (encE b) ++ w).map (fun x=>.o x.1),af)]) K t) (hkb : Nat.blt k 4096 = true:=by rfl) :
  TrO Γ (⟨none,.call fa args,g,af⟩ :: r) nv ⟨e,o,n⟩ d acc K t :=
 ha.elim fun a ha=>EK a hg hf hΓ hde.ok hr hk hc ha.2 (ha.1.trans hm) h hkb
theorem EF (hg : gOn e g = true) (hf : Aa e fa = some (.clo k caps)) (hΓ : Γ (k + 4096 * AL (Ak e args)) = some (Pf [] .ground enc dec f encR encE)) [hde : Px enc dec] (hr : (Ae [] 0 (Ak e args ++ caps)).run ⟨e,o,n⟩ = (c,ds,w,ps))
  (hk : (Ae [] 0 (Ak e args ++ caps)).rd ⟨e,o,n⟩ = rk) (hm : m = some b) (hc : c) (ha : ∃ a,f a = m ∧ ds = enc a) (hgr : isGround (encR b) = true)
  (h : TrO Γ r (nv + 1) ⟨(dst,encR b) :: e,o,n⟩ d (acc ++ [(gK g ++ (rdK fa ++ (Bd args ++ rk)),[.e dst],af)]) K t) (hkb : Nat.blt k 4096 = true:=by rfl) :
  TrO Γ (⟨some dst,.call fa args,g,af⟩ :: r) nv ⟨e,o,n⟩ d acc K t :=
 ha.elim fun a ha=>AaX a hg hf hΓ hde.ok hr hk hc ha.2 (ha.1.trans hm) hgr h hkb
theorem Gz {l : List α} {en : α → D} (hg : gOn e g = true) (hf : Aa e fa = some (.clo k caps)) (hΓ : Γ (k + 4096 * AL (Ak e args)) = some (Pf ptr (.row s ty) enc dec f encR encE)) [hde : Px enc dec] (hr : (Ae ptr 0 (Ak e args ++ caps)).run ⟨e,o,n⟩ = (c,ds,w,ps))
  (hk : (Ae ptr 0 (Ak e args ++ caps)).rd ⟨e,o,n⟩ = rk) (hm : m = some b) (hc : c) (ha : ∃ a,f a = m ∧ ds = enc a) (hl : encR b = .sl (l.map en))
  (h : TrO Γ r (nv + 1) ⟨(dst,.osl dst nv 0 l.length) :: e,((dst,some (nv,⟨false,false,s,ty,l.map en⟩)) :: (Ah ps (encE b) ++ w)) ++ o,n⟩ d (acc ++ [(gK g ++ (rdK fa ++ (Bd args ++ rk)),.e dst :: .o dst :: (Ah ps (encE b) ++ w).map (fun x=>.o x.1),af)]) K t) (hkb : Nat.blt k 4096 = true:=by rfl) :
  TrO Γ (⟨some dst,.call fa args,g,af⟩ :: r) nv ⟨e,o,n⟩ d acc K t :=
 ha.elim fun a ha=>Fq a hg hf hΓ hde.ok hr hk hc ha.2 (ha.1.trans hm) hl h hkb
theorem Gy (hg : gOn e g = true) (hf : Aa e fa = some (.clo k caps)) (hΓ : Γ (k + 4096 * AL (Ak e args)) = some (Pf ptr (.ptr s ty) enc dec f encR encE)) [hde : Px enc dec] (hr : (Ae ptr 0 (Ak e args ++ caps)).run ⟨e,o,n⟩ = (c,ds,w,ps))
  (hk : (Ae ptr 0 (Ak e args ++ caps)).rd ⟨e,o,n⟩ = rk) (hm : m = some b) (hc : c) (ha : ∃ a,f a = m ∧ ds = enc a)
  (h : TrO Γ r (nv + 1) ⟨(dst,.optr dst nv 0 0) :: e,((dst,some (nv,⟨false,true,s,ty,[encR b]⟩)) :: (Ah ps (encE b) ++ w)) ++ o,n⟩ d (acc ++ [(gK g ++ (rdK fa ++ (Bd args ++ rk)),.e dst :: .o dst :: (Ah ps (encE b) ++ w).map (fun x=>.o x.1),af)]) K t) (hkb : Nat.blt k 4096 = true:=by rfl) :
  TrO Γ (⟨some dst,.call fa args,g,af⟩ :: r) nv ⟨e,o,n⟩ d acc K t :=
 ha.elim fun a ha=>AcX a hg hf hΓ hde.ok hr hk hc ha.2 (ha.1.trans hm) h hkb
end
def Hj (o : List (Nat × Ac)) : List Nat → List (Nat × Ac)
 | []=>[]
 | g :: r=>(g,(lkO o g).map fun x=>(x.1,{ x.2 with fz:=true })) :: Hj o r
theorem Kh {o : List (Nat × Ac)} : ∀ {gs : List Nat},(gs.all fun g=>match lkO o g with | some (_,p)=>!p.var | none=>false) = true → FzB o (Hj o gs)
 | [],_=>trivial
 | g :: r,h=>by
  simp only [List.all_cons,Bool.and_eq_true] at h
  refine ⟨?_,Kh h.2⟩
  cases hg : lkO o g with
  | none=>rw [hg] at h; cases h.1
  | some x =>
   rw [hg] at h
   exact ⟨x.1,x.2,rfl,by simpa using h.1,rfl⟩
theorem MR {e E : List (Nat × D)} {o O : List (Nat × Ac)} {n : Nat} (gs : List Nat) (hw : (gs.all fun g=>match lkO o g with | some (_,p)=>!p.var | none=>false) = true) (hE : HJ e o n (Hj o gs) E) (hO : HK e o n (Hj o gs) O) : Has ⟨e,o,n⟩ E O:=Abq _ (Kh hw) hE hO
section
variable {Γ : As} {R ι γ : Type} {K : R → Au → S → Prop} {τ : S} {t : Option R} {E : ι → γ → List (Nat × D)} {O : ι → γ → List (Nat × Ac)} {j : ι → Option R}
theorem ND (h : ∃ s g,j s = t ∧ Has τ (E s g) (O s g)) : TrX .normal (Ic E O j K) τ t:=by
 obtain ⟨s,g,rfl,h⟩:=h; exact MN g h
theorem HE {id : Nat} (h : ∃ s g,j s = t ∧ Has τ (E s g) (O s g)) : TrX .normal (Dl id E O j K) τ t:=by
 obtain ⟨s,g,rfl,h⟩:=h; exact AaY g h
theorem Ix {id : Nat} (h : ∃ s g,j s = t ∧ Has τ (E s g) (O s g)) : TrX (.exit id) (Dl id E O j K) τ t:=by
 obtain ⟨s,g,rfl,h⟩:=h; exact HI g h
theorem MS {s : ι} (h : ∃ g,Has τ (E s g) (O s g)) : TrX .normal (GJ E O K) τ (cnt s):=by
 obtain ⟨g,h⟩:=h; exact AeS g h
theorem exU {p : Unit → Prop} (h : p ()) : ∃ s,p s:=⟨_,h⟩
theorem exP {α β : Type} {p : α × β → Prop} (h : ∃ a b,p (a,b)) : ∃ s,p s:=h.elim fun a h=>h.elim fun b h=>⟨(a,b),h⟩
end
section
variable {A B : Type} {ptr : List (Nat × (Nat × Nat))} {kind : Kind} {enc : A → List D} {dec : List D → A} {f : A → Option B} {encR : B → D} {encE : B → List D}
theorem fn2 {P : Program} {Γ : As} {k : Nat} {fn : Func} {dc : OH} {rs : List AP} [hde : Px enc dec] (np : Nat) (hΓ : ∀ k sp,Γ k = some sp → Pd P (k % 4096) sp) (hf : P.funcs[k]? = some fn)
  (hT : ∀ a,Tr Γ dc (Bs ptr kind rs encR encE) ⟨Di ptr 0 (enc a),Cu ptr 0 (enc a),262144⟩ (f a))
  (hc : (fn.body.bind (OK P fn.ntmps)) = some dc:=by conv=>lhs; cbv) (hr : fn.results.toList.mapM (OM P) = some rs:=by conv=>lhs; cbv)
  (hname : (fn.name == "runtime.NumGoroutine") = false:=by decide) (hnp : np ≤ fn.ntmps:=by decide) (hlen : ∀ a,(enc a).length = np:=by exact fun _=>rfl) (hkeys : ∀ a,BB ptr 0 (enc a) = ptr.map Prod.fst:=by exact fun _=>rfl) (hptr : Ew ptr = true:=by decide)
  (hni : BF kind = none:=by rfl) (hno : Dn kind = none:=by rfl) : Pd P k (Pf ptr kind enc dec f encR encE) :=
 NF hΓ hf hname hc hr hnp hde.ok hlen hkeys hptr (fun a=>Nv (hT a)) hni hno
end
structure Ct (n : Nat) : Prop
theorem Ct.dec {n : Nat} (_ : Ct (n + 1)) : Ct n:=⟨⟩
end Go.Dw
namespace Go.Dw
structure Fz' (gs : List Nat) : Prop
theorem wf (gs : List Nat) {p : Prop} (h : Fz' gs → p) : p:=h ⟨⟩
theorem Mc {e E : List (Nat × D)} {o O : List (Nat × Ac)} {n : Nat} {gs : List Nat} (_ : Fz' gs) (hw : (gs.all fun g=>match lkO o g with | some (_,p)=>!p.var | none=>false) = true) (hE : HJ e o n (Hj o gs) E) (hO : HK e o n (Hj o gs) O) : Has ⟨e,o,n⟩ E O:=MR gs hw hE hO
section
variable {Γ : As} {X Y : Type} {K : KR X} {KK : X → Au → S → Prop} {t t1 t2 : Option X} {m0 : Option Y} {kt : Y → Option X} {pp : Prop} [Decidable pp] {bb wt : Bool} {σ : S} {nv tt m m2 m3 : Nat} {d : Bool} {acc : List CO}
 {r : List Av} {dst : Option Nat} {g : Option (Nat × Bool)} {af : List Nat} {op : DOp} {x y z : Arg} {xs : List Arg} {bo : BinOp} {uo : UnOp} {k : IntKind} {sl : Option (Nat × Nat)} {dd : D} {ds : List D} {ps : List (Nat × Arg)} {ps2 : List (Nat × Nat × Arg)} {lo hi : Option Arg} {c1 c2 : OH} {ex : Au} {ptr : List (Nat × (Nat × Nat))} {encR : Y → D} {encE : Y → List D} {r0 : AP} {rs : List AP} {tB : Option Y} {ι γ : Type} {E : ι → γ → List (Nat × D)} {O : ι → γ → List (Nat × Ac)} {j : ι → Option X}
theorem LO (h : TrO Γ (⟨dst,op,some (tt,wt),af⟩ :: r) nv σ d acc K t) : TrO Γ (⟨dst,op,some (tt,wt),af⟩ :: r) nv σ d acc K t:=h
theorem Dh (h : TrO Γ r nv σ d acc K (Option.bind m0 kt)) : TrO Γ r nv σ d acc K (Option.bind m0 kt):=h
theorem Cj (h : TrO Γ r nv σ d acc K (chk pp t)) : TrO Γ r nv σ d acc K (chk pp t):=h
theorem NG (h : TrO Γ r nv σ d acc K (bif bb then t1 else t2)) : TrO Γ r nv σ d acc K (bif bb then t1 else t2):=h
theorem MX (h : Tr Γ (.cond x c1 c2) KK σ t) : Tr Γ (.cond x c1 c2) KK σ t:=h
theorem Nc (h : TrX ex (Bs ptr .val [r0] encR encE) σ tB) : TrX ex (Bs ptr .val [r0] encR encE) σ tB:=h
theorem Kp (h : TrX ex (Bs ptr .ground [r0] encR encE) σ tB) : TrX ex (Bs ptr .ground [r0] encR encE) σ tB:=h
theorem Mr (h : TrX ex (Bs ptr .val rs encR encE) σ tB) : TrX ex (Bs ptr .val rs encR encE) σ tB:=h
theorem JF (h : TrX ex (Bs ptr .ground rs encR encE) σ tB) : TrX ex (Bs ptr .ground rs encR encE) σ tB:=h
theorem Na (h : TrX ex (Bs ptr (.row m m2) rs encR encE) σ tB) : TrX ex (Bs ptr (.row m m2) rs encR encE) σ tB:=h
theorem MZ (h : TrX ex (Bs ptr (.ptr m m2) rs encR encE) σ tB) : TrX ex (Bs ptr (.ptr m m2) rs encR encE) σ tB:=h
theorem Nb (h : TrX ex (Bs ptr (.tupPtr m m2 m3) rs encR encE) σ tB) : TrX ex (Bs ptr (.tupPtr m m2 m3) rs encR encE) σ tB:=h
theorem Ng (h : TrX (.exit m) (Gi m2 KK) σ t) : TrX (.exit m) (Gi m2 KK) σ t:=h
theorem Nh (h : TrX (.exit m) (Dl m2 E O j KK) σ t) : TrX (.exit m) (Dl m2 E O j KK) σ t:=h
theorem Kn (h : TrO Γ [] nv σ true acc K t) : TrO Γ [] nv σ true acc K t:=h
theorem MY (h : TrO Γ (⟨dst,.mv x,g,af⟩ :: r) nv σ d acc K t) : TrO Γ (⟨dst,.mv x,g,af⟩ :: r) nv σ d acc K t:=h
theorem Kl (h : TrO Γ (⟨dst,.fldA m x,g,af⟩ :: r) nv σ d acc K t) : TrO Γ (⟨dst,.fldA m x,g,af⟩ :: r) nv σ d acc K t:=h
theorem LQ (h : TrO Γ (⟨dst,.ld m false x,g,af⟩ :: r) nv σ d acc K t) : TrO Γ (⟨dst,.ld m false x,g,af⟩ :: r) nv σ d acc K t:=h
theorem LR (h : TrO Γ (⟨dst,.ld m true x,g,af⟩ :: r) nv σ d acc K t) : TrO Γ (⟨dst,.ld m true x,g,af⟩ :: r) nv σ d acc K t:=h
theorem LH (h : TrO Γ (⟨dst,.bin bo x y,g,af⟩ :: r) nv σ d acc K t) : TrO Γ (⟨dst,.bin bo x y,g,af⟩ :: r) nv σ d acc K t:=h
theorem LG (h : TrO Γ (⟨dst,.asg x sl,g,af⟩ :: r) nv σ d acc K t) : TrO Γ (⟨dst,.asg x sl,g,af⟩ :: r) nv σ d acc K t:=h
theorem Ko (h : TrO Γ (⟨dst,.pick x y z,g,af⟩ :: r) nv σ d acc K t) : TrO Γ (⟨dst,.pick x y z,g,af⟩ :: r) nv σ d acc K t:=h
theorem Kj (h : TrO Γ (⟨dst,.call x xs,g,af⟩ :: r) nv σ d acc K t) : TrO Γ (⟨dst,.call x xs,g,af⟩ :: r) nv σ d acc K t:=h
theorem LN (h : TrO Γ (⟨dst,.ext x m,g,af⟩ :: r) nv σ d acc K t) : TrO Γ (⟨dst,.ext x m,g,af⟩ :: r) nv σ d acc K t:=h
theorem LS (h : TrO Γ (⟨dst,.len bb x,g,af⟩ :: r) nv σ d acc K t) : TrO Γ (⟨dst,.len bb x,g,af⟩ :: r) nv σ d acc K t:=h
theorem LP (h : TrO Γ (⟨dst,.ixA m x y,g,af⟩ :: r) nv σ d acc K t) : TrO Γ (⟨dst,.ixA m x y,g,af⟩ :: r) nv σ d acc K t:=h
theorem Nf (h : TrO Γ (⟨dst,.un uo x,g,af⟩ :: r) nv σ d acc K t) : TrO Γ (⟨dst,.un uo x,g,af⟩ :: r) nv σ d acc K t:=h
theorem LJ (h : TrO Γ (⟨dst,.box x m m2,g,af⟩ :: r) nv σ d acc K t) : TrO Γ (⟨dst,.box x m m2,g,af⟩ :: r) nv σ d acc K t:=h
theorem LX (h : TrO Γ (⟨dst,.new dd m m2,g,af⟩ :: r) nv σ d acc K t) : TrO Γ (⟨dst,.new dd m m2,g,af⟩ :: r) nv σ d acc K t:=h
theorem Nd (h : TrO Γ (⟨dst,.st m x y,g,af⟩ :: r) nv σ d acc K t) : TrO Γ (⟨dst,.st m x y,g,af⟩ :: r) nv σ d acc K t:=h
theorem Ki (h : TrO Γ (⟨dst,.bldS m m2 dd m3 ps,g,af⟩ :: r) nv σ d acc K t) : TrO Γ (⟨dst,.bldS m m2 dd m3 ps,g,af⟩ :: r) nv σ d acc K t:=h
theorem LF (h : TrO Γ (⟨dst,.app m m2 m3 x y,g,af⟩ :: r) nv σ d acc K t) : TrO Γ (⟨dst,.app m m2 m3 x y,g,af⟩ :: r) nv σ d acc K t:=h
theorem LI (h : TrO Γ (⟨dst,.bld ds ps2,g,af⟩ :: r) nv σ d acc K t) : TrO Γ (⟨dst,.bld ds ps2,g,af⟩ :: r) nv σ d acc K t:=h
theorem LK (h : TrO Γ (⟨dst,.cvt k x,g,af⟩ :: r) nv σ d acc K t) : TrO Γ (⟨dst,.cvt k x,g,af⟩ :: r) nv σ d acc K t:=h
theorem LW (h : TrO Γ (⟨dst,.mkS m m2 m3 dd x y,g,af⟩ :: r) nv σ d acc K t) : TrO Γ (⟨dst,.mkS m m2 m3 dd x y,g,af⟩ :: r) nv σ d acc K t:=h
theorem IQ (h : TrO Γ (⟨dst,.nilck x,g,af⟩ :: r) nv σ d acc K t) : TrO Γ (⟨dst,.nilck x,g,af⟩ :: r) nv σ d acc K t:=h
theorem Kk (h : TrO Γ (⟨dst,.fld m m2 false x,g,af⟩ :: r) nv σ d acc K t) : TrO Γ (⟨dst,.fld m m2 false x,g,af⟩ :: r) nv σ d acc K t:=h
theorem Km (h : TrO Γ (⟨dst,.fld m m2 true x,g,af⟩ :: r) nv σ d acc K t) : TrO Γ (⟨dst,.fld m m2 true x,g,af⟩ :: r) nv σ d acc K t:=h
theorem LM (h : TrO Γ (⟨dst,.eqB bb x y,g,af⟩ :: r) nv σ d acc K t) : TrO Γ (⟨dst,.eqB bb x y,g,af⟩ :: r) nv σ d acc K t:=h
theorem LL (h : TrO Γ (⟨dst,.eqA m bb x y,g,af⟩ :: r) nv σ d acc K t) : TrO Γ (⟨dst,.eqA m bb x y,g,af⟩ :: r) nv σ d acc K t:=h
theorem LU (h : TrO Γ (⟨dst,.max xs,g,af⟩ :: r) nv σ d acc K t) : TrO Γ (⟨dst,.max xs,g,af⟩ :: r) nv σ d acc K t:=h
theorem LV (h : TrO Γ (⟨dst,.min xs,g,af⟩ :: r) nv σ d acc K t) : TrO Γ (⟨dst,.min xs,g,af⟩ :: r) nv σ d acc K t:=h
theorem LY (h : TrO Γ (⟨dst,.slc m x lo hi,g,af⟩ :: r) nv σ d acc K t) : TrO Γ (⟨dst,.slc m x lo hi,g,af⟩ :: r) nv σ d acc K t:=h
end
structure Hid (p : Prop) : Prop where
 h : p
theorem A (n : Nat) {p q : Prop} (hq : q) (f : Ct n → Hid q → p:=by
 intro c h
 repeat (
  replace c:=Ct.dec c
  first
  | ((with_reducible refine LO ?_); refine Js rfl ?_)
  | ((with_reducible refine MY ?_); refine KL rfl rfl ?_)
  | with_reducible refine Jr ?_
  | ((with_reducible refine Kl ?_); first | refine Is rfl rfl ?_ | refine GV rfl rfl ?_)
  | ((with_reducible refine LQ ?_); first | ((with_reducible refine Dh ?_); refine QU fun q hq=>FC rfl rfl rfl (CL hq) rfl ?_) | refine FC rfl rfl rfl rfl rfl ?_ | refine IG rfl rfl rfl ?_ | refine FC rfl rfl rfl (CL (by assumption)) rfl ?_)
  | ((with_reducible refine LH ?_); first | ((with_reducible refine Cj ?_); first | refine PN fun hq=>FF rfl rfl rfl rfl (by first | exact hq | exact ⟨rfl,hq⟩) ?_ | refine PN fun hq=>Dq rfl rfl rfl rfl hq ?_) | refine FF rfl rfl rfl rfl (by first | exact rfl | exact trivial | assumption | decide | exact ⟨rfl,by assumption⟩ | exact ⟨rfl,by decide⟩) ?_ | refine Dq rfl rfl rfl rfl trivial ?_)
  | with_reducible refine KQ ?_
  | with_reducible refine KO ?_
  | with_reducible refine Jt ?_
  | ((with_reducible refine LG ?_); first | refine Jh rfl rfl ?_ | ((with_reducible refine Cj ?_); refine PN fun hq=>FW rfl rfl rfl hq ?_) | refine Ho inferInstance rfl rfl ?_ | refine GU rfl rfl ?_ | refine FX (by first | rfl | simp) rfl rfl rfl ?_ | refine GS (by first | rfl | simp) rfl rfl rfl ?_ | refine Fp rfl rfl rfl ?_)
  | with_reducible refine En ?_
  | with_reducible refine Gd ?_
  | with_reducible refine FA ?_
  | with_reducible refine Iu ?_
  | with_reducible refine Jv ?_
  | with_reducible refine KP ?_
  | with_reducible refine Ju ?_
  | with_reducible refine Gb ?_
  | with_reducible refine Gc ?_
  | with_reducible refine Fx ?_
  | with_reducible refine Fu ?_
  | with_reducible refine Fy ?_
  | with_reducible refine EP ?_
  | with_reducible refine Fw ?_
  | ((with_reducible refine Ng ?_); refine Fv rfl ?_)
  | ((with_reducible refine Nh ?_); refine EO rfl ?_)
  | ((with_reducible refine MX ?_); first | refine FB rfl ?_ | refine ER rfl ?_)
  | ((with_reducible refine Ko ?_); first | refine EL rfl rfl rfl rfl ?_ | refine Em rfl rfl rfl rfl ?_)
  | ((with_reducible refine Kj ?_); first | ((with_reducible refine Dh ?_); first | (refine EE rfl rfl rfl rfl rfl ?_ ?_ (fun _=>rfl) fun _ _=>?_; (· simp); (· (repeat' first | exact ⟨rfl,(by first | rfl | (simp only [OV]; rfl) | (simp only [OW]; rfl) | (simp only [OV,OW]; rfl))⟩ | refine exP ?_ | refine exU ?_ | apply Exists.intro | (dsimp only; exact ⟨rfl,(by first | rfl | (simp only [OV]; rfl) | (simp only [OW]; rfl) | (simp only [OV,OW]; rfl))⟩)))) | (refine Gx rfl rfl rfl rfl rfl ?_ ?_ fun _ _=>?_; (· simp); (· (repeat' first | exact ⟨rfl,(by first | rfl | (simp only [OV]; rfl) | (simp only [OW]; rfl) | (simp only [OV,OW]; rfl))⟩ | refine exP ?_ | refine exU ?_ | apply Exists.intro | (dsimp only; exact ⟨rfl,(by first | rfl | (simp only [OV]; rfl) | (simp only [OW]; rfl) | (simp only [OV,OW]; rfl))⟩)))) | (refine Gw rfl rfl rfl rfl rfl ?_ ?_ (fun _=>rfl) fun _ _=>?_; (· simp); (· (repeat' first | exact ⟨rfl,(by first | rfl | (simp only [OV]; rfl) | (simp only [OW]; rfl) | (simp only [OV,OW]; rfl))⟩ | refine exP ?_ | refine exU ?_ | apply Exists.intro | (dsimp only; exact ⟨rfl,(by first | rfl | (simp only [OV]; rfl) | (simp only [OW]; rfl) | (simp only [OV,OW]; rfl))⟩)))) | (refine FG rfl rfl rfl rfl rfl ?_ ?_ fun _ _=>?_; (· simp); (· (repeat' first | exact ⟨rfl,(by first | rfl | (simp only [OV]; rfl) | (simp only [OW]; rfl) | (simp only [OV,OW]; rfl))⟩ | refine exP ?_ | refine exU ?_ | apply Exists.intro | (dsimp only; exact ⟨rfl,(by first | rfl | (simp only [OV]; rfl) | (simp only [OW]; rfl) | (simp only [OV,OW]; rfl))⟩)))) | (refine Gv rfl rfl rfl rfl rfl ?_ ?_ fun _ _=>?_; (· simp); (· (repeat' first | exact ⟨rfl,(by first | rfl | (simp only [OV]; rfl) | (simp only [OW]; rfl) | (simp only [OV,OW]; rfl))⟩ | refine exP ?_ | refine exU ?_ | apply Exists.intro | (dsimp only; exact ⟨rfl,(by first | rfl | (simp only [OV]; rfl) | (simp only [OW]; rfl) | (simp only [OV,OW]; rfl))⟩))))) | (refine EF rfl rfl rfl rfl rfl (by assumption) ?_ ?_ rfl ?_; (· simp); (· (repeat' first | exact ⟨rfl,(by first | rfl | (simp only [OV]; rfl) | (simp only [OW]; rfl) | (simp only [OV,OW]; rfl))⟩ | refine exP ?_ | refine exU ?_ | apply Exists.intro | (dsimp only; exact ⟨rfl,(by first | rfl | (simp only [OV]; rfl) | (simp only [OW]; rfl) | (simp only [OV,OW]; rfl))⟩)))) | (refine GA rfl rfl rfl rfl rfl (by assumption) ?_ ?_ ?_; (· simp); (· (repeat' first | exact ⟨rfl,(by first | rfl | (simp only [OV]; rfl) | (simp only [OW]; rfl) | (simp only [OV,OW]; rfl))⟩ | refine exP ?_ | refine exU ?_ | apply Exists.intro | (dsimp only; exact ⟨rfl,(by first | rfl | (simp only [OV]; rfl) | (simp only [OW]; rfl) | (simp only [OV,OW]; rfl))⟩)))) | (refine Gz rfl rfl rfl rfl rfl (by assumption) ?_ ?_ rfl ?_; (· simp); (· (repeat' first | exact ⟨rfl,(by first | rfl | (simp only [OV]; rfl) | (simp only [OW]; rfl) | (simp only [OV,OW]; rfl))⟩ | refine exP ?_ | refine exU ?_ | apply Exists.intro | (dsimp only; exact ⟨rfl,(by first | rfl | (simp only [OV]; rfl) | (simp only [OW]; rfl) | (simp only [OV,OW]; rfl))⟩)))) | (refine FH rfl rfl rfl rfl rfl (by assumption) ?_ ?_ ?_; (· simp); (· (repeat' first | exact ⟨rfl,(by first | rfl | (simp only [OV]; rfl) | (simp only [OW]; rfl) | (simp only [OV,OW]; rfl))⟩ | refine exP ?_ | refine exU ?_ | apply Exists.intro | (dsimp only; exact ⟨rfl,(by first | rfl | (simp only [OV]; rfl) | (simp only [OW]; rfl) | (simp only [OV,OW]; rfl))⟩)))) | (refine Gy rfl rfl rfl rfl rfl (by assumption) ?_ ?_ ?_; (· simp); (· (repeat' first | exact ⟨rfl,(by first | rfl | (simp only [OV]; rfl) | (simp only [OW]; rfl) | (simp only [OV,OW]; rfl))⟩ | refine exP ?_ | refine exU ?_ | apply Exists.intro | (dsimp only; exact ⟨rfl,(by first | rfl | (simp only [OV]; rfl) | (simp only [OW]; rfl) | (simp only [OV,OW]; rfl))⟩)))) | ((with_reducible refine Cj ?_); first | refine PN fun hq=>GW rfl rfl rfl rfl rfl (by first | rfl | simp) rfl hq rfl ?_ | refine PN fun hq=>It rfl rfl rfl rfl rfl (by first | rfl | simp) rfl hq rfl ?_ | refine PN fun hq=>Fs rfl rfl rfl rfl rfl (by first | rfl | simp) rfl hq (by exact OU _) rfl ?_))
  | ((with_reducible refine LN ?_); refine Jm rfl rfl rfl ?_)
  | ((with_reducible refine LS ?_); first | refine GX rfl rfl ?_ | refine FZ rfl rfl ?_ | refine FY rfl rfl ?_ | refine Ga rfl rfl ?_)
  | ((with_reducible refine LP ?_); first | ((with_reducible refine Dh ?_); refine QU fun q hq=>DD rfl rfl rfl hq rfl ?_) | ((with_reducible refine Cj ?_); refine PN fun hq=>AbD (by first | rfl | simp) rfl rfl rfl rfl hq ?_) | refine DD rfl rfl rfl (by assumption) rfl ?_)
  | ((with_reducible refine Nf ?_); refine KN rfl rfl rfl rfl trivial ?_)
  | ((with_reducible refine LJ ?_); refine Ji rfl rfl rfl rfl rfl ?_)
  | ((with_reducible refine LX ?_); refine Jq rfl ?_)
  | ((with_reducible refine Nd ?_); first | ((with_reducible refine Dh ?_); refine QU fun q hq=>Ue rfl rfl rfl rfl rfl rfl rfl (by simp) hq rfl rfl rfl rfl rfl ?_) | refine LB rfl rfl rfl rfl rfl rfl rfl rfl rfl ?_ | refine LC rfl rfl rfl rfl rfl rfl rfl rfl rfl (by repeat' first | exact EvL.nil rfl | apply EvL.cons rfl) ?_ | refine Ue rfl rfl rfl rfl rfl rfl rfl (by simp) (by assumption) rfl rfl rfl rfl rfl ?_)
  | ((with_reducible refine LR ?_); first | ((with_reducible refine Dh ?_); refine QU fun q hq=>FD rfl rfl rfl (CL hq) rfl (by repeat' first | exact EvL.nil rfl | apply EvL.cons rfl) ?_) | refine FD rfl rfl rfl rfl rfl (by repeat' first | exact EvL.nil rfl | apply EvL.cons rfl) ?_ | refine IH rfl rfl rfl (by repeat' first | exact EvL.nil rfl | apply EvL.cons rfl) ?_ | refine FD rfl rfl rfl (CL (by assumption)) rfl (by repeat' first | exact EvL.nil rfl | apply EvL.cons rfl) ?_)
  | ((with_reducible refine Ki ?_); refine ID inferInstance rfl rfl rfl (by simp) rfl rfl rfl ?_)
  | ((with_reducible refine LF ?_); ((with_reducible refine Cj ?_); refine PN fun hq=>Aey _ _ _ rfl rfl rfl rfl rfl rfl rfl (by first | (simp; done) | (simp; omega)) (by first | rfl | exact TH _ _ rfl | exact TH _ _ (by simp) | exact AcV _ _ _ | simp [List.map_take]) rfl rfl (by simp) (by first | rfl | exact Sz _ _ rfl | exact Sz _ _ (by simp)) (fun _=>rfl) rfl hq ?_))
  | ((with_reducible refine LI ?_); refine Lz rfl (by repeat' first | apply EvP.cons rfl | exact EvP.nil rfl) rfl (by repeat' first | exact EvL.nil rfl | apply EvL.cons rfl) ?_)
  | ((with_reducible refine LK ?_); refine Jj rfl rfl ?_)
  | ((with_reducible refine LW ?_); ((with_reducible refine Cj ?_); refine PN fun hq=>LA inferInstance rfl rfl rfl rfl hq rfl ?_))
  | ((with_reducible refine IQ ?_); refine HC rfl rfl rfl ?_)
  | ((with_reducible refine Kk ?_); refine JY rfl rfl rfl ?_)
  | ((with_reducible refine Km ?_); refine JZ rfl rfl rfl (by repeat' first | exact EvL.nil rfl | apply EvL.cons rfl) ?_)
  | ((with_reducible refine LM ?_); first | refine IE rfl rfl rfl ?_ | refine IF rfl rfl rfl ?_)
  | ((with_reducible refine LL ?_); refine Jk rfl rfl rfl rfl (by repeat' first | exact trivial | refine ⟨rfl,?_⟩) rfl ?_)
  | ((with_reducible refine LU ?_); refine Jo rfl rfl rfl ?_)
  | ((with_reducible refine LV ?_); refine Jp rfl rfl rfl ?_)
  | ((with_reducible refine LY ?_); ((with_reducible refine Cj ?_); first | refine PN fun hq=>EM rfl rfl rfl (fun _=>rfl) rfl hq ?_ | refine PN fun hq=>EN rfl rfl rfl (fun _=>rfl) rfl hq ?_ | refine PN fun hq=>AbB (by first | rfl | simp) rfl rfl rfl rfl rfl hq ?_ | refine PN fun hq=>Zf (by first | rfl | simp) rfl rfl rfl rfl rfl hq ?_ | refine PN fun hq=>GY rfl rfl rfl rfl (fun _=>rfl) rfl hq ?_))
  | ((with_reducible refine Kn ?_); refine Ft (by kernel_rfl) ?_)
  )
 exact h.h) : p:=f ⟨⟩ ⟨hq⟩
theorem B {p : Prop} (h : p:=by
 repeat' first
 | ((with_reducible refine LO ?_); first | ((with_reducible refine NG ?_); refine Abk rfl ?_ ?_) | refine Js rfl ?_)
 | ((with_reducible refine MY ?_); refine KL rfl rfl ?_)
 | with_reducible refine Jr ?_
 | ((with_reducible refine Kl ?_); first | refine Is rfl rfl ?_ | refine GV rfl rfl ?_)
 | ((with_reducible refine LQ ?_); first | ((with_reducible refine Dh ?_); refine QU fun q hq=>FC rfl rfl rfl (CL hq) rfl ?_) | refine FC rfl rfl rfl rfl rfl ?_ | refine IG rfl rfl rfl ?_ | refine FC rfl rfl rfl (CL (by assumption)) rfl ?_)
 | ((with_reducible refine LH ?_); first | ((with_reducible refine Cj ?_); first | refine PN fun hq=>FF rfl rfl rfl rfl (by first | exact hq | exact ⟨rfl,hq⟩) ?_ | refine PN fun hq=>Dq rfl rfl rfl rfl hq ?_) | refine FF rfl rfl rfl rfl (by first | exact rfl | exact trivial | assumption | decide | exact ⟨rfl,by assumption⟩ | exact ⟨rfl,by decide⟩) ?_ | refine Dq rfl rfl rfl rfl trivial ?_)
 | with_reducible refine KQ ?_
 | with_reducible refine KO ?_
 | with_reducible refine Jt ?_
 | ((with_reducible refine LG ?_); first | refine Jh rfl rfl ?_ | ((with_reducible refine Cj ?_); refine PN fun hq=>FW rfl rfl rfl hq ?_) | refine Ho inferInstance rfl rfl ?_ | refine GU rfl rfl ?_ | refine FX (by first | rfl | simp) rfl rfl rfl ?_ | refine GS (by first | rfl | simp) rfl rfl rfl ?_ | refine Fp rfl rfl rfl ?_)
 | with_reducible refine En ?_
 | with_reducible refine Gd ?_
 | with_reducible refine FA ?_
 | with_reducible refine Iu ?_
 | with_reducible refine Jv ?_
 | with_reducible refine KP ?_
 | with_reducible refine Ju ?_
 | with_reducible refine Gb ?_
 | with_reducible refine Gc ?_
 | with_reducible refine Fx ?_
 | with_reducible refine Fu ?_
 | with_reducible refine Fy ?_
 | with_reducible refine EP ?_
 | with_reducible refine Fw ?_
 | ((with_reducible refine Ng ?_); refine Fv rfl ?_)
 | ((with_reducible refine Nh ?_); refine EO rfl ?_)
 | ((with_reducible refine MX ?_); first | refine Acy rfl ?_ ?_ | refine FB rfl ?_ | refine ER rfl ?_)
 | ((with_reducible refine Ko ?_); first | refine EL rfl rfl rfl rfl ?_ | refine Em rfl rfl rfl rfl ?_)
 | ((with_reducible refine Kj ?_); first | ((with_reducible refine Dh ?_); first | (refine EE rfl rfl rfl rfl rfl ?_ ?_ (fun _=>rfl) fun _ _=>?_; (· simp); (· (repeat' first | exact ⟨rfl,(by first | rfl | (simp only [OV]; rfl) | (simp only [OW]; rfl) | (simp only [OV,OW]; rfl))⟩ | refine exP ?_ | refine exU ?_ | apply Exists.intro | (dsimp only; exact ⟨rfl,(by first | rfl | (simp only [OV]; rfl) | (simp only [OW]; rfl) | (simp only [OV,OW]; rfl))⟩)))) | (refine Gx rfl rfl rfl rfl rfl ?_ ?_ fun _ _=>?_; (· simp); (· (repeat' first | exact ⟨rfl,(by first | rfl | (simp only [OV]; rfl) | (simp only [OW]; rfl) | (simp only [OV,OW]; rfl))⟩ | refine exP ?_ | refine exU ?_ | apply Exists.intro | (dsimp only; exact ⟨rfl,(by first | rfl | (simp only [OV]; rfl) | (simp only [OW]; rfl) | (simp only [OV,OW]; rfl))⟩)))) | (refine Gw rfl rfl rfl rfl rfl ?_ ?_ (fun _=>rfl) fun _ _=>?_; (· simp); (· (repeat' first | exact ⟨rfl,(by first | rfl | (simp only [OV]; rfl) | (simp only [OW]; rfl) | (simp only [OV,OW]; rfl))⟩ | refine exP ?_ | refine exU ?_ | apply Exists.intro | (dsimp only; exact ⟨rfl,(by first | rfl | (simp only [OV]; rfl) | (simp only [OW]; rfl) | (simp only [OV,OW]; rfl))⟩)))) | (refine FG rfl rfl rfl rfl rfl ?_ ?_ fun _ _=>?_; (· simp); (· (repeat' first | exact ⟨rfl,(by first | rfl | (simp only [OV]; rfl) | (simp only [OW]; rfl) | (simp only [OV,OW]; rfl))⟩ | refine exP ?_ | refine exU ?_ | apply Exists.intro | (dsimp only; exact ⟨rfl,(by first | rfl | (simp only [OV]; rfl) | (simp only [OW]; rfl) | (simp only [OV,OW]; rfl))⟩)))) | (refine Gv rfl rfl rfl rfl rfl ?_ ?_ fun _ _=>?_; (· simp); (· (repeat' first | exact ⟨rfl,(by first | rfl | (simp only [OV]; rfl) | (simp only [OW]; rfl) | (simp only [OV,OW]; rfl))⟩ | refine exP ?_ | refine exU ?_ | apply Exists.intro | (dsimp only; exact ⟨rfl,(by first | rfl | (simp only [OV]; rfl) | (simp only [OW]; rfl) | (simp only [OV,OW]; rfl))⟩))))) | (refine EF rfl rfl rfl rfl rfl (by assumption) ?_ ?_ rfl ?_; (· simp); (· (repeat' first | exact ⟨rfl,(by first | rfl | (simp only [OV]; rfl) | (simp only [OW]; rfl) | (simp only [OV,OW]; rfl))⟩ | refine exP ?_ | refine exU ?_ | apply Exists.intro | (dsimp only; exact ⟨rfl,(by first | rfl | (simp only [OV]; rfl) | (simp only [OW]; rfl) | (simp only [OV,OW]; rfl))⟩)))) | (refine GA rfl rfl rfl rfl rfl (by assumption) ?_ ?_ ?_; (· simp); (· (repeat' first | exact ⟨rfl,(by first | rfl | (simp only [OV]; rfl) | (simp only [OW]; rfl) | (simp only [OV,OW]; rfl))⟩ | refine exP ?_ | refine exU ?_ | apply Exists.intro | (dsimp only; exact ⟨rfl,(by first | rfl | (simp only [OV]; rfl) | (simp only [OW]; rfl) | (simp only [OV,OW]; rfl))⟩)))) | (refine Gz rfl rfl rfl rfl rfl (by assumption) ?_ ?_ rfl ?_; (· simp); (· (repeat' first | exact ⟨rfl,(by first | rfl | (simp only [OV]; rfl) | (simp only [OW]; rfl) | (simp only [OV,OW]; rfl))⟩ | refine exP ?_ | refine exU ?_ | apply Exists.intro | (dsimp only; exact ⟨rfl,(by first | rfl | (simp only [OV]; rfl) | (simp only [OW]; rfl) | (simp only [OV,OW]; rfl))⟩)))) | (refine FH rfl rfl rfl rfl rfl (by assumption) ?_ ?_ ?_; (· simp); (· (repeat' first | exact ⟨rfl,(by first | rfl | (simp only [OV]; rfl) | (simp only [OW]; rfl) | (simp only [OV,OW]; rfl))⟩ | refine exP ?_ | refine exU ?_ | apply Exists.intro | (dsimp only; exact ⟨rfl,(by first | rfl | (simp only [OV]; rfl) | (simp only [OW]; rfl) | (simp only [OV,OW]; rfl))⟩)))) | (refine Gy rfl rfl rfl rfl rfl (by assumption) ?_ ?_ ?_; (· simp); (· (repeat' first | exact ⟨rfl,(by first | rfl | (simp only [OV]; rfl) | (simp only [OW]; rfl) | (simp only [OV,OW]; rfl))⟩ | refine exP ?_ | refine exU ?_ | apply Exists.intro | (dsimp only; exact ⟨rfl,(by first | rfl | (simp only [OV]; rfl) | (simp only [OW]; rfl) | (simp only [OV,OW]; rfl))⟩)))) | ((with_reducible refine Cj ?_); first | refine PN fun hq=>GW rfl rfl rfl rfl rfl (by first | rfl | simp) rfl hq rfl ?_ | refine PN fun hq=>It rfl rfl rfl rfl rfl (by first | rfl | simp) rfl hq rfl ?_ | refine PN fun hq=>Fs rfl rfl rfl rfl rfl (by first | rfl | simp) rfl hq (by exact OU _) rfl ?_))
 | ((with_reducible refine LN ?_); refine Jm rfl rfl rfl ?_)
 | ((with_reducible refine LS ?_); first | refine GX rfl rfl ?_ | refine FZ rfl rfl ?_ | refine FY rfl rfl ?_ | refine Ga rfl rfl ?_)
 | ((with_reducible refine LP ?_); first | ((with_reducible refine Dh ?_); refine QU fun q hq=>DD rfl rfl rfl hq rfl ?_) | ((with_reducible refine Cj ?_); refine PN fun hq=>AbD (by first | rfl | simp) rfl rfl rfl rfl hq ?_) | refine DD rfl rfl rfl (by assumption) rfl ?_)
 | ((with_reducible refine Nf ?_); refine KN rfl rfl rfl rfl trivial ?_)
 | ((with_reducible refine LJ ?_); refine Ji rfl rfl rfl rfl rfl ?_)
 | ((with_reducible refine LX ?_); refine Jq rfl ?_)
 | ((with_reducible refine Nd ?_); first | ((with_reducible refine Dh ?_); refine QU fun q hq=>Ue rfl rfl rfl rfl rfl rfl rfl (by simp) hq rfl rfl rfl rfl rfl ?_) | refine LB rfl rfl rfl rfl rfl rfl rfl rfl rfl ?_ | refine LC rfl rfl rfl rfl rfl rfl rfl rfl rfl (by repeat' first | exact EvL.nil rfl | apply EvL.cons rfl) ?_ | refine Ue rfl rfl rfl rfl rfl rfl rfl (by simp) (by assumption) rfl rfl rfl rfl rfl ?_)
 | ((with_reducible refine LR ?_); first | ((with_reducible refine Dh ?_); refine QU fun q hq=>FD rfl rfl rfl (CL hq) rfl (by repeat' first | exact EvL.nil rfl | apply EvL.cons rfl) ?_) | refine FD rfl rfl rfl rfl rfl (by repeat' first | exact EvL.nil rfl | apply EvL.cons rfl) ?_ | refine IH rfl rfl rfl (by repeat' first | exact EvL.nil rfl | apply EvL.cons rfl) ?_ | refine FD rfl rfl rfl (CL (by assumption)) rfl (by repeat' first | exact EvL.nil rfl | apply EvL.cons rfl) ?_)
 | ((with_reducible refine Ki ?_); refine ID inferInstance rfl rfl rfl (by simp) rfl rfl rfl ?_)
 | ((with_reducible refine LF ?_); ((with_reducible refine Cj ?_); refine PN fun hq=>Aey _ _ _ rfl rfl rfl rfl rfl rfl rfl (by first | (simp; done) | (simp; omega)) (by first | rfl | exact TH _ _ rfl | exact TH _ _ (by simp) | exact AcV _ _ _ | simp [List.map_take]) rfl rfl (by simp) (by first | rfl | exact Sz _ _ rfl | exact Sz _ _ (by simp)) (fun _=>rfl) rfl hq ?_))
 | ((with_reducible refine LI ?_); refine Lz rfl (by repeat' first | apply EvP.cons rfl | exact EvP.nil rfl) rfl (by repeat' first | exact EvL.nil rfl | apply EvL.cons rfl) ?_)
 | ((with_reducible refine LK ?_); refine Jj rfl rfl ?_)
 | ((with_reducible refine LW ?_); ((with_reducible refine Cj ?_); refine PN fun hq=>LA inferInstance rfl rfl rfl rfl hq rfl ?_))
 | ((with_reducible refine IQ ?_); refine HC rfl rfl rfl ?_)
 | ((with_reducible refine Kk ?_); refine JY rfl rfl rfl ?_)
 | ((with_reducible refine Km ?_); refine JZ rfl rfl rfl (by repeat' first | exact EvL.nil rfl | apply EvL.cons rfl) ?_)
 | ((with_reducible refine LM ?_); first | refine IE rfl rfl rfl ?_ | refine IF rfl rfl rfl ?_)
 | ((with_reducible refine LL ?_); refine Jk rfl rfl rfl rfl (by repeat' first | exact trivial | refine ⟨rfl,?_⟩) rfl ?_)
 | ((with_reducible refine LU ?_); refine Jo rfl rfl rfl ?_)
 | ((with_reducible refine LV ?_); refine Jp rfl rfl rfl ?_)
 | ((with_reducible refine LY ?_); ((with_reducible refine Cj ?_); first | refine PN fun hq=>EM rfl rfl rfl (fun _=>rfl) rfl hq ?_ | refine PN fun hq=>EN rfl rfl rfl (fun _=>rfl) rfl hq ?_ | refine PN fun hq=>AbB (by first | rfl | simp) rfl rfl rfl rfl rfl hq ?_ | refine PN fun hq=>Zf (by first | rfl | simp) rfl rfl rfl rfl rfl hq ?_ | refine PN fun hq=>GY rfl rfl rfl rfl (fun _=>rfl) rfl hq ?_))
 | ((with_reducible refine Kn ?_); refine Ft (by kernel_rfl) ?_)
 | ((with_reducible refine Nc ?_); exact UR rfl (by first | (simp; done) | (simp; omega) | rfl | (simp [PG,PE]; done)) (by first | rfl | (simp only [OV]; rfl) | (simp only [OW]; rfl) | (simp only [OV,OW]; rfl)) rfl (by first | (simp; done) | (simp; omega) | rfl | (simp [PG,PE]; done)) (by first | rfl | (simp only [OV]; rfl) | (simp only [OW]; rfl) | (simp only [OV,OW]; rfl)))
 | ((with_reducible refine Mr ?_); exact Qu rfl (by first | (simp; done) | (simp; omega) | rfl | (simp [PG,PE]; done)) (by first | rfl | (simp only [OV]; rfl) | (simp only [OW]; rfl) | (simp only [OV,OW]; rfl)) rfl (by first | (simp; done) | (simp; omega) | rfl | (simp [PG,PE]; done)) (by first | rfl | (simp only [OV]; rfl) | (simp only [OW]; rfl) | (simp only [OV,OW]; rfl)) (by decide))
 | ((with_reducible refine Kp ?_); exact JP rfl (by first | (simp; done) | (simp; omega) | rfl | (simp [PG,PE]; done)) (by first | rfl | (simp only [OV]; rfl) | (simp only [OW]; rfl) | (simp only [OV,OW]; rfl)) rfl (by first | (simp; done) | (simp; omega) | rfl | (simp [PG,PE]; done)) (by first | rfl | (simp only [OV]; rfl) | (simp only [OW]; rfl) | (simp only [OV,OW]; rfl)))
 | ((with_reducible refine JF ?_); exact Hn rfl (by first | (simp; done) | (simp; omega) | rfl | (simp [PG,PE]; done)) (by first | rfl | (simp only [OV]; rfl) | (simp only [OW]; rfl) | (simp only [OV,OW]; rfl)) rfl (by first | (simp; done) | (simp; omega) | rfl | (simp [PG,PE]; done)) (by first | rfl | (simp only [OV]; rfl) | (simp only [OW]; rfl) | (simp only [OV,OW]; rfl)) (by decide))
 | ((with_reducible refine Na ?_); exact MC rfl (by first | (simp; done) | (simp; omega) | rfl | (simp [PG,PE]; done)) (by first | rfl | (simp only [OV]; rfl) | (simp only [OW]; rfl) | (simp only [OV,OW]; rfl)) rfl (by first | (simp; done) | (simp; omega) | rfl | (simp [PG,PE]; done)) rfl (by first | (simp; done) | (simp; omega) | rfl | (simp [PG,PE]; done)) (congrArg D.sl (Sz _ _ (by first | rfl | simp))) rfl)
 | ((with_reducible refine MZ ?_); exact MB rfl (by first | (simp; done) | (simp; omega) | rfl | (simp [PG,PE]; done)) rfl (by first | (simp; done) | (simp; omega) | rfl | (simp [PG,PE]; done)) (by first | rfl | (simp only [OV]; rfl) | (simp only [OW]; rfl) | (simp only [OV,OW]; rfl)) rfl (by first | (simp; done) | (simp; omega) | rfl | (simp [PG,PE]; done)) (by first | rfl | (simp only [OV]; rfl) | (simp only [OW]; rfl) | (simp only [OV,OW]; rfl)))
 | ((with_reducible refine Nb ?_); exact JQ (by decide) (by decide) rfl (by first | (simp; done) | (simp; omega) | rfl | (simp [PG,PE]; done)) rfl (by first | (simp; done) | (simp; omega) | rfl | (simp [PG,PE]; done)) rfl (by first | (simp; done) | (simp; omega) | rfl | (simp [PG,PE]; done)) rfl (by first | (simp; done) | (simp; omega) | rfl | (simp [PG,PE]; done)) (by first | rfl | (simp only [OV]; rfl) | (simp only [OW]; rfl) | (simp only [OV,OW]; rfl)) rfl (by first | (simp; done) | (simp; omega) | rfl | (simp [PG,PE]; done)) rfl)
 | with_reducible refine ND ?_
 | with_reducible refine HE ?_
 | with_reducible refine Ix ?_
 | with_reducible refine MS ?_
 | refine Mc (by assumption) rfl ?_ ?_
 | refine Aah ?_ ?_
 | exact trivial
 | refine ⟨rfl,?_⟩
 | refine ⟨My rfl (by simp),?_⟩
 | refine ⟨PF rfl,?_⟩
 | refine ⟨Aad (XS _ rfl),?_⟩
 | refine ⟨Aad (XT rfl (by first | rfl | simp) rfl (by first | exact .head _ | exact .tail _ (.head _) | exact .tail _ (.tail _ (.head _)) | exact .tail _ (.tail _ (.tail _ (.head _))))),?_⟩
 | refine ⟨Aad (EZ rfl (by omega) rfl (by first | exact .head _ | exact .tail _ (.head _) | exact .tail _ (.tail _ (.head _)) | exact .tail _ (.tail _ (.tail _ (.head _))))),?_⟩
 | refine ⟨ZT rfl (by repeat' first | exact trivial | refine ⟨UY rfl,?_⟩ | refine ⟨XS _ rfl,?_⟩ | refine ⟨XT rfl (by first | rfl | simp) rfl (by first | exact .head _ | exact .tail _ (.head _) | exact .tail _ (.tail _ (.head _)) | exact .tail _ (.tail _ (.tail _ (.head _)))),?_⟩ | refine ⟨EZ rfl (by omega) rfl (by first | exact .head _ | exact .tail _ (.head _) | exact .tail _ (.tail _ (.head _)) | exact .tail _ (.tail _ (.tail _ (.head _)))),?_⟩),?_⟩
 | refine ⟨.inl rfl,?_⟩
 | refine ⟨.inr ⟨_,_,_,_,rfl,rfl,rfl,rfl,ZT rfl (by repeat' first | exact trivial | refine ⟨UY rfl,?_⟩ | refine ⟨XS _ rfl,?_⟩ | refine ⟨XT rfl (by first | rfl | simp) rfl (by first | exact .head _ | exact .tail _ (.head _) | exact .tail _ (.tail _ (.head _)) | exact .tail _ (.tail _ (.tail _ (.head _)))),?_⟩ | refine ⟨EZ rfl (by omega) rfl (by first | exact .head _ | exact .tail _ (.head _) | exact .tail _ (.tail _ (.head _)) | exact .tail _ (.tail _ (.tail _ (.head _)))),?_⟩)⟩,?_⟩
 | refine ⟨.inr ⟨_,_,_,_,rfl,rfl,rfl,rfl,Aad (XS _ rfl)⟩,?_⟩
 | refine ⟨.inr ⟨_,_,_,_,rfl,rfl,rfl,rfl,Aad (XT rfl (by first | rfl | simp) rfl (by first | exact .head _ | exact .tail _ (.head _) | exact .tail _ (.tail _ (.head _)) | exact .tail _ (.tail _ (.tail _ (.head _)))))⟩,?_⟩
 | refine exP ?_
 | refine exU ?_
 | apply Exists.intro
 ) : p:=h
end Go.Dw
namespace Go.Dw
inductive FrL : List D → List D → Prop
 | nil : FrL [] []
 | same (c : D) {l l' : List D} (h : FrL l l') : FrL (c :: l) (c :: l')
 | row {s ty : Nat} {es l l' : List D} (hp : ∀ q ∈ es,AA q = true) (h : FrL l l') : FrL (.row s ty es :: l) (.sl es :: l')
theorem FrL.frr : ∀ {cs cs' : List D},FrL cs cs' → cs'.length = cs.length ∧ ∀ (j : Nat) c c',cs[j]? = some c → cs'[j]? = some c' → c' = c ∨ ∃ s ty es,c = .row s ty es ∧ (∀ q ∈ es,AA q = true) ∧ c' = .sl es
 | _,_,.nil=>⟨rfl,fun j c c' h=>by simp at h⟩
 | _,_,.same c h=>by
  obtain ⟨h1,h2⟩:=h.frr
  refine ⟨by simp [h1],fun j a b ha hb=>?_⟩
  rcases j with _ | j
  ·simp at ha hb; subst ha; subst hb; exact .inl rfl
  ·exact h2 j a b (by simpa using ha) (by simpa using hb)
 | _,_,.row (s:=s) (ty:=ty) (es:=es) hp h=>by
  obtain ⟨h1,h2⟩:=h.frr
  refine ⟨by simp [h1],fun j a b ha hb=>?_⟩
  rcases j with _ | j
  ·simp at ha hb; subst ha; subst hb; exact .inr ⟨s,ty,es,rfl,hp,rfl⟩
  ·exact h2 j a b (by simpa using ha) (by simpa using hb)
theorem Gf {R : D → D → Prop} {z z' : D} (h : R z z') : Each R [z] [z']:=by
 refine ⟨rfl,fun i e e' h1 h2=>?_⟩
 rcases i with _ | i
 ·simp at h1 h2; subst h1; subst h2; exact h
 ·simp at h1
theorem Ok {cs cs' : List D} (h : FrL cs cs') : Each Frr [.agg cs] [.agg cs']:=Gf h.frr
theorem Ol {s ty : Nat} {es : List D} (hp : ∀ q ∈ es,AA q = true) : Each Frr [.row s ty es] [.sl es]:=Gf (FrL.row (s:=s) (ty:=ty) hp .nil).frr
inductive EU : List D → List D → Prop
 | nil : EU [] []
 | same {c : D} (hc : plain c = true) {l l' : List D} (h : EU l l') : EU (c :: l) (c :: l')
 | row {s ty : Nat} {l l' : List D} (hs : 0 < s) (h : EU l l') : EU (.nils :: l) (.row s ty [] :: l')
theorem EU.enr : ∀ {cs cs' : List D},EU cs cs' → cs'.length = cs.length ∧ ∀ (j : Nat) c c',cs[j]? = some c → cs'[j]? = some c' → (c' = c ∧ (false = true ∨ plain c = true)) ∨ (c = .nils ∧ ∃ s ty,0 < s ∧ c' = .row s ty [])
 | _,_,.nil=>⟨rfl,fun j c c' h=>by simp at h⟩
 | _,_,.same hc h=>by
  obtain ⟨h1,h2⟩:=h.enr
  refine ⟨by simp [h1],fun j a b ha hb=>?_⟩
  rcases j with _ | j
  ·simp at ha hb; subst ha; subst hb; exact .inl ⟨rfl,.inr hc⟩
  ·exact h2 j a b (by simpa using ha) (by simpa using hb)
 | _,_,.row (s:=s) (ty:=ty) hs h=>by
  obtain ⟨h1,h2⟩:=h.enr
  refine ⟨by simp [h1],fun j a b ha hb=>?_⟩
  rcases j with _ | j
  ·simp at ha hb; subst ha; subst hb; exact .inr ⟨rfl,s,ty,hs,rfl⟩
  ·exact h2 j a b (by simpa using ha) (by simpa using hb)
theorem Oi {cs cs' : List D} (h : EU cs cs') : Each (Enr false) [.agg cs] [.agg cs']:=Gf h.enr
section
variable {Γ : As} {X : Type} {K : KR X} {t : Option X} {e : List (Nat × D)} {o : List (Nat × Ac)} {n nv : Nat} {d : Bool} {acc : List CO}
 {r : List Av} {g : Option (Nat × Bool)} {af : List Nat} {α : Type} {x y : Arg} {s ty gi vi off : Nat} {z z' : D} {l : List α} {en : α → D}
theorem MM {g' v' q s' ty' : Nat} (hg : gOn e g = true) (hx : Aa e x = some (.optr gi vi 0 off)) (hy : Aa e y = some (.osl g' v' 0 q)) (hq : q = l.length) (ho : lkO o gi = some (vi,⟨false,true,s,ty,[z]⟩)) (ho' : lkO o g' = some (v',⟨false,false,s',ty',l.map en⟩))
  (hp : ∀ q,AA (en q) = true) (hb : Nat.ble (off + 1) (cells z).length = true) (hz : PH z off [.row s' ty' (l.map en)] = z')
  (h : TrO Γ r (nv + 1) ⟨e,(gi,some (vi,⟨false,true,s,ty,[z']⟩)) :: (g',none) :: o,n⟩ d (acc ++ [(gK g ++ (rdK x ++ (rdK y ++ [.o gi,.o g'])),[.o gi,.o g'],af)]) K t) (hrg : Ab gi = true:=by rfl) (hne : Nat.beq g' gi = false:=by rfl) :
  TrO Γ (⟨none,.st 1 x y,g,af⟩ :: r) nv ⟨e,o,n⟩ d acc K t:=by
 subst hq
 have hne' : g' ≠ gi:=fun h=>by subst h; simp at hne
 have hpl:=Kz (l:=l) (en:=en) hp
 refine Xl (i:=0) (v:=.osl g' v' 0 l.length) (cs':=[.row s' ty' (l.map en)]) (wo:=[(g',none)]) (rk:=[.o g']) (z:=z) (es':=[z'])
  (c:=(v' = v' ∧ false = false ∧ l.length ≤ (l.map en).length ∧ ∀ e ∈ l.map en,AA e = true) ∧ True ∧ ([] : List (Nat × Ac)).all (fun x=>([(g',none)] : List (Nat × Ac)).all fun y=>x.1 != y.1) = true)
  hg hx hy rfl ho ?_ ?_ ⟨⟨rfl,rfl,by simp,hpl⟩,trivial,rfl⟩ rfl rfl rfl hb (by simp [hz]) (by simp [hne']) (by simpa using h) hrg
 ·simp only [cells,AF,Bi,R.run_bind,R.AW,Ax,ho',R.AG,R.run_pure,Bool.false_eq_true,if_false]
  simp
 ·simp only [cells,AF,Bi,R.AK,R.BU,R.AW,Ax,ho',R.AG,R.Ce,R.BD,Bool.false_eq_true,if_false]
  simp
end
open Classical in
noncomputable def Hf {B : Type} (m : Nat → Option B) : Option B:=if h : ∃ n,(m n).isSome = true then m h.choose else none
theorem Kf {B : Type} {m : Nat → Option B} {b : B} (h : Hf m = some b) : ∃ n,m n = some b:=by
 unfold Hf at h
 split at h
 ·exact ⟨_,h⟩
 ·cases h
theorem Oj {B : Type} {m : Nat → Option B} {P : B → Prop} {n : Nat} {r : B} (h : m n = some r) (hP : ∀ n r,m n = some r → P r) : ∃ r,Hf m = some r ∧ P r:=by
 have he : ∃ n,(m n).isSome = true:=⟨n,by rw [h]; rfl⟩
 obtain ⟨r',hr'⟩:=Option.isSome_iff_exists.1 he.choose_spec
 exact ⟨r',by unfold Hf; rw [dif_pos he]; exact hr',hP _ _ hr'⟩
theorem Od {P : Program} {k : Nat} {A B : Type} {ptr : List (Nat × (Nat × Nat))} {kind : Kind} {enc : A → List D} {dec : List D → A} {f : Nat → A → Option B} {encR : B → D} {encE : B → List D} (hde : ∀ a,dec (enc a) = a)
  (h : ∀ n,Pd P k (Pf ptr kind enc dec (f n) encR encE)) (hni : BF kind = none:=by rfl) (hno : Dn kind = none:=by rfl) : Pd P k (Pf ptr kind enc dec (fun a=>Hf fun n=>f n a) encR encE):=by
 intro F0 hG
 refine ⟨(h 0 F0 hG).1,fun q hq=>?_,fun _ _ w F ds vs M h1 h2 h3 h4 hp=>?_,fun φ hφ=>?_⟩
 ·have hq : BF kind = some q:=hq
  rw [hni] at hq; cases hq
 ·obtain ⟨a,b,rfl,hb⟩:=hp
  have hb' : (fun a=>Hf fun n=>f n a) a = some b:=hb
  obtain ⟨n,hn⟩:=Kf hb
  refine ((h n F0 hG).2.2.1 hni hno w F (enc a) vs M h1 h2 h3 h4 ⟨a,b,rfl,hn⟩).mono fun e w' hq=>?_
  unfold CH at hq ⊢
  rw [Bp hde hn,Ca hde hn] at hq
  rw [Bp hde hb',Ca hde hb']
  exact hq
 ·have hφ : Dn kind = some φ:=hφ
  rw [hno] at hφ; cases hφ
end Go.Dw
