/-
  THE LAYER: symbolic semantics of compiled code, and programs on typed data.
-/
import Derived.Test.YtbnconokpjdnjaaDoorDb
import Derived.KernelRfl
import Derived.ProofKit
import Derived.OpenShut
import Derived.Deep.Strs
namespace Go.Dw
section
variable {N : Nat} {w0 : World} {F0 : Fz} {M : Nat -> Prop} {B0 : Bt} {P : Program}
theorem Lt {σ : S} {d : D} (hd : ((AN d).run σ).1) : cells d = [d] /\ cells ((AN d).run σ).2.1 = [((AN d).run σ).2.1]:=by
 cases d <;> first | exact hd.elim | exact ⟨rfl,rfl⟩ | skip
 refine ⟨rfl,?_⟩
 simp only [AN,R.run] at hd ⊢
 split <;> simp_all <;> rfl
theorem EJ.get {σ : S} {ws : List (Nat × Ae)} : ∀ {cs cs' : List D},EJ σ ws cs cs' -> cs'.length = cs.length /\ ∀ (j : Nat) c',cs'[j]? = some c' -> ∃ c,cs[j]? = some c /\ DC σ ws c c'
 | [],[],_=>⟨rfl,λj c' h=>by simp at h⟩
 | c :: r,c' :: r',h=>by
  obtain ⟨h1,h2⟩:=h
  obtain ⟨l,g⟩:=EJ.get h2
  refine ⟨by simp [l],λj x hx=>?_⟩
  cases j with
  | zero=>simp at hx; subst hx; exact ⟨c,by simp,h1⟩
  | succ j=>simp at hx; simpa using g j x hx
 | [],_ :: _,h=>h.elim
 | _ :: _,[],h=>h.elim
theorem Conv.cells {σ : S} {ws : List (Nat × Ae)} {z z' : D} (h : Conv σ ws z z') : (Dw.cells z').length = (Dw.cells z).length /\ ∀ (j : Nat) c',(Dw.cells z')[j]? = some c' -> ∃ c,(Dw.cells z)[j]? = some c /\ DC σ ws c c':=by
 rcases h with (rfl | ⟨h1,rfl,h3⟩) | ⟨cs,cs',rfl,rfl,h⟩
 ·exact ⟨rfl,λj c' hc=>⟨c',hc,.inl rfl⟩⟩
 ·obtain ⟨e1,e2⟩:=Lt h1
  rw [e1,e2]
  refine ⟨rfl,λj c' hc=>?_⟩
  rcases j with _ | j
  ·simp at hc; subst hc; exact ⟨z,by simp,.inr ⟨h1,rfl,h3⟩⟩
  ·simp at hc
 ·exact h.get
theorem Sim.DT {σ τ : S} {ws : List (Nat × Ae)} {F : Fz} {β : Bt} {a : Act} {w : World} (h : Sim N w0 F0 M B0 σ F β a w) (hw : MF ws σ τ) : ∃ F',Sim N w0 F0 M B0 τ F' β a w:=by
 obtain ⟨F',hsub,hS,_⟩:=h.freeze hw.fz
 refine ⟨F',?_⟩
 have hcel : ∀ c c' v,DC σ ws c c' -> Cel F β c v -> Cel F' β c' v:=by
  rintro c c' v (rfl | ⟨h1,rfl,h3⟩) hv
  ·exact hv.mono hsub (Aw.refl _)
  ·exact Cel.Ah ((EX h c hv h1).2 ws F' hw.fz h3 hsub hS)
 have hval : ∀ d d' x,Conv σ ws d d' -> Env F β d x -> Env F' β d' x:=by
  rintro d d' x ((rfl | ⟨h1,rfl,h3⟩) | ⟨cs,cs',rfl,rfl,hc⟩) hv
  ·exact hv.mono hsub (Aw.refl _)
  ·have hc : Cel F β d x:=by cases d <;> first | exact h1.elim | exact hv
   exact Env.Ah ((EX h d hc h1).2 ws F' hw.fz h3 hsub hS)
  ·obtain ⟨vs,rfl,hl,h1,hc1⟩:=hv
   obtain ⟨l,g⟩:=hc.get
   refine ⟨vs,rfl,by rw [l,hl],h1,λj c' v hc' hv'=>?_⟩
   obtain ⟨c,k1,k2⟩:=g j c' hc'
   exact hcel c c' v k2 (hc1 j c v k1 hv')
 have hgo : ∀ g v o,τ.go g = some (v,o) -> (S.mk σ.e (ws ++ σ.o) σ.n).go g = some (v,o) \/ ∃ o' z z',(S.mk σ.e (ws ++ σ.o) σ.n).go g = some (v,o') /\ o'.var = true /\ o'.es = [z] /\ o = { o' with es:=[z'] } /\ Conv σ ws z z':=by
  intro g v o hg
  simp only [S.go] at hg
  cases hl : look τ.o g with
  | none=>rw [hl] at hg; cases hg
  | some y =>
   rw [hl] at hg
   simp only [Option.getD_some] at hg
   subst hg
   rcases hw.o _ (Bn hl) with h1 | ⟨v',o',z,z',h1,h2,h3,h4,h5⟩
   ·exact .inl h1
   ·simp only [Option.some.injEq,Prod.mk.injEq] at h4
    obtain ⟨rfl,rfl⟩:=h4
    exact .inr ⟨o',z,z',h1,h2,h3,rfl,h5⟩
 have hgo' : ∀ g v o,τ.go g = some (v,o) -> ∃ o',(S.mk σ.e (ws ++ σ.o) σ.n).go g = some (v,o') /\ o'.fz = o.fz /\ o'.var = o.var:=by
  intro g v o hg
  rcases hgo g v o hg with h1 | ⟨o',z,z',h1,h2,h3,rfl,h5⟩
  ·exact ⟨o,h1,rfl,rfl⟩
  ·exact ⟨o',h1,rfl,rfl⟩
 refine { nam:=hS.nam,size:=hS.size,defers:=hS.defers,env:=λt=>?_,own:=λg v o hg=>?_,dist:=λg g' v v' o o' L L' b hg hg' hf hf'=>?_,sep:=λg v o L b hg hf=>?_,Ad:=?_,frz:=hS.frz,fin:=hS.fin,step:=hS.step }
 ·simp only [S.ge]
  cases hl : look τ.e t with
  | none=>exact Env.top _
  | some d =>
   simp only [Option.getD_some]
   exact hval _ _ _ (hw.e _ (Bn hl)) (h.env t)
 ·rcases hgo g v o hg with h1 | ⟨o',z,z',h1,h2,h3,rfl,h5⟩
  ·exact hS.own g v o h1
  ·rcases hw.fz.go g with ⟨v2,o2,k1,k2,_,k4⟩ | ⟨_,k2⟩
   ·rw [k4] at h1
    cases h1
    simp only at h2
    rw [k2] at h2; cases h2
   ·rw [k2] at h1
    obtain ⟨L,hL,hz,hk⟩:=h.own g v o' h1
    refine ⟨L,hL,λhfz=>?_,λhfz=>?_⟩
    ·have:=(hz hfz).var
     rw [h2] at this; cases this
    ·obtain ⟨e1,e2,e3,e4,e5,e6⟩:=hk hfz
     obtain ⟨l,gg⟩:=h5.cells
     refine ⟨e1,e2,by simpa [h3] using e3,e4,λe he=>?_,?_⟩
     ·simp only [List.mem_singleton] at he
      subst he
      rw [l]; exact e5 z (by rw [h3]; simp)
     ·cases hb : L.b with
      | none=>rw [hb] at e6; exact e6
      | some b =>
       rw [hb] at e6
       obtain ⟨C,hC,hs,hx⟩:=e6
       refine ⟨C,hC,hs,λi j e d he hd=>?_⟩
       rcases i with _ | i
       ·simp only [List.getElem?_cons_zero,Option.some.injEq] at he
        subst he
        obtain ⟨c,q1,q2⟩:=gg j d hd
        obtain ⟨x,x1,x2,x3⟩:=hx 0 j z c (by rw [h3]; rfl) q1
        refine ⟨x,x1,x2,?_⟩
        rw [if_pos h2] at x3
        simp only [h2,if_true]
        exact hcel c d x q2 x3
       ·simp at he
 ·obtain ⟨o1,q1,q2,q3⟩:=hgo' g v o hg
  obtain ⟨o2,r1,r2,r3⟩:=hgo' g' v' o' hg'
  exact hS.dist g g' v v' o1 o2 L L' b q1 r1 (q2.trans hf) (r2.trans hf')
 ·obtain ⟨o1,q1,q2,q3⟩:=hgo' g v o hg
  have:=hS.sep g v o1 L b q1 (q2.trans hf)
  exact this
 ·obtain ⟨φ,hφ⟩:=hS.Ad
  refine ⟨φ,hφ.BS (Ai.refl _) (Aw.refl _) (Nat.le_refl _) (λ_ _ _ _ _ _=>rfl) (λ_ _ _ _ _=>rfl) (λg v o hg=>?_) (λg v o hr hg hf=>.inl ?_) (λg i j b g' v' o' L' hb hg hf hL=>?_)⟩
  ·obtain ⟨L,hL,_⟩:=hS.own g v o hg
   exact ⟨L,hL⟩
  ·rcases hgo g v o hg with h1 | ⟨o',z,z',h1,h2,h3,rfl,h5⟩
   ·exact ⟨o,h1,hf,rfl,rfl,λi j e c he hj _=>⟨⟨e,he,hj⟩,λL b C x _ _ hC hx=>⟨C,hC,hx⟩⟩⟩
   ·refine ⟨o',h1,hf,rfl,rfl,λi j e c he hj hp=>⟨⟨z,?_⟩,λL b C x _ _ hC hx=>⟨C,hC,hx⟩⟩⟩
    rcases i with _ | i
    ·simp only [List.getElem?_cons_zero,Option.some.injEq] at he
     subst he
     obtain ⟨_,gg⟩:=h5.cells
     obtain ⟨c0,q1,q2⟩:=gg j c hj
     refine ⟨by rw [h3]; rfl,?_⟩
     rcases q2 with rfl | ⟨k1,k2,_⟩
     ·exact q1
     ·have hrr:=Hq (σ:=σ) k1
      cases c <;> first | (cases hp; done) | skip
      ·have:=hrr.1 _ _ _ k2; subst this; exact q1
      ·have:=hrr.2 _ _ _ k2; subst this; exact q1
    ·simp at he
  ·obtain ⟨o1,q1,q2,_⟩:=hgo' g' v' o' hg
   exact hφ.sep g i j b g' v' o1 L' hb q1 (q2.trans hf) hL
theorem Sim.chg {σ τ : S} {F : Fz} {β : Bt} {a : Act} {w : World} (h : Sim N w0 F0 M B0 σ F β a w) (hf : ∀ v,σ.n <= v -> β v = none) (hw : Chg σ τ) : ∃ F' β',Sim N w0 F0 M B0 τ F' β' a w /\ ∀ v,τ.n <= v -> β' v = none:=by
 induction hw generalizing F β with
 | refl=>exact ⟨F,β,h,hf⟩
 | DT ws hw _ ih =>
  obtain ⟨F',h'⟩:=h.DT hw
  exact ih h' λv hv=>hf v (Nat.le_trans hw.n hv)
 | rw hw _ ih =>
  obtain ⟨F',β',h',hf'⟩:=h.rw hf hw
  exact ih h' hf'
theorem CB.Dl {w1 : World} {F1 : Fz} {M1 : Nat -> Prop} {B1 : Bt} {σ τ : S} {F' : Fz} {β' : Bt} {a : Act} {w : World} (h : CB w0 M w1 F1 M1 B1 σ w) (hS : Sim N w1 F1 M1 B1 τ F' β' a w) (hgo : ∀ g v o,τ.go g = some (v,o) -> o.fz = true -> σ.go g = some (v,o)) : CB w0 M w1 F1 M1 B1 τ w :=
 h.sub λg v o hg h0=>hgo g v o hg (by
  cases hf : o.fz with
  | true=>rfl
  | false=>exact (hS.HN hg hf h0).elim)
theorem Bm {σ : S} {e : List (Nat × D)} {n k : Nat} {x : Ae} {o' : List (Nat × Ae)} (hx : ∀ u q,x = some (u,q) -> q.fz = true -> σ.go k = some (u,q)) (hr : ∀ g u q,(S.mk e o' n).go g = some (u,q) -> q.fz = true -> σ.go g = some (u,q)) :
  ∀ g u q,(S.mk e ((k,x) :: o') n).go g = some (u,q) -> q.fz = true -> σ.go g = some (u,q):=by
 intro g u q hg hq
 simp only [S.go,look] at hg
 split at hg
 ·rename_i e; subst e
  simp only [Option.getD_some] at hg
  exact hx u q hg hq
 ·exact hr g u q hg hq
theorem Cn {v : Nat} {o : Own} {σ : S} {k : Nat} (h : o.fz = false) : ∀ u q,some (v,o) = some (u,q) -> q.fz = true -> σ.go k = some (u,q):=λu q e hq=>by cases e; rw [h] at hq; cases hq
theorem Hk {σ : S} {k : Nat} : ∀ u q,(none : Ae) = some (u,q) -> q.fz = true -> σ.go k = some (u,q):=λ_ _ e=>by cases e
theorem Dd {σ : S} {e : List (Nat × D)} {n : Nat} : ∀ g u q,(S.mk e σ.o n).go g = some (u,q) -> q.fz = true -> σ.go g = some (u,q):=λ_ _ _ h _=>h
theorem AD.rw {σ τ : S} {F : Fz} {β : Bt} {a : Act} {w : World} (h : AD N w0 F0 M B0 σ F β a w) (hf : ∀ v,σ.n <= v -> β v = none) (hw : Rw σ τ) : ∃ F' β',AD N w0 F0 M B0 τ F' β' a w /\ ∀ v,τ.n <= v -> β' v = none:=by
 obtain ⟨w1,F1,M1,B1,hb,hS,hm⟩:=h
 obtain ⟨F',β',hS',hf'⟩:=hS.rw hf hw
 refine ⟨F',β',⟨w1,F1,M1,B1,hb,hS',?_⟩,hf'⟩
 cases hw with
 | close g v i off g' v' m og o' c hg hr hfz hi hc hh hg' hfz' hvar hmm hp hne=>exact hm.Dl hS' (Bm (Cn hfz) (Bm Hk Dd))
 | enrich g g2 v o es' hg hfz hn he =>
  refine hm.Dl hS' (Bm (Cn hfz) (Bm ?_ Dd))
  cases Nat.beq g g2
  ·exact Hk
  ·exact Cn hfz
 | frows g v o es' hg hr hfz he=>exact hm.Dl hS' (Bm (Cn hfz) Dd)
 | nilsl g v o hg hr hfz hvar=>exact hm.Dl hS' (Bm (Cn hfz) Dd)
 | fvar g v o z hg hfz hvar hz hc =>
  refine hm.Dl hS' (Bm Hk λk u q hk hq=>?_)
  rw [LO] at hk
  cases hx : σ.go k with
  | none =>
   have : (S.mk (σ.e.map λp=>(p.1,frp g v z p.2)) σ.o σ.n).go k = none:=hx
   rw [this] at hk; cases hk
  | some p =>
   obtain ⟨u0,q0⟩:=p
   have : (S.mk (σ.e.map λp=>(p.1,frp g v z p.2)) σ.o σ.n).go k = some (u0,q0):=hx
   rw [this] at hk
   cases hk
   obtain ⟨L,_,hz',_⟩:=hS.own k _ q0 hx
   have:=(hz' hq).var
   cases q0
   simp only at this
   subst this
   rfl
 | nams rn hn =>
  constructor
  ·intro k u q hk hq
   obtain ⟨g,o,_,_,hgo,rfl⟩:=Cv hn hk
   obtain ⟨r1,b,r2,r3,r4,r5,r6,r7⟩:=hm.at_ g u o hgo hq
   obtain ⟨L,_,hz,_⟩:=hS.own g u o hgo
   have hv:=(hz r1).var
   exact ⟨r1,b,r2,r3,r4,r5,by rw [hv]; exact r6,r7⟩
  ·intro k k' u u' q q' c1 c2 b hk hk' hq hq' e1 e2
   obtain ⟨g,o,_,rfl,hgo,rfl⟩:=Cv hn hk
   obtain ⟨g',o',_,rfl,hgo',rfl⟩:=Cv hn hk'
   rw [hm.dis g g' u u' o o' _ _ b hgo hgo' hq hq' e1 e2]
 | opn g v i off t s ty es o hg hr hfz hvar hi hrow hne=>exact hm.Dl hS' (Bm (Cn rfl) (Bm (Cn hfz) Dd))
 | shrink gw vw i off g v k ow o hgw hrw hfzw hvarw hi hc hg hr hfz hvar hk hne=>exact hm.Dl hS' (Bm (Cn hfzw) (Bm (Cn hfz) Dd))
 | nilv g v i off t s ty o hg hr hfz hvar hi hc hs hne=>exact hm.Dl hS' (Bm (Cn hfz) (Bm (Cn rfl) Dd))
 | opnr g v i off t s ty es o hg hr hfz hvar hi hrow hne=>exact hm.Dl hS' (Bm (Cn rfl) (Bm (Cn hfz) Dd))
theorem AD.DT {σ τ : S} {ws : List (Nat × Ae)} {F : Fz} {β : Bt} {a : Act} {w : World} (h : AD N w0 F0 M B0 σ F β a w) (hw : MF ws σ τ) : ∃ F',AD N w0 F0 M B0 τ F' β a w:=by
 obtain ⟨w1,F1,M1,B1,hb,hS,hm⟩:=h
 obtain ⟨F',hS'⟩:=hS.DT hw
 refine ⟨F',w1,F1,M1,B1,hb,hS',hm.sub λg v o hg h0=>?_⟩
 have hfz : o.fz = true:=by
  cases hf : o.fz with
  | true=>rfl
  | false=>exact (hS'.HN hg hf h0).elim
 have hl : look τ.o g = some (some (v,o)):=by
  unfold S.go at hg
  cases hx : look τ.o g with
  | none=>rw [hx] at hg; cases hg
  | some x=>rw [hx] at hg; simp only [Option.getD_some] at hg; rw [hg]
 have hz:=hw.o _ (Bn hl)
 simp only at hz
 have key : ∀ q,σ.gof ws g = some (v,q) -> q.s = 0 -> q.fz = true -> σ.go g = some (v,q):=by
  intro q hq hs hqf
  rcases hw.fz.go g with ⟨v2,o2,k1,k2,_,k4⟩ | ⟨_,k2⟩
  ·have : σ.gof ws g = some (v2,{ o2 with fz:=true }):=k4
   rw [this] at hq
   cases hq
   have:=(hm.at_ g _ o2 k1 hs).1
   rw [k1]
   cases o2
   simp only at this
   subst this
   rfl
  ·have : σ.gof ws g = σ.go g:=k2
   rw [<- this]; exact hq
 rcases hz with hz | ⟨v',q,z,z',h1,h2,h3,h4,_⟩
 ·exact key o hz h0 hfz
 ·cases h4
  have:=key q h1 h0 hfz
  obtain ⟨L,_,hz,_⟩:=hS.own g _ q this
  have hv:=(hz hfz).var
  rw [h2] at hv; cases hv
theorem AD.chg {σ τ : S} {F : Fz} {β : Bt} {a : Act} {w : World} (h : AD N w0 F0 M B0 σ F β a w) (hf : ∀ v,σ.n <= v -> β v = none) (hw : Chg σ τ) : ∃ F' β',AD N w0 F0 M B0 τ F' β' a w /\ ∀ v,τ.n <= v -> β' v = none:=by
 induction hw generalizing F β with
 | refl=>exact ⟨F,β,h,hf⟩
 | DT ws hw _ ih =>
  obtain ⟨F',h'⟩:=h.DT hw
  exact ih h' λv hv=>hf v (Nat.le_trans hw.n hv)
 | rw hw _ ih =>
  obtain ⟨F',β',h',hf'⟩:=h.rw hf hw
  exact ih h' hf'
theorem Mh {σ : S} {F : Fz} {β : Bt} {a : Act} {w : World} (h : AD N w0 F0 M B0 σ F β a w) (hf : ∀ v,σ.n <= v -> β v = none) {ops : Array Oper} {i : Nat} {o : Oper} {o' : Az} (hop : CX P N ops false i o = some o')
  {KS : S -> Prop} (hx : Lr o' σ KS) (K : Act -> World -> Prop) (Q : Exit -> Act -> World -> Prop)
  (hK : ∀ a' w' F' β' τ,AD N w0 F0 M B0 τ F' β' a' w' -> (∀ v,τ.n <= v -> β' v = none) -> KS τ -> K a' w') :
  if Region.wanted o (yielded ops a.tmps) then o.wp P a w K Q else K (a.put o.dst undef) w:=by
 obtain ⟨hgd,t,hdt,ty,es,hm,hk⟩:=hx
 unfold CX at hop
 simp only [Option.bind_eq_some_iff] at hop
 obtain ⟨dop,hdop,g,hg,he⟩:=hop
 split at he
 ·rename_i hcond
  simp only [Bool.and_eq_true] at hcond
  obtain ⟨hdst,_⟩:=hcond
  cases he
  simp only at hm hgd hdt
  have hwant : Region.wanted o (yielded ops a.tmps) = true:=by
   cases hgd' : o.guard with
   | none=>simp [Region.wanted,hgd']
   | some p =>
    exfalso
    obtain ⟨j,want⟩:=p
    rw [hgd'] at hg
    simp only [FP,Option.bind_eq_some_iff] at hg
    obtain ⟨oj,hoj,t',ht',hg⟩:=hg
    cases hg
    cases hgd
  rw [if_pos hwant]
  cases ho : o.op with
  | makeMap mt mr =>
   cases mr with
   | some _=>rw [ho] at hdop; cases hdop; exact hm.elim
   | none =>
    rw [ho] at hdop
    simp only [cOp,Option.bind_eq_bind,Option.bind_eq_some_iff] at hdop
    obtain ⟨_,_,he⟩:=hdop; cases he
    obtain ⟨rfl,rfl⟩:=hm
    obtain ⟨β',hS,hfr⟩:=h.Mj hf (FU hdst t hdt) (ob:=.map #[] 0) (x:=.map (some w.heap.size)) (Nat.zero_le _) (.inl ⟨rfl,rfl⟩) λw' hw'=>.inl ⟨rfl,#[],0,hw',show CW [] [] from trivial⟩
    have hrun : (execOp a.eval o).run P w = .ok (.value (.map (some w.heap.size))) (w.alloc (.map #[] 0)):=by
     unfold execOp; rw [ho]
     have : (Instr.makeMap mt none).run P w = .ok (.map (some w.heap.size)) (w.alloc (.map #[] 0)):=rfl
     simp [this]
    unfold Oper.wp
    rw [hrun]
    simp only [Oper.upon]
    rw [hdt]
    exact hK _ _ _ β' _ hS hfr hk
  | range rt rx =>
   rw [ho] at hdop
   simp only [cOp] at hdop
   split at hdop
   ·rename_i hu
    simp only [Option.bind_eq_bind,Option.bind_eq_some_iff] at hdop
    obtain ⟨ax,hax,he⟩:=hdop; cases he
    obtain ⟨l,hl,rfl,rfl⟩:=hm
    have hx1:=Ax h.sim hax (by rw [hl])
    rw [hl] at hx1
    have hx2 : a.eval rx = .string ⟨l.toArray⟩:=Cw hx1
    obtain ⟨β',hS,hfr⟩:=h.Mj hf (FU hdst t hdt) (ob:=.stringIter ⟨l.toArray⟩ 0) (x:=.pointer (some ⟨w.heap.size,0,none⟩)) (Nat.le_refl _) (.inr ⟨rfl,rfl⟩) λw' hw'=>.inr ⟨rfl,l,0,hw',rfl⟩
    have hrun : (execOp a.eval o).run P w = .ok (.value (.pointer (some ⟨w.heap.size,0,none⟩))) (w.alloc (.stringIter ⟨l.toArray⟩ 0)):=by
     unfold execOp; rw [ho]
     have : (newObj (.stringIter ⟨l.toArray⟩ 0)).run P w = .ok w.heap.size (w.alloc (.stringIter ⟨l.toArray⟩ 0)):=rfl
     simp [Instr.range,hx2,run_underlying hu,Result.andThen]
    unfold Oper.wp
    rw [hrun]
    simp only [Oper.upon]
    rw [hdt]
    exact hK _ _ _ β' _ hS hfr hk
   ·cases hdop; exact hm.elim
  | lookup _ _ _ b =>
   exfalso
   rw [ho] at hdop
   cases b <;> simp only [cOp,Option.bind_eq_bind,Option.bind_eq_some_iff] at hdop
   ·obtain ⟨_,_,_,_,_,_,he⟩:=hdop; cases he; exact hm
   ·cases hdop; exact hm
  | mapUpdate _ _ _ _ =>
   exfalso
   rw [ho] at hdop
   simp only [cOp,Option.bind_eq_bind,Option.bind_eq_some_iff] at hdop
   obtain ⟨_,_,_,_,_,_,_,_,he⟩:=hdop; cases he; exact hm
  | next _ b =>
   exfalso
   rw [ho] at hdop
   cases b <;> simp only [cOp,Option.bind_eq_bind,Option.bind_eq_some_iff] at hdop
   ·cases hdop; exact hm
   ·obtain ⟨_,_,he⟩:=hdop; cases he; exact hm
  | call c =>
   exfalso
   rw [ho] at hdop
   simp only [cOp,HD] at hdop
   revert hdop
   (repeat' split) <;> simp [Option.bind_eq_some_iff] <;> intros <;> (try subst_vars) <;> (try rintro rfl) <;> exact hm
  | _ =>
   exfalso
   have hno : DH dop = false:=II hdop (by rw [ho]; exact λ_ _ e=>by cases e) (by rw [ho]; exact λ_ _ _ _ e=>by cases e) (by rw [ho]; exact λ_ _ _ _ e=>by cases e) (by rw [ho]; exact λ_ e=>by cases e) (by rw [ho]; exact λ_ _ e=>by cases e) (by rw [ho]; exact λ_ _ e=>by cases e)
   cases dop <;> first | exact hm | cases hno
 ·cases he
def QR (N : Nat) (w0 : World) (F0 : Fz) (M : Nat -> Prop) (B0 : Bt) (Q : Ay -> S -> Prop) : Exit -> Act -> World -> Prop:=λe a w =>
 ∃ τ F β,AD N w0 F0 M B0 τ F β a w /\ (∀ v,τ.n <= v -> β v = none) /\ match e with
  | .normal=>Q .normal τ
  | .exit id=>Q (.exit id) τ
  | .ret=>Q .ret τ
  | _=>False
theorem LK {type : TypeId} {op : Op} {fa : Arg} {args : List Arg} (h : cOp P type op = some (.call fa args)) :
  ∃ cf cas cts,op = .call { callee:=.value cf,args:=cas,argTypes:=cts } /\ Ap cf = some fa /\ Di cas.toList = some args:=by
 by_cases hop : ∃ c,op = .call c
 ·obtain ⟨c,rfl⟩:=hop
  simp only [cOp,HD] at h
  split at h
  ·rename_i f h1
   simp only [Option.bind_eq_bind,Option.bind_eq_some_iff] at h
   obtain ⟨x,hx,y,hy,he⟩:=h
   cases he
   cases c with
   | mk callee cargs argTypes =>
    simp only at h1
    subst h1
    exact ⟨f,cargs,argTypes,rfl,hx,hy⟩
  ·exfalso; revert h; split <;> simp [Option.bind_eq_some_iff]
  ·exfalso; revert h; split <;> simp [Option.bind_eq_some_iff]
  ·exfalso; revert h; split <;> simp [Option.bind_eq_some_iff]
  ·exfalso; revert h; (repeat' split) <;> simp [Option.bind_eq_some_iff]
  ·exfalso; revert h; simp [Option.bind_eq_some_iff]
  ·exfalso; revert h; simp [Option.bind_eq_some_iff]
  ·cases h
 ·exfalso
  unfold cOp at h
  split at h
  all_goals first
   | (exact hop ⟨_,rfl⟩)
   | (revert h; simp [Option.bind_eq_some_iff]; done)
   | (revert h; (repeat' split) <;> simp [Option.bind_eq_some_iff]; done)
   | (revert h; unfold La Lb; (repeat' split) <;> simp [Option.bind_eq_some_iff]; done)
   | (simp only [Option.bind_eq_bind,Option.bind_eq_some_iff] at h; obtain ⟨z,_,h⟩:=h; revert h; (repeat' split) <;> simp [Option.bind_eq_some_iff]; done)
   | (split at h <;> first | (simp only [Option.bind_eq_bind,Option.bind_eq_some_iff] at h; obtain ⟨z,_,h⟩:=h; revert h; (repeat' split) <;> simp [Option.bind_eq_some_iff]; done) | (cases h; done))
theorem JZ {Γ : At} (hΓ : ∀ k sp,Γ k = some sp -> BN P F0 (k % 4096) sp) {σ : S} {F : Fz} {β : Bt} {a : Act} {w : World} (h : AD N w0 F0 M B0 σ F β a w) (hf : ∀ v,σ.n <= v -> β v = none) {ops : Array Oper} {i : Nat} {o : Oper} {o' : Az} (hop : CX P N ops false i o = some o')
  {KS : S -> Prop} (hx : Ie Γ o' σ KS) (K : Act -> World -> Prop) (Q : Exit -> Act -> World -> Prop)
  (hK : ∀ a' w' F' β' τ,AD N w0 F0 M B0 τ F' β' a' w' -> (∀ v,τ.n <= v -> β' v = none) -> KS τ -> K a' w') :
  if Region.wanted o (yielded ops a.tmps) then o.wp P a w K Q else K (a.put o.dst undef) w:=by
 obtain ⟨hon,fa,args,f,caps,sp,φ,K0,hK0,hcall,hclo,hblt,hG,hopn,hall,hφ⟩:=hx
 unfold CX at hop
 simp only [Option.bind_eq_some_iff] at hop
 obtain ⟨dop,hdop,g,hg,he⟩:=hop
 split at he
 ·rename_i hcond
  simp only [Bool.and_eq_true] at hcond
  obtain ⟨hdst,_⟩:=hcond
  cases he
  simp only at hcall hφ hon
  subst hcall
  have hwant : Region.wanted o (yielded ops a.tmps) = true:=by
   cases hgd : o.guard with
   | none=>simp [Region.wanted,hgd]
   | some p =>
    obtain ⟨j,want⟩:=p
    rw [hgd] at hg
    simp only [FP,Option.bind_eq_some_iff] at hg
    obtain ⟨oj,hoj,t,ht,hg⟩:=hg
    cases hg
    obtain ⟨h1,h2⟩:=hon
    have hy : yielded ops a.tmps j = match a.tmps[t]? with | some (.bool b)=>some b | _=>none:=by
     simp only [yielded,hoj,Option.bind_some,ht]
     rcases a.tmps[t]? with _ | v
     ·rfl
     ·cases v <;> rfl
    have hget : ∀ b : Bool,a.tmps.getD t undef = .bool b -> a.tmps[t]? = some (.bool b):=by
     intro b hb
     rw [Array.getD_eq_getD_getElem?] at hb
     cases hh : a.tmps[t]? with
     | none=>rw [hh] at hb; cases hb
     | some v=>rw [hh] at hb; simp only [Option.getD_some] at hb; rw [hb]
    have henv:=h.sim.env t
    generalize σ.ge t = gd at *
    have fin : ∀ b : Bool,a.tmps.getD t undef = .bool b -> (b == want) = true -> Region.wanted o (yielded ops a.tmps) = true:=by
     intro b hb hbw
     simp only [Region.wanted,hgd,hy,hget b hb]
     simpa using hbw
    cases gd with
    | bool b=>exact fin b (Ca (β:=β) (F:=F) henv) h2
    | when p d =>
     cases d with
     | bool b =>
      simp only [guardOf,Bool.and_eq_true] at h2
      exact fin b (Ca (β:=β) (F:=F) (henv.1 h2.1)) h2.2
     | _=>exact h1.elim
    | _=>exact h1.elim
  rw [if_pos hwant]
  obtain ⟨cf,cas,cts,hoo,hfa,hys⟩:=LK hdop
  have hfe:=CT h.sim hfa
  rw [hclo] at hfe
  obtain ⟨vs,hvs,hvl,hvr⟩:=hfe
  rw [HK hblt] at hvs
  obtain ⟨l,r⟩:=Ee h.sim hys
  have hsp:=hΓ _ sp hG
  have hkm : (f + 4096 * AR ((AU args).run σ)) % 4096 = f:=by
   have : f < 4096:=by simpa [Nat.blt_eq] using hblt
   omega
  rw [hkm] at hsp
  obtain ⟨fn,hfn,hnm,hbd⟩:=hsp.1
  have hrun : (execOp a.eval o).run P w = .ok (.enter f (cas.toList.map a.eval ++ vs).toArray) w:=by
   unfold execOp
   simp only [hoo]
   have e1 : (cas.map a.eval ++ vs.toArray) = (cas.toList.map a.eval ++ vs).toArray:=by
    apply Array.ext'
    simp
   have hnm' : ¬ fn.name = "runtime.NumGoroutine":=by simpa using hnm
   have hbd' : ¬ fn.body = none:=by intro e; rw [e] at hbd; cases hbd
   rw [<- e1]
   simp [resolve,Deferred.ofValue,hvs,invoke,callFunc,hfn,hnm',hbd']
  have hvals : ∀ (q : Nat) d x,((AU args).run σ ++ caps)[q]? = some d -> (cas.toList.map a.eval ++ vs)[q]? = some x -> Val F β d x:=by
   intro q d x hq hx
   by_cases hlt : q < cas.toList.length
   ·rw [List.getElem?_append_left (by rw [l]; exact hlt)] at hq
    rw [List.getElem?_append_left (by simpa using hlt)] at hx
    have henv:=r q d x hq hx
    have hnw:=List.all_eq_true.1 hall d (List.mem_of_getElem? hq)
    cases d <;> first | exact henv | cases hnw
   ·rw [List.getElem?_append_right (by rw [l]; omega),l] at hq
    rw [List.getElem?_append_right (by simp at hlt ⊢; omega)] at hx
    simp only [List.length_map] at hx
    exact Val.As (Cel.CV (hvr _ d x hq hx))
  have hcall:=hsp.2.2.2.1 φ hopn F0 (Ai.refl _) N w0 M B0 σ F β a w ((AU args).run σ ++ caps) (cas.toList.map a.eval ++ vs) _ h hf (by simp [l,hvl]) hvals hφ
  unfold Oper.wp
  rw [hrun]
  simp only [Oper.upon]
  refine hcall.mono ?_
  rintro e w' ⟨v,d,o',n',F',β',rfl,hS,hfr,hv,hk⟩
  have hd : ∀ t,o.dst = some t -> t < N:=by
   intro t ht
   simp only [CY,ht,Bool.and_eq_true,decide_eq_true_eq] at hdst
   exact hdst.1
  have hS':=hS.put (c:=True) (dst:=o.dst) (d:=d) (v:=v) hd (Env.Ak hv) (w':=w') rfl rfl rfl rfl
  exact hK _ _ F' β' _ hS' hfr (hK0 _ hk)
 ·cases he
theorem DJ {Γ : At} (hΓ : ∀ k sp,Γ k = some sp -> BN P F0 (k % 4096) sp) {ops : Array Oper} {Q : Exit -> Act -> World -> Prop} {KD : S -> Prop} : ∀ (l : List Oper) (i : Nat) (ds : List Az),Cs P N ops false i l = some ds ->
  ∀ (σ : S) (F : Fz) (β : Bt) (a : Act) (w : World) (nv : Nat),AD N w0 F0 M B0 σ F β a w -> (∀ v,nv <= v -> β v = none) -> wpS Γ ds nv σ KD ->
  (∀ τ F' β' a' w',AD N w0 F0 M B0 τ F' β' a' w' -> (∀ v,τ.n <= v -> β' v = none) -> KD τ -> Q .normal a' w') -> wpList P ops Q l a w
 | [],i,ds,hds,σ,F,β,a,w,nv,h,hf,hw,hQ=>by
  simp only [Cs,Option.some.injEq] at hds
  subst hds
  exact wpList_nil (hQ { σ with n:=nv } F β a w (h.congr λk=>by cases k <;> rfl) hf hw)
 | o :: l,i,ds,hds,σ,F,β,a,w,nv,h,hf,hw,hQ=>by
  simp only [Cs,Option.bind_eq_bind,Option.bind_eq_some_iff] at hds
  obtain ⟨o',ho',r,hr,he⟩:=hds
  cases he
  refine wpList_step λK hK=>?_
  rcases hw with ⟨hc,hw'⟩ | ⟨σ1,hchg1,hx⟩ | ⟨σ1,hchg1,hx⟩
  ·refine EE hΓ h ho' (hf nv (Nat.le_refl _)) hc K Q λa' w' F' β' hS hb1 hb2=>hK a' w' ?_
   refine DJ hΓ l (i + 1) r hr _ F' β' a' w' (nv + 1) hS (λv hv=>?_) hw' hQ
   rw [hb2 v (by omega)]
   exact hf v (by omega)
  ·obtain ⟨F1,β1,h1,hf1⟩:=AD.chg (σ:={ σ with n:=nv }) (h.congr λk=>by cases k <;> rfl) hf hchg1
   refine JZ hΓ h1 hf1 ho' hx K Q λa' w' F' β' τ hS hfr hk=>hK a' w' ?_
   obtain ⟨τ2,hchg,hk⟩:=hk
   obtain ⟨F2,β2,hS2,hfr2⟩:=hS.chg hfr hchg
   exact DJ hΓ l (i + 1) r hr τ2 F2 β2 a' w' τ2.n hS2 hfr2 hk hQ
  ·obtain ⟨F1,β1,h1,hf1⟩:=AD.chg (σ:={ σ with n:=nv }) (h.congr λk=>by cases k <;> rfl) hf hchg1
   refine Mh h1 hf1 ho' hx K Q λa' w' F' β' τ hS hfr hk=>hK a' w' ?_
   obtain ⟨τ2,hchg,hk⟩:=hk
   obtain ⟨F2,β2,hS2,hfr2⟩:=hS.chg hfr hchg
   exact DJ hΓ l (i + 1) r hr τ2 F2 β2 a' w' τ2.n hS2 hfr2 hk hQ
theorem Ce {Γ : At} (hΓ : ∀ k sp,Γ k = some sp -> BN P F0 (k % 4096) sp) : ∀ (c : Code) (d : AV),BF P N c = some d -> ∀ (Q : Ay -> S -> Prop) (σ : S) (F : Fz) (β : Bt) (a : Act) (w : World),
  AD N w0 F0 M B0 σ F β a w -> (∀ v,σ.n <= v -> β v = none) -> DWp Γ d Q σ -> c.wp P (QR N w0 F0 M B0 Q) a w
 | .skip,d,hd,Q,σ,F,β,a,w,h,hf,hw=>by
  simp only [BF,Option.some.injEq] at hd
  subst hd
  exact wp_skip ⟨σ,F,β,h,hf,hw⟩
 | .ret,d,hd,Q,σ,F,β,a,w,h,hf,hw=>by
  simp only [BF,Option.some.injEq] at hd
  subst hd
  exact wp_ret ⟨σ,F,β,h,hf,hw⟩
 | .exit id,d,hd,Q,σ,F,β,a,w,h,hf,hw=>by
  simp only [BF,Option.some.injEq] at hd
  subst hd
  exact wp_exit ⟨σ,F,β,h,hf,hw⟩
 | .region id ops draw,d,hd,Q,σ,F,β,a,w,h,hf,hw=>by
  simp only [BF] at hd
  split at hd
  ·cases hd
  ·rename_i hdr
   simp only [Option.bind_eq_bind,Option.bind_eq_some_iff] at hd
   obtain ⟨ds,hds,he⟩:=hd
   cases he
   obtain ⟨σ0,hchg0,hw⟩:=hw
   obtain ⟨F,β,h,hf⟩:=h.chg hf hchg0
   cases draw with
   | false =>
    rw [if_neg (by simp)] at hw
    refine wp_region_list ?_
    exact DJ (w0:=w0) (F0:=F0) (M:=M) (B0:=B0) hΓ ops.toList 0 ds hds σ0 F β a w σ0.n h hf hw (λτ F' β' a' w' hS hf' hk=>⟨τ,F',β',hS,hf',hk⟩)
   | true =>
    rw [if_pos rfl] at hw
    obtain ⟨hw1,hw2⟩:=hw
    have hm : P.follows .mixedOrders = true:=by simpa using hdr
    have h' : AD N w0 F0 M B0 σ0 F β a { w with drawn:=w.drawn + 1 }:=by
     have:=h.put (c:=True) (dst:=none) (d:=.top) (v:=undef) (λt e=>by cases e) (Env.top _) (w':={ w with drawn:=w.drawn + 1 }) rfl rfl rfl rfl
     exact this
    refine wp_region_any hm ?_
    have hid : ∀ (us : List Out) (i : Nat),Bv (λi=>(Array.replicate ops.size false).getD i true) us i σ = Bv (λi=>(Array.replicate ops.size false).getD i true) us i σ:=λ_ _=>rfl
    obtain ⟨hlen,_⟩:=Fi ops.toList 0 ds hds
    simp only [Array.length_toList] at hlen
    have hol:=(Ez Γ ds σ0.n σ0 0 (λ_=>true) (λ_=>rfl)).1
    refine LI (w0:=w0) (F0:=F0) (M:=M) (B0:=B0) hΓ hds hw1 hw2 (λτ F' β' a' w' hS hf' hk=>?_) ops.size (Array.replicate ops.size false) F β a _ (by simp) ?_ ?_ ?_ ?_
    ·obtain ⟨τ',hk1,hk2⟩:=hk
     exact ⟨{ τ' with n:=σ0.n + ds.length },F',β',hS.congr (λk=>(by cases k <;> rfl : ({ τ' with n:=σ0.n + ds.length } : S).get k = τ'.get k).trans (hk2 k)),hf',hk1⟩
    ·rw [List.countP_eq_length.2]
     ·simp
     ·intro i hi
      simp only [List.mem_range] at hi
      simp [hi]
    ·intro j o ho hl
     have hj : j < ops.size:=(Array.getElem?_eq_some_iff.1 ho).1
     simp [hj] at hl
    ·intro v hv hb
     exact absurd (hf v hv) hb
    ·have hnone : ∀ (us : List Out) (i : Nat) (τ : S),i + us.length <= ops.size -> Bv (λi=>(Array.replicate ops.size false).getD i true) us i τ = τ:=by
      intro us
      induction us with
      | nil=>intro i τ _; rfl
      | cons u us ih =>
       intro i τ hle
       simp only [List.length_cons] at hle
       have hi : i < ops.size:=by omega
       simp only [Bv]
       have hne : ¬ ((Array.replicate ops.size false).getD i true = true):=by simp [hi]
       rw [if_neg hne]
       exact ih (i + 1) τ (by omega)
     rw [hnone _ 0 σ0 (by rw [hol,hlen]; omega)]
     exact h'
 | .seq x y,d,hd,Q,σ,F,β,a,w,h,hf,hw=>by
  simp only [BF,Option.bind_eq_bind,Option.bind_eq_some_iff] at hd
  obtain ⟨dx,hx,dy,hy,he⟩:=hd
  cases he
  refine wp_seq (wp_mono (Ce hΓ x dx hx _ σ F β a w h hf hw) λe a' w' hq=>?_)
  obtain ⟨τ,F',β',h1,h2,h3⟩:=hq
  cases e with
  | normal =>
   obtain ⟨τ',hwk,h3⟩:=h3
   obtain ⟨F2,β2,h1',h2'⟩:=h1.chg h2 hwk
   exact Ce hΓ y dy hy Q τ' F2 β2 a' w' h1' h2' h3
  | exit id=>exact ⟨τ,F',β',h1,h2,h3⟩
  | ret=>exact ⟨τ,F',β',h1,h2,h3⟩
  | goto l=>exact h3.elim
  | panic ch=>exact h3.elim
  | outgrown=>exact h3.elim
 | .cond c x y,d,hd,Q,σ,F,β,a,w,h,hf,hw=>by
  simp only [BF,Option.bind_eq_bind,Option.bind_eq_some_iff] at hd
  obtain ⟨dc,hc,dx,hx,dy,hy,he⟩:=hd
  cases he
  have henv:=CT h.sim hc
  have hev : (raw dc).run σ = DD σ dc:=by cases dc <;> rfl
  rw [hev] at henv
  simp only [DWp] at hw
  generalize DD σ dc = dv at *
  cases dv <;> try exact hw.elim
  case bool t =>
   have e1:=Ca (β:=β) (F:=F) henv
   exact wp_cond_split e1 (λht=>Ce hΓ x dx hx Q σ F β a w h hf (hw.1 ht)) (λht=>Ce hΓ y dy hy Q σ F β a w h hf (hw.2 ht))
 | .block id b,d,hd,Q,σ,F,β,a,w,h,hf,hw=>by
  simp only [BF,Option.bind_eq_bind,Option.bind_eq_some_iff] at hd
  obtain ⟨db,hb,he⟩:=hd
  cases he
  refine wp_block (wp_mono (Ce hΓ b db hb _ σ F β a w h hf hw) λe a' w' hq=>?_)
  obtain ⟨τ,F',β',h1,h2,h3⟩:=hq
  cases e with
  | normal=>exact ⟨τ,F',β',h1,h2,h3⟩
  | exit id' =>
   simp only [Ay.inBlock] at h3
   simp only [Exit.inBlock]
   split
   ·rename_i e
    rw [if_pos e] at h3
    obtain ⟨τ',hwk,h3⟩:=h3
    obtain ⟨F2,β2,h1',h2'⟩:=h1.chg h2 hwk
    exact ⟨τ',F2,β2,h1',h2',h3⟩
   ·rename_i e; rw [if_neg e] at h3; exact ⟨τ,F',β',h1,h2,h3⟩
  | ret=>exact ⟨τ,F',β',h1,h2,h3⟩
  | goto l=>exact h3.elim
  | panic ch=>exact h3.elim
  | outgrown=>exact h3.elim
 | .loop b,d,hd,Q,σ,F,β,a,w,h,hf,hw=>by
  simp only [BF,Option.bind_eq_bind,Option.bind_eq_some_iff] at hd
  obtain ⟨db,hb,he⟩:=hd
  cases he
  obtain ⟨ι,St,μ,i₀,hwk,hround⟩:=hw
  obtain ⟨F2,β2,hS2,hf2⟩:=h.chg hf hwk
  refine wp_loop_ghost (λk a w=>∃ i F β,μ i = k /\ AD N w0 F0 M B0 (St i) F β a w /\ ∀ v,(St i).n <= v -> β v = none) (μ i₀) ⟨i₀,F2,β2,rfl,hS2,hf2⟩ ?_
  rintro k a w ⟨i,F,β,rfl,h,hf⟩
  refine wp_mono (Ce hΓ b db hb _ (St i) F β a w h hf (hround i)) λe a' w' hq=>?_
  obtain ⟨τ,F',β',h1,h2,h3⟩:=hq
  cases e with
  | normal =>
   obtain ⟨i',hlt,hwk'⟩:=h3
   obtain ⟨F3,β3,hS3,hf3⟩:=h1.chg h2 hwk'
   exact ⟨μ i',hlt,i',F3,β3,rfl,hS3,hf3⟩
  | exit id=>exact ⟨τ,F',β',h1,h2,h3⟩
  | ret=>exact ⟨τ,F',β',h1,h2,h3⟩
  | goto l=>exact h3.elim
  | panic ch=>exact h3.elim
  | outgrown=>exact h3.elim
 | .rangeFunc ..,d,hd,_,_,_,_,_,_,_,_,_=>by cases hd
 | .scope ..,d,hd,_,_,_,_,_,_,_,_,_=>by cases hd
 | .label ..,d,hd,_,_,_,_,_,_,_,_,_=>by cases hd
 | .goto ..,d,hd,_,_,_,_,_,_,_,_,_=>by cases hd
 | .refuse ..,d,hd,_,_,_,_,_,_,_,_,_=>by cases hd
end
end Go.Dw
namespace Go.Dw
inductive Bb where
 | t (n : Nat)
 | c (a n : Nat) (agg : Bool)
def Ei (P : Program) : ResultVar -> Option Bb
 | .tmp t=>some (.t t)
 | .cell a ty=>if CC P ty then some (.c a (P.cellsOf ty) true) else if (P.underlying ty).isSome then some (.c a 1 false) else none
def AH : Bb -> R (Prop × D)
 | .t n=>do
  let (p,d) <- rdA (.t n)
  pure (p = true,d)
 | .c a n agg=>do
  let (p,d) <- rdA (.t a)
  let (c,e,off) <- Bj d
  pure (p = true /\ c /\ off + n <= (cells e).length,AZ (cells e) off n agg)
def EG (r : Bb) : R (Prop × D × List (Nat × Ae)):=do
 let (c,d) <- AH r
 let (c',d',w) <- res d
 pure (c /\ c',d',w)
def Cr (s ty : Nat) (d : D) : R (Prop × D × List (Nat × Ae) × Nat) :=
 match d with
 | .optr g v i off=>.go g fun
  | some (v',o)=>do
   let (c,e',w) <- res (o.es.getD 0 .top)
   pure ((v = v' /\ i = 0 /\ off = 0 /\ o.fz = false /\ o.var = true /\ o.es.length = 1 /\ o.s = s /\ o.ty = ty) /\ c,e',w,g)
  | none=>.ret (False,.top,[],0)
 | _=>.ret (False,.top,[],0)
def Is (s ty : Nat) (d : D) : R (Prop × D × List (Nat × Ae)) :=
 match d with
 | .optr g v i off=>.go g fun
  | some (v',o)=>do
   let (c,e',w) <- pas (Ad g) (o.es.getD 0 .top)
   pure ((v = v' /\ i = 0 /\ off = 0 /\ o.fz = false /\ o.var = true /\ o.es.length = 1 /\ o.s = s /\ o.ty = ty) /\ c,e',w)
  | none=>.ret (False,.top,[])
 | _=>.ret (False,.top,[])
def EF (r : Bool) (s ty : Nat) (d : D) : R (Prop × D × Nat) :=
 match d with
 | .osl g v i n=>.go g fun
  | some (v',o)=>.ret (v = v' /\ i = 0 /\ n <= o.es.length /\ o.fz = false /\ o.var = false /\ o.s = s /\ o.ty = ty /\ Ad g = r /\ (r = true -> ∀ e ∈ o.es,∀ c ∈ cells e,∀ nm u m,c ≠ .hole nm u m),.sl (o.es.take n),g)
  | none=>.ret (False,.top,0)
 | _=>.ret (False,.top,0)
def AL : List Bb -> R (Prop × List D × List (Nat × Ae))
 | []=>.ret (True,[],[])
 | r :: rs=>do
  let (c,d,w) <- EG r
  let (c',ds,w') <- AL rs
  pure (c /\ c',d :: ds,w ++ w')
def BV : List (Nat × (Nat × Nat)) -> R (Prop × List D × List (Nat × Ae))
 | []=>.ret (True,[],[])
 | (j,(s,ty)) :: r=>do
  let (c,e,w) <- Is s ty (.optr (8192 + j) j 0 0)
  let (c',es,w') <- BV r
  pure (c /\ c',e :: es,w ++ w')
def EL (ptr : List (Nat × (Nat × Nat))) : Nat -> List D -> List Nat
 | _,[]=>[]
 | j,_ :: r=>(match look ptr j with | some _=>[j] | none=>[]) ++ EL ptr (j + 1) r
def BR (ptr : List (Nat × (Nat × Nat))) : Nat -> List D -> List Nat
 | _,[]=>[]
 | j,d :: r=>(match look ptr j with | some _=>[j] | none=>match d with | .clo _ caps=>EL ptr (64 * (j + 1)) caps | _=>[]) ++ BR ptr (j + 1) r
def DW (ptr : List (Nat × (Nat × Nat))) : Nat -> List D -> List D
 | _,[]=>[]
 | j,d :: r=>(match look ptr j with | some _=>.optr (8192 + j) j 0 0 | none=>d) :: DW ptr (j + 1) r
def GB (ptr : List (Nat × (Nat × Nat))) (j : Nat) (d : D) : D :=
 match look ptr j with
 | some _=>.optr (8192 + j) j 0 0
 | none=>match d with | .clo f caps=>.clo f (DW ptr (64 * (j + 1)) caps) | d=>d
def DG (ptr : List (Nat × (Nat × Nat))) : Nat -> List D -> List (Nat × D)
 | _,[]=>[]
 | j,d :: r=>(j,GB ptr j d) :: DG ptr (j + 1) r
def He (ptr : List (Nat × (Nat × Nat))) : Nat -> List D -> List (Nat × Ae)
 | _,[]=>[]
 | j,d :: r=>(match look ptr j with | some (s,ty)=>[(8192 + j,some (j,⟨false,true,s,ty,[d]⟩))] | none=>[]) ++ He ptr (j + 1) r
def CO (ptr : List (Nat × (Nat × Nat))) : Nat -> List D -> List (Nat × Ae)
 | _,[]=>[]
 | j,d :: r=>(match look ptr j with | some (s,ty)=>[(8192 + j,some (j,⟨false,true,s,ty,[d]⟩))] | none=>match d with | .clo _ caps=>He ptr (64 * (j + 1)) caps | _=>[]) ++ CO ptr (j + 1) r
def DX (sp : Spec) (ds : List D) : S:=⟨DG sp.ptr 0 ds,CO sp.ptr 0 ds,262144⟩
def Fp (ptr : List (Nat × (Nat × Nat))) : Bool:=(ptr.map Prod.fst).all (λk=>Nat.blt k 262144) && decide (ptr.map Prod.fst).Nodup
def Cx (sp : Spec) (rs : List Bb) (ds : List D) (τ : S) : Prop :=
 ((BV sp.ptr).run τ).1 /\ ((BV sp.ptr).run τ).2.1 = sp.eff ds /\
 match sp.kind,rs with
 | .val,[r] | .ground,[r]=>((EG r).run τ).1 /\ ((EG r).run τ).2.1 = sp.res ds
 | .val,rs | .ground,rs=>((AL rs).run τ).1 /\ .tup ((AL rs).run τ).2.1 = sp.res ds /\ rs.length ≠ 1
 | .row s ty,[r]=>((AH r).run τ).1 /\ ((EF false s ty ((AH r).run τ).2).run τ).1 /\ ((EF false s ty ((AH r).run τ).2).run τ).2.1 = sp.res ds /\ ((BV sp.ptr).run τ).2.2.all (λx=>x.1 != ((EF false s ty ((AH r).run τ).2).run τ).2.2) = true
 | .mat s ty,[r]=>((AH r).run τ).1 /\ ((EF true s ty ((AH r).run τ).2).run τ).1 /\ ((EF true s ty ((AH r).run τ).2).run τ).2.1 = sp.res ds /\ sp.ptr = []
 | .ptr s ty,[r]=>((AH r).run τ).1 /\ ((Cr s ty ((AH r).run τ).2).run τ).1 /\ ((Cr s ty ((AH r).run τ).2).run τ).2.1 = sp.res ds /\ Ad ((Cr s ty ((AH r).run τ).2).run τ).2.2.2 = false
 | .tupPtr q s ty,rs=>q < rs.length /\ rs.length ≠ 1 /\ sp.ptr = [] /\ ((AL (rs.take q)).run τ).1 /\ ((AL (rs.drop (q + 1))).run τ).1 /\ ((AH (rs.getD q (.t 0))).run τ).1 /\ ((Cr s ty ((AH (rs.getD q (.t 0))).run τ).2).run τ).1 /\
   .tup (((AL (rs.take q)).run τ).2.1 ++ ((Cr s ty ((AH (rs.getD q (.t 0))).run τ).2).run τ).2.1 :: ((AL (rs.drop (q + 1))).run τ).2.1) = sp.res ds
 | _,_=>False
def Ni (Γ : At) (sp : Spec) (np : Nat) (rs : List Bb) (c : AV) : Prop :=
 ∀ ds,sp.pre ds -> ds.length = np /\ BR sp.ptr 0 ds = sp.ptr.map Prod.fst -> Wk (DWp Γ c (λe τ=>match e with | .exit _=>False | _=>Wk (Cx sp rs ds) τ)) (DX sp ds)
section
variable {N : Nat} {w0 : World} {F0 : Fz} {M : Nat -> Prop} {B0 : Bt} {P : Program} {σ : S} {F : Fz} {β : Bt} {a : Act} {w : World}
theorem Ol (h : Sim N w0 F0 M B0 σ F β a w) {rv : ResultVar} {r : Bb} (hr : Ei P rv = some r) (hc : ((AH r).run σ).1) :
  ∃ v,(match rv with | .tmp t=>(pure (a.tmps.getD t undef) : Sem Value) | .cell c t=>(do loadVar t (<- asAddr (a.tmps.getD c undef)) : Sem Value)).run P w = .ok v w /\ Val F β ((AH r).run σ).2 v:=by
 cases rv with
 | tmp t =>
  simp only [Ei,Option.some.injEq] at hr
  subst hr
  simp only [AH,R.run_bind,R.run_pure] at hc ⊢
  refine ⟨_,rfl,?_⟩
  have:=(h.env t).strip (by simpa [rdA,raw] using hc)
  simpa [rdA,raw] using this
 | cell c ty =>
  simp only [Ei] at hr
  have key : ∀ (n : Nat) (agg : Bool),r = .c c n agg -> CC P ty = agg -> (P.underlying ty).isSome = true -> (agg = true -> P.info? ty ≠ none /\ n = P.cellsOf ty) -> (agg = false -> n = 1) -> ∃ v,(do loadVar ty (<- asAddr (a.tmps.getD c undef)) : Sem Value).run P w = .ok v w /\ Val F β ((AH r).run σ).2 v:=by
   rintro n agg rfl h1 h2 h3 h4
   simp only [AH,R.run_bind,R.run_pure,rdA,raw,R.run] at hc ⊢
   obtain ⟨q1,q2,q3⟩:=hc
   have hv:=(h.env c).strip q1
   obtain ⟨v,r1,r2⟩:=Kp (P:=P) h hv q2 ty n agg h1 h2 h3 h4 q3
   obtain ⟨b,o,hx,_⟩:=Jh h hv q2
   refine ⟨v,?_,r2⟩
   rw [hx] at r1 ⊢
   simpa [Instr.loadAt,Instr.sureAddr,asAddr] using r1
  split at hr
  ·rename_i hagg
   cases hr
   have hu:=Eo hagg
   obtain ⟨td,htd⟩:=Option.isSome_iff_exists.1 hu
   exact key _ _ rfl hagg hu (λ_=>⟨DS htd,rfl⟩) (λe=>by cases e)
  ·rename_i hagg
   split at hr
   ·rename_i hu
    cases hr
    exact key _ _ rfl (by simpa using hagg) hu (λe=>by cases e) (λ_=>rfl)
   ·cases hr
end
end Go.Dw
namespace Go.Dw
section
variable {N : Nat} {w0 : World} {F0 : Fz} {M : Nat -> Prop} {B0 : Bt} {P : Program} {σ : S} {F : Fz} {β : Bt} {a : Act} {w : World}
def HR (a : Act) : ResultVar -> Sem Value
 | .tmp t=>pure (a.tmps.getD t undef)
 | .cell c t=>do loadVar t (<- asAddr (a.tmps.getD c undef))
theorem MS (h : Sim N w0 F0 M B0 σ F β a w) {rv : ResultVar} {r : Bb} (hr : Ei P rv = some r) (hc : ((AH r).run σ).1) :
  ∃ v,(HR a rv).run P w = .ok v w /\ Val F β ((AH r).run σ).2 v:=by
 have:=Ol (P:=P) h hr hc
 cases rv <;> exact this
theorem Gg (h : Sim N w0 F0 M B0 σ F β a w) : ∀ (rvs : List ResultVar) (rs : List Bb),rvs.mapM (Ei P) = some rs -> (∀ r ∈ rs,((AH r).run σ).1) ->
  ∃ vs : List Value,(rvs.mapM (HR a)).run P w = .ok vs w /\ vs.length = rs.length /\ rvs.length = rs.length /\ ∀ (i : Nat) r v,rs[i]? = some r -> vs[i]? = some v -> Val F β ((AH r).run σ).2 v
 | [],rs,hm,_=>by
  simp at hm
  subst hm
  exact ⟨[],rfl,rfl,rfl,λi r v hi=>by simp at hi⟩
 | rv :: rvs,rs,hm,hc=>by
  simp only [List.mapM_cons,Option.bind_eq_bind,Option.bind_eq_some_iff] at hm
  obtain ⟨r,hr,rs',hrs,he⟩:=hm
  cases he
  obtain ⟨v,v1,v2⟩:=MS (P:=P) h hr (hc r (by simp))
  obtain ⟨vs,k1,k2,k3,k4⟩:=Gg h rvs rs' hrs (λr hr=>hc r (by simp [hr]))
  refine ⟨v :: vs,by simp [List.mapM_cons,v1,k1],by simp [k2],by simp [k3],λi r' v' hi hv=>?_⟩
  rcases i with _ | i
  ·simp only [List.getElem?_cons_zero,Option.some.injEq] at hi hv
   subst hi; subst hv
   exact v2
  ·simp only [List.getElem?_cons_succ] at hi hv
   exact k4 i r' v' hi hv
theorem Cj (h : Sim N w0 F0 M B0 σ F β a w) {fn : Func} {rs : List Bb} (hm : fn.results.toList.mapM (Ei P) = some rs) (hc : ∀ r ∈ rs,((AH r).run σ).1) :
  ∃ vs : List Value,(results fn a.tmps).run P w = .ok (if h : vs.length = 1 then vs[0] else .tuple vs.toArray) w /\ vs.length = rs.length /\ ∀ (i : Nat) r v,rs[i]? = some r -> vs[i]? = some v -> Val F β ((AH r).run σ).2 v:=by
 obtain ⟨vs,k1,k2,_,k4⟩:=Gg (P:=P) h _ rs hm hc
 refine ⟨vs,?_,k2,k4⟩
 have hmap : (fn.results.mapM (HR a)).run P w = .ok vs.toArray w:=by
  rw [Array.mapM_eq_mapM_toList]
  simp [k1]
 have e : results fn a.tmps = (do let vs <- fn.results.mapM (HR a); pure (if h : vs.size = 1 then vs[0] else .tuple vs)):=by
  unfold results
  have : (fun
   | .tmp t=>pure (a.tmps.getD t undef)
   | .cell b t=>do loadVar t (<- asAddr (a.tmps.getD b undef)) : ResultVar -> Sem Value) = HR a:=by
   funext rv; cases rv <;> rfl
  rw [<- this]
  rfl
 rw [e]
 simp only [Sem.run_bind]
 rw [hmap]
 simp only [Result.andThen_ok,Sem.run_pure]
 congr 1
theorem Ky (h : Sim N w0 F0 M B0 σ F β a w) (hdr : w0.heap.size <= w0.drawn) {s ty : Nat} {d : D} {x : Value} (hx : Val F β d x) (hc : ((Cr s ty d).run σ).1) :
  Ar σ ((Cr s ty d).run σ).2.2.1 /\ ∃ g v o b,((Cr s ty d).run σ).2.2.2 = g /\ σ.go g = some (v,o) /\ o.fz = false /\ o.var = true /\ β v = some ⟨some b,1,s⟩ /\ x = .pointer (some ⟨b,0,none⟩) /\
   ∀ (ws : List (Nat × Ae)) F',Ar σ ws -> (∀ p ∈ ((Cr s ty d).run σ).2.2.1,p ∈ ws) -> Ai F F' -> Sim N w0 F0 M B0 ⟨σ.e,ws ++ σ.o,σ.n⟩ F' β a w -> Jb F' w b s ty ((Cr s ty d).run σ).2.1 /\ (∀ i,F' b i = none) /\ b < w.heap.size /\ (w0.heap.size <= b \/ (M b /\ Ad g = true)) /\ ∃ v' o',(S.mk σ.e (ws ++ σ.o) σ.n).go g = some (v',o') /\ o'.fz = false /\ β v' = some ⟨some b,1,s⟩:=by
 cases d <;> try exact hc.elim
 case optr g v i off =>
  simp only [Cr,R.run] at hc ⊢
  cases hg : σ.go g with
  | none=>rw [hg] at hc; exact hc.elim
  | some p =>
   obtain ⟨v',o⟩:=p
   rw [hg] at hc
   simp only [R.run_bind,R.run_pure] at hc ⊢
   obtain ⟨⟨rfl,rfl,rfl,hfz,hvar,hlen,rfl,rfl⟩,hc1⟩:=hc
   obtain ⟨L,b,hL,hb,rfl⟩:=hx
   obtain ⟨L',hL',_,hk⟩:=h.own g v o hg
   rw [hL] at hL'; cases hL'
   obtain ⟨e1,e2,e3,e4,e5,e6⟩:=hk hfz
   rw [hb] at e6
   obtain ⟨C,hC,hCs,hcell⟩:=e6
   obtain ⟨e,he⟩ : ∃ e,o.es = [e]:=List.length_eq_one_iff.1 hlen
   have hge : o.es.getD 0 .top = e:=by simp [he]
   rw [hge] at hc1 ⊢
   have hX : ∀ (j : Nat) c,(cells e)[j]? = some c -> ∃ x,C[j]? = some x /\ x.oneCell' = true /\ Cel F β c x:=by
    intro j c hj
    obtain ⟨x,x1,x2,x3⟩:=hcell 0 j e c (by simp [he]) hj
    rw [hvar] at x3
    exact ⟨x,by simpa using x1,x2,by simpa using x3⟩
   obtain ⟨f1,l1,r1⟩:=Ge h e (λj=>C[j]?) hX hc1
   have hcap : L.cap = 1:=by
    rw [hvar] at e4
    simp only [if_true] at e4
    have : o.es.length = 1:=hlen
    omega
   have hLe : L = ⟨some b,1,o.s⟩:=by cases L; simp_all
   refine ⟨f1,g,v,o,b,rfl,hg,hfz,hvar,by rw [hL,hLe],by simp,λws F' q1 q2 q3 q4=>?_⟩
   have hgo : (S.mk σ.e (ws ++ σ.o) σ.n).go g = some (v,o):=by
    rcases q1.go g with ⟨v2,o2,k1,k2,_,_⟩ | ⟨_,k2⟩
    ·rw [hg] at k1; cases k1; rw [hvar] at k2; cases k2
    ·rw [k2]; exact hg
   obtain ⟨s1,s2,s3⟩:=q4.sep g v o L b hgo hfz hL hb
   replace s3 : w0.heap.size <= b \/ (M b /\ Ad g = true):=s3.elim .inl λs3=>s3.2.elim (λe=>.inr ⟨s3.1,e⟩) λe=>.inl (Nat.le_trans hdr e)
   refine ⟨⟨rfl,e2,by simp,by simp,λq hq=>?_,C,hC,by rw [hCs,hcap],λi j c' c hc' hj=>?_⟩,s1,s2,s3,v,o,hgo,hfz,by rw [hL,hLe]⟩
   ·simp only [List.mem_singleton] at hq
    subst hq
    rw [l1]
    exact e5 e (by simp [he])
   ·rcases i with _ | i
    ·simp only [List.getElem?_cons_zero,Option.some.injEq] at hc'
     subst hc'
     obtain ⟨x,x1,x2,x3⟩:=r1 ws F' q1 q2 q3 q4 j c hj
     exact ⟨x,by simpa using x1,x2,by simpa using Cel.Ah x3⟩
    ·simp at hc'
theorem Om {L : Loc} {b : Nat} (h : Sim N w0 F0 M B0 σ F β a w) {s ty g v : Nat} (hL : β v = some L) (hb : L.b = some b) (hLs : L.cap = 1 /\ L.s = s) (hc : ((Is s ty (.optr g v 0 0)).run σ).1) :
  Ar σ ((Is s ty (.optr g v 0 0)).run σ).2.2 /\ ∃ o,σ.go g = some (v,o) /\ o.fz = false /\ o.var = true /\
   ∀ (ws : List (Nat × Ae)) F' φ,Ar σ ws -> (∀ p ∈ ((Is s ty (.optr g v 0 0)).run σ).2.2,p ∈ ws) -> Ai F F' -> Sim N w0 F0 M B0 ⟨σ.e,ws ++ σ.o,σ.n⟩ F' β a w -> AG F' β w0.heap.size M ⟨σ.e,ws ++ σ.o,σ.n⟩ w φ ->
    Ff F' w ⟨b,s,ty,φ g 0⟩ ((Is s ty (.optr g v 0 0)).run σ).2.1 /\ (S.mk σ.e (ws ++ σ.o) σ.n).go g = some (v,o):=by
 simp only [Is,R.run] at hc ⊢
 cases hg : σ.go g with
 | none=>rw [hg] at hc; exact hc.elim
 | some p =>
  obtain ⟨v',o⟩:=p
  rw [hg] at hc
  simp only [R.run_bind,R.run_pure] at hc ⊢
  obtain ⟨⟨rfl,_,_,hfz,hvar,hlen,rfl,rfl⟩,hc1⟩:=hc
  obtain ⟨L',hL',_,hk⟩:=h.own g v o hg
  rw [hL] at hL'; cases hL'
  obtain ⟨e1,e2,e3,e4,e5,e6⟩:=hk hfz
  rw [hb] at e6
  obtain ⟨C,hC,hCs,hcell⟩:=e6
  obtain ⟨e,he⟩ : ∃ e,o.es = [e]:=List.length_eq_one_iff.1 hlen
  have hge : o.es.getD 0 .top = e:=by simp [he]
  rw [hge] at hc1 ⊢
  obtain ⟨hc1,hpe,hpr⟩:=Ku hc1
  have hpe' : (pas (Ad g) e).run σ = (((pas (Ad g) e).run σ).1,((res e).run σ).2):=Prod.ext rfl hpe
  rw [hpe']
  dsimp only
  have hX : ∀ (j : Nat) c,(cells e)[j]? = some c -> ∃ x,C[j]? = some x /\ x.oneCell' = true /\ Cel F β c x:=by
   intro j c hj
   obtain ⟨x,x1,x2,x3⟩:=hcell 0 j e c (by simp [he]) hj
   rw [hvar] at x3
   exact ⟨x,by simpa using x1,x2,by simpa using x3⟩
  obtain ⟨f1,l1,r1⟩:=Ge h e (λj=>C[j]?) hX hc1
  refine ⟨f1,o,rfl,hfz,hvar,λws F' φ q1 q2 q3 q4 hφ=>?_⟩
  have hgo : (S.mk σ.e (ws ++ σ.o) σ.n).go g = some (v,o):=by
   rcases q1.go g with ⟨v2,o2,k1,k2,_,_⟩ | ⟨_,k2⟩
   ·rw [hg] at k1; cases k1; rw [hvar] at k2; cases k2
   ·rw [k2]; exact hg
  obtain ⟨s1,s2,_⟩:=q4.sep g v o L b hgo hfz hL hb
  refine ⟨⟨⟨rfl,e2,by simp,by simp,λq hq=>?_,C,hC,by rw [hCs,hLs.1],λi j c' c hc' hj=>?_⟩,s1,s2,hφ.none_ g 0,hφ.lt g 0,λj b' hb' e'=>?_,λj j' b' h1 h2=>(hφ.dis _ _ _ _ _ _ _ h1 h2).2.2,λC' j x s ty es hC' hj hx=>?_,λj nm u n hj=>(hpr j _ hj).2 nm u n rfl⟩,hgo⟩
  ·simp only [List.mem_singleton] at hq
   subst hq
   rw [l1]
   exact e5 e (by simp [he])
  ·rcases i with _ | i
   ·simp only [List.getElem?_cons_zero,Option.some.injEq] at hc'
    subst hc'
    obtain ⟨x,x1,x2,x3⟩:=r1 ws F' q1 q2 q3 q4 j c hj
    exact ⟨x,by simpa using x1,x2,by simpa using Cel.Ah x3⟩
   ·simp at hc'
  ·simp only at e'
   subst e'
   exact hφ.sep g 0 j _ g v o L hb' hgo hfz hL hb
  ·obtain ⟨z1,z2⟩:=(hpr j _ hj).1 s ty es rfl
   exact hφ.row g v o L b C' 0 j e x s ty es z1 hgo hfz hL hb hC' (by simp [he]) z2 (by simpa using hx)
theorem Kz (_h : Sim N w0 F0 M B0 σ F β a w) (hdr : w0.heap.size <= w0.drawn) {r : Bool} {s ty : Nat} {d : D} {x : Value} (hx : Val F β d x) (hc : ((EF r s ty d).run σ).1) :
  ∃ es L g v o,((EF r s ty d).run σ).2.1 = .sl es /\ x = .slice (L.b.map λb=>⟨b,0,none⟩) es.length L.cap /\ Ad g = r /\ o.fz = false /\ o.s = s /\ o.ty = ty /\ β v = some L /\ (∃ n,es = o.es.take n) /\ (r = true -> ∀ e ∈ o.es,∀ c ∈ cells e,∀ nm u m,c ≠ .hole nm u m) /\
   ∀ (ws : List (Nat × Ae)) F',ws.all (λx=>x.1 != ((EF r s ty d).run σ).2.2) = true -> Ai F F' -> Sim N w0 F0 M B0 ⟨σ.e,ws ++ σ.o,σ.n⟩ F' β a w -> AA F' noB w L ⟨false,false,s,ty,es⟩ /\ (S.mk σ.e (ws ++ σ.o) σ.n).go g = some (v,o) /\ ∀ b,L.b = some b -> (w0.heap.size <= b \/ (r = true /\ M b)) /\ b < w.heap.size /\ ∀ i,F' b i = none:=by
 cases d <;> try exact hc.elim
 case osl g v i n =>
  simp only [EF,R.run] at hc ⊢
  cases hg : σ.go g with
  | none=>rw [hg] at hc; exact hc.elim
  | some p =>
   obtain ⟨v',o⟩:=p
   rw [hg] at hc
   simp only [R.run] at hc ⊢
   obtain ⟨rfl,rfl,hn,hfz,hvar,rfl,rfl,hrg,hnh⟩:=hc
   obtain ⟨L,a',hL,rfl,hcap,ha,_⟩:=hx
   refine ⟨o.es.take n,L,g,v,o,rfl,by rw [ha rfl]; simp [Nat.min_eq_left hn],hrg,hfz,rfl,rfl,hL,⟨n,rfl⟩,hnh,λws F' hws hF hS=>?_⟩
   have hgo : (S.mk σ.e (ws ++ σ.o) σ.n).go g = some (v,o):=by
    have : look ws g = none:=by
     cases hl : look ws g with
     | none=>rfl
     | some y =>
      have:=List.all_eq_true.1 hws _ (Bn hl)
      simp at this
    simp only [S.go,BQ,this,Option.none_or]
    exact hg
   obtain ⟨L',hL',_,hk⟩:=hS.own g v o hgo
   rw [hL] at hL'; cases hL'
   obtain ⟨e1,e2,e3,e4,e5,e6⟩:=hk hfz
   refine ⟨⟨e1,e2,?_,?_,λe he=>e5 e (List.mem_of_mem_take he),?_⟩,hgo,λb hb=>?_⟩
   ·simp only [List.length_take]; omega
   ·simpa [hvar] using e4
   ·cases hb : L.b with
    | none=>rw [hb] at e6; exact ⟨e6.1,rfl⟩
    | some b =>
     rw [hb] at e6
     obtain ⟨C,hC,hCs,hcell⟩:=e6
     refine ⟨C,hC,hCs,λi j e d he hd=>?_⟩
     have he' : o.es[i]? = some e:=by
      rw [List.getElem?_take] at he
      split at he
      ·exact he
      ·cases he
     obtain ⟨x,x1,x2,x3⟩:=hcell i j e d he' hd
     rw [hvar] at x3
     exact ⟨x,x1,x2,by simpa using x3⟩
   ·obtain ⟨s1,s2,s3⟩:=hS.sep g v o L b hgo hfz hL hb
    replace s3 : w0.heap.size <= b \/ (M b /\ Ad g = true):=s3.elim .inl λs3=>s3.2.elim (λe=>.inr ⟨s3.1,e⟩) λe=>.inl (Nat.le_trans hdr e)
    refine ⟨?_,s2,s1⟩
    rcases s3 with s3 | s3
    ·exact .inl s3
    ·rw [hrg] at s3
     exact .inr ⟨s3.2,s3.1⟩
theorem Fs (h : Sim N w0 F0 M B0 σ F β a w) : ∀ (rs : List Bb) (vs : List Value),rs.length = vs.length -> (∀ (i : Nat) r v,rs[i]? = some r -> vs[i]? = some v -> ((AH r).run σ).1 -> Val F β ((AH r).run σ).2 v) -> ((AL rs).run σ).1 ->
  Ar σ ((AL rs).run σ).2.2 /\ ((AL rs).run σ).2.1.length = vs.length /\ ∀ (ws : List (Nat × Ae)) F',Ar σ ws -> (∀ p ∈ ((AL rs).run σ).2.2,p ∈ ws) -> Ai F F' -> Sim N w0 F0 M B0 ⟨σ.e,ws ++ σ.o,σ.n⟩ F' β a w ->
   ∀ (j : Nat) c v,((AL rs).run σ).2.1[j]? = some c -> vs[j]? = some v -> Fro F' c v
 | [],vs,hl,_,_=>⟨Ar.nil σ,by simpa [AL,R.run] using hl,λ_ _ _ _ _ _ j c v hj=>by simp [AL] at hj⟩
 | r :: rs,[],hl,_,_=>by simp at hl
 | r :: rs,v :: vs,hl,hv,hc=>by
  simp only [AL,EG,R.run_bind,R.run_pure] at hc ⊢
  obtain ⟨⟨c1,c2⟩,c3⟩:=hc
  obtain ⟨f1,r1⟩:=Gf h _ (hv 0 r v rfl rfl c1) c2
  obtain ⟨f2,l2,r2⟩:=Fs h rs vs (by simpa using hl) (λi r' v' h1 h2=>hv (i + 1) r' v' (by simpa using h1) (by simpa using h2)) c3
  refine ⟨f1.append f2,by simp [l2],λws F' q1 q2 q3 q4 j c v' hj hv'=>?_⟩
  rcases j with _ | j
  ·simp only [List.getElem?_cons_zero,Option.some.injEq] at hj hv'
   subst hj; subst hv'
   exact r1 ws F' q1 (λp hp=>q2 p (by simp [hp])) q3 q4
  ·simp only [List.getElem?_cons_succ] at hj hv'
   exact r2 ws F' q1 (λp hp=>q2 p (by simp [hp])) q3 q4 j c v' hj hv'
theorem DK : ∀ (rs : List Bb),((AL rs).run σ).1 -> ∀ r ∈ rs,((AH r).run σ).1
 | [],_,r,hr=>by cases hr
 | r0 :: rs,hc,r,hr=>by
  simp only [AL,EG,R.run_bind,R.run_pure] at hc
  cases hr with
  | head=>exact hc.1.1
  | tail _ hr=>exact DK rs hc.2 r hr
end
end Go.Dw
namespace Go.Dw
section
variable {N : Nat} {P : Program}
def ini (p : (Nat × D) × Hd) : Nat × Ae:=(8192 + p.1.1,some (p.1.1,⟨false,true,p.2.s,p.2.ty,[p.1.2]⟩))
structure Ini (F : Fz) (w : World) (ptr : List (Nat × (Nat × Nat))) (O : List (Nat × Ae)) (keys : List Nat) (Mb : List Hd) (K : List (Nat × D)) : Prop where
 len : K.length = Mb.length
 keys : K.map Prod.fst = keys
 obj : O = (K.zip Mb).map ini
 ok : ∀ (k : Nat) key d m,K[k]? = some (key,d) -> Mb[k]? = some m -> Ff F w m d /\ look ptr key = some (m.s,m.ty)
 apart : ∀ (k k' : Nat) m m',k < k' -> Mb[k]? = some m -> Mb[k']? = some m' -> RZ m m'
def Nam (K : List (Nat × D)) (Mb : List Hd) (PB : Bt) : Prop:=∀ (k : Nat) key d m,K[k]? = some (key,d) -> Mb[k]? = some m -> PB key = some ⟨some m.b,1,m.s⟩
theorem Nam.cons {K : List (Nat × D)} {Mb : List Hd} {p : Nat × D} {m : Hd} {PB : Bt} (h : Nam (p :: K) (m :: Mb) PB) : PB p.1 = some ⟨some m.b,1,m.s⟩ /\ Nam K Mb PB :=
 ⟨h 0 p.1 p.2 m rfl rfl,λk key d m' h1 h2=>h (k + 1) key d m' (by simpa using h1) (by simpa using h2)⟩
theorem Nam.append {K1 K2 : List (Nat × D)} {M1 M2 : List Hd} {PB : Bt} (hl : K1.length = M1.length) (h : Nam (K1 ++ K2) (M1 ++ M2) PB) : Nam K1 M1 PB /\ Nam K2 M2 PB:=by
 refine ⟨λk key d m h1 h2=>h k key d m ?_ ?_,λk key d m h1 h2=>h (K1.length + k) key d m ?_ ?_⟩
 ·rw [List.getElem?_append_left (List.getElem?_eq_some_iff.1 h1).1]; exact h1
 ·rw [List.getElem?_append_left (List.getElem?_eq_some_iff.1 h2).1]; exact h2
 ·rw [List.getElem?_append_right (by omega)]; simpa using h1
 ·rw [List.getElem?_append_right (by omega),show K1.length + k - M1.length = k by omega]; exact h2
theorem Ini.nil {F : Fz} {w : World} {ptr : List (Nat × (Nat × Nat))} : Ini F w ptr [] [] [] []:=⟨rfl,rfl,rfl,λk key d m h=>by simp at h,λk k' m m' _ h=>by simp at h⟩
theorem Ini.cons {F : Fz} {w : World} {ptr : List (Nat × (Nat × Nat))} {O : List (Nat × Ae)} {keys : List Nat} {Mb : List Hd} {K : List (Nat × D)} (h : Ini F w ptr O keys Mb K) {j : Nat} {d : D} {m : Hd} (hp : look ptr j = some (m.s,m.ty)) (hd : Ff F w m d) (hM : ∀ m' ∈ Mb,RZ m m') :
  Ini F w ptr ((8192 + j,some (j,⟨false,true,m.s,m.ty,[d]⟩)) :: O) (j :: keys) (m :: Mb) ((j,d) :: K):=by
 refine ⟨by simp [h.len],by simp [h.keys],by simp [h.obj,ini],λk key d' m' h1 h2=>?_,λk k' m1 m2 hlt h1 h2=>?_⟩
 ·rcases k with _ | k
  ·simp only [List.getElem?_cons_zero,Option.some.injEq,Prod.mk.injEq] at h1 h2
   obtain ⟨rfl,rfl⟩:=h1
   subst h2
   exact ⟨hd,hp⟩
  ·simp only [List.getElem?_cons_succ] at h1 h2
   exact h.ok k key d' m' h1 h2
 ·rcases k' with _ | k'
  ·omega
  ·simp only [List.getElem?_cons_succ] at h2
   rcases k with _ | k
   ·simp only [List.getElem?_cons_zero,Option.some.injEq] at h1
    subst h1
    exact hM m2 (List.mem_of_getElem? h2)
   ·simp only [List.getElem?_cons_succ] at h1
    exact h.apart k k' m1 m2 (by omega) h1 h2
theorem Ini.append {F : Fz} {w : World} {ptr : List (Nat × (Nat × Nat))} {O1 O2 : List (Nat × Ae)} {k1 k2 : List Nat} {M1 M2 : List Hd} {K1 K2 : List (Nat × D)} (h1 : Ini F w ptr O1 k1 M1 K1) (h2 : Ini F w ptr O2 k2 M2 K2) (hM : ∀ m ∈ M1,∀ m' ∈ M2,RZ m m') :
  Ini F w ptr (O1 ++ O2) (k1 ++ k2) (M1 ++ M2) (K1 ++ K2):=by
 refine ⟨by simp [h1.len,h2.len],by simp [h1.keys,h2.keys],by rw [h1.obj,h2.obj,List.zip_append h1.len,List.map_append],λk key d m q1 q2=>?_,λk k' m m' hlt q1 q2=>?_⟩
 ·by_cases hk : k < K1.length
  ·rw [List.getElem?_append_left hk] at q1
   rw [List.getElem?_append_left (by rw [<- h1.len]; exact hk)] at q2
   exact h1.ok k key d m q1 q2
  ·rw [List.getElem?_append_right (by omega)] at q1
   rw [List.getElem?_append_right (by rw [<- h1.len]; omega),<- h1.len] at q2
   exact h2.ok _ key d m q1 q2
 ·by_cases hk : k' < M1.length
  ·rw [List.getElem?_append_left (by omega)] at q1
   rw [List.getElem?_append_left hk] at q2
   exact h1.apart k k' m m' hlt q1 q2
  ·rw [List.getElem?_append_right (by omega)] at q2
   by_cases hk2 : k < M1.length
   ·rw [List.getElem?_append_left hk2] at q1
    exact hM m (List.mem_of_getElem? q1) m' (List.mem_of_getElem? q2)
   ·rw [List.getElem?_append_right (by omega)] at q1
    exact h2.apart _ _ m m' (by omega) q1 q2
theorem MI {F : Fz} {w : World} {ptr : List (Nat × (Nat × Nat))} {j : Nat} {ds : List D} {xs : List Value} {Mb : List Hd} (h : Dg F w ptr j ds xs Mb) :
  ∃ K,Ini F w ptr (He ptr j ds) (EL ptr j ds) Mb K /\ (DW ptr j ds).length = xs.length /\ ∀ PB,Nam K Mb PB -> ∀ (q : Nat) d x,(DW ptr j ds)[q]? = some d -> xs[q]? = some x -> Ref F PB d x:=by
 induction h with
 | nil j=>exact ⟨[],Ini.nil,rfl,λPB _ q d x hq=>by simp [DW] at hq⟩
 | val j d ds x xs M hp hx _ ih =>
  obtain ⟨K,k1,k2,k3⟩:=ih
  refine ⟨K,by simpa [He,EL,hp] using k1,by simp [DW,k2],λPB hPB q d' x' hq hx'=>?_⟩
  simp only [DW,hp] at hq
  rcases q with _ | q
  ·simp only [List.getElem?_cons_zero,Option.some.injEq] at hq hx'
   subst hq; subst hx'
   exact Ref.Ah hx
  ·simp only [List.getElem?_cons_succ] at hq hx'
   exact k3 PB hPB q d' x' hq hx'
 | ptr j d ds xs M m hp hd hM _ ih =>
  obtain ⟨K,k1,k2,k3⟩:=ih
  refine ⟨(j,d) :: K,by simpa [He,EL,hp] using k1.cons hp hd hM,by simp [DW,k2],λPB hPB q d' x' hq hx'=>?_⟩
  obtain ⟨n1,n2⟩:=hPB.cons
  simp only [DW,hp] at hq
  rcases q with _ | q
  ·simp only [List.getElem?_cons_zero,Option.some.injEq] at hq hx'
   subst hq; subst hx'
   exact ⟨_,m.b,n1,rfl,by simp⟩
  ·simp only [List.getElem?_cons_succ] at hq hx'
   exact k3 PB n2 q d' x' hq hx'
theorem MH {F : Fz} {w : World} {ptr : List (Nat × (Nat × Nat))} {j : Nat} {ds : List D} {xs : List Value} {Mb : List Hd} (h : Cd F w ptr j ds xs Mb) :
  ∃ K,Ini F w ptr (CO ptr j ds) (BR ptr j ds) Mb K /\ ∀ PB,Nam K Mb PB -> ∀ t d,look (DG ptr j ds) t = some d -> ∃ x,j <= t /\ xs[t - j]? = some x /\ Env F PB d x:=by
 have tail : ∀ {j : Nat} {d0 : D} {ds : List D} {x0 : Value} {xs : List Value} {PB : Bt},Env F PB (GB ptr j d0) x0 -> (∀ t d,look (DG ptr (j + 1) ds) t = some d -> ∃ x,j + 1 <= t /\ xs[t - (j + 1)]? = some x /\ Env F PB d x) ->
   ∀ t d,look (DG ptr j (d0 :: ds)) t = some d -> ∃ x,j <= t /\ (x0 :: xs)[t - j]? = some x /\ Env F PB d x:=by
  intro j d0 ds x0 xs PB h0 hr t d ht
  simp only [DG,look] at ht
  split at ht
  ·rename_i e
   cases ht
   subst e
   exact ⟨x0,Nat.le_refl _,by simp,h0⟩
  ·obtain ⟨x',q1,q2,q3⟩:=hr t d ht
   refine ⟨x',by omega,?_,q3⟩
   rw [show t - j = (t - (j + 1)) + 1 by omega,List.getElem?_cons_succ]
   exact q2
 induction h with
 | nil j=>exact ⟨[],Ini.nil,λPB _ t d ht=>by simp [DG,look] at ht⟩
 | val j d ds x xs M hp hn hx _ ih =>
  obtain ⟨K,k1,k3⟩:=ih
  have hm : CO ptr j (d :: ds) = CO ptr (j + 1) ds /\ BR ptr j (d :: ds) = BR ptr (j + 1) ds /\ GB ptr j d = d:=by
   cases d <;> first | exact (hn _ _ rfl).elim | (refine ⟨?_,?_,?_⟩ <;> simp [CO,BR,GB,hp])
  obtain ⟨m1,m2,m3⟩:=hm
  rw [m1,m2]
  exact ⟨K,k1,λPB hPB=>tail (by rw [m3]; exact Env.Ah hx) (k3 PB hPB)⟩
 | ptr j d ds xs M m hp hd hM _ ih =>
  obtain ⟨K,k1,k3⟩:=ih
  refine ⟨(j,d) :: K,by simpa [CO,BR,hp] using k1.cons hp hd hM,λPB hPB=>?_⟩
  obtain ⟨n1,n2⟩:=hPB.cons
  exact tail (by simp only [GB,hp]; exact ⟨_,m.b,n1,rfl,by simp⟩) (k3 PB n2)
 | clo j f caps vs ds xs M1 M2 hp hc hM _ ih =>
  obtain ⟨K,k1,k3⟩:=ih
  obtain ⟨K1,c1,c2,c3⟩:=MI hc
  refine ⟨K1 ++ K,by simpa [CO,BR,hp] using c1.append k1 hM,λPB hPB=>?_⟩
  obtain ⟨n1,n2⟩:=hPB.append c1.len
  exact tail (by simp only [GB,hp]; exact ⟨vs,rfl,c2,c3 PB n1⟩) (k3 PB n2)
theorem MY {sp : Spec} {F : Fz} {w : World} {ds : List D} {xs : List Value} {Mb : List Hd} (hF : Fok F w) (hfin : ∀ b i x,F b i = some x -> b < w.heap.size) (h : Cd F w sp.ptr 0 ds xs Mb) {k : Nat} (hN : xs.length + k = N)
  (hok : Fp sp.ptr = true) (hkeys : BR sp.ptr 0 ds = sp.ptr.map Prod.fst) :
  ∃ (PB : Bt) (K : List (Nat × D)),Sim N { w with drawn:=w.heap.size } F (Wr Mb) PB (DX sp ds) F PB { tmps:=xs.toArray ++ Array.replicate k undef,defers:=[] } w /\ (∀ v,262144 <= v -> PB v = none) /\ Nam K Mb PB /\ K.length = Mb.length /\ K.map Prod.fst = sp.ptr.map Prod.fst /\
   ∀ (i : Nat) key d m,K[i]? = some (key,d) -> Mb[i]? = some m -> look sp.ptr key = some (m.s,m.ty):=by
 obtain ⟨K,hI,hE⟩:=MH h
 simp only [Fp,Bool.and_eq_true,decide_eq_true_eq] at hok
 obtain ⟨hlt,hnd⟩:=hok
 have hKn : (K.map Prod.fst).Nodup:=by rw [hI.keys,hkeys]; exact hnd
 have hzl : (K.zip Mb).length = K.length:=by simp [hI.len]
 have huk : ∀ (i i' : Nat) key d d',K[i]? = some (key,d) -> K[i']? = some (key,d') -> i = i':=by
  intro i i' key d d' h1 h2
  have e1 : (K.map Prod.fst)[i]? = some key:=by simp [h1]
  have e2 : (K.map Prod.fst)[i']? = some key:=by simp [h2]
  have l1:=(List.getElem?_eq_some_iff.1 e1).1
  exact (List.getElem?_inj l1 hKn).1 (e1.trans e2.symm)
 let PB : Bt:=λv=>((K.zip Mb).find? λp=>p.1.1 == v).map λp=>⟨some p.2.b,1,p.2.s⟩
 have hPB : ∀ v L,PB v = some L -> ∃ (i : Nat) (d : D) (m : Hd),K[i]? = some (v,d) /\ Mb[i]? = some m /\ L = ⟨some m.b,1,m.s⟩:=by
  intro v L hv
  simp only [PB,Option.map_eq_some_iff] at hv
  obtain ⟨⟨⟨key,d⟩,m⟩,h1,rfl⟩:=hv
  have hk:=List.find?_some h1
  simp only [beq_iff_eq] at hk
  subst hk
  obtain ⟨i,hi⟩:=List.getElem?_of_mem (List.mem_of_find?_eq_some h1)
  rw [List.getElem?_zip_eq_some] at hi
  exact ⟨i,d,m,hi.1,hi.2,rfl⟩
 have hnam : Nam K Mb PB:=by
  intro i key d m h1 h2
  have hm : ((key,d),m) ∈ K.zip Mb:=List.mem_of_getElem? (i:=i) (by rw [List.getElem?_zip_eq_some]; exact ⟨h1,h2⟩)
  cases hf : (K.zip Mb).find? λp=>p.1.1 == key with
  | none =>
   have:=List.find?_eq_none.1 hf _ hm
   simp at this
  | some p =>
   have hv : PB key = some ⟨some p.2.b,1,p.2.s⟩:=by simp only [PB,hf]; rfl
   obtain ⟨i',d',m',q1,q2,q3⟩:=hPB key _ hv
   have:=huk i i' key d d' h1 q1
   subst this
   rw [h2] at q2; cases q2
   rw [hv,q3]
 have hgo : ∀ g v o,(DX sp ds).go g = some (v,o) -> ∃ (i : Nat) (d : D) (m : Hd),K[i]? = some (v,d) /\ Mb[i]? = some m /\ g = 8192 + v /\ o = ⟨false,true,m.s,m.ty,[d]⟩:=by
  intro g v o hg
  simp only [S.go,DX] at hg
  cases hl : look (CO sp.ptr 0 ds) g with
  | none=>rw [hl] at hg; cases hg
  | some y =>
   rw [hl] at hg
   simp only [Option.getD_some] at hg
   subst hg
   have hm:=Bn hl
   rw [hI.obj,List.mem_map] at hm
   obtain ⟨⟨⟨key,d⟩,m⟩,h1,h2⟩:=hm
   obtain ⟨i,hi⟩:=List.getElem?_of_mem h1
   rw [List.getElem?_zip_eq_some] at hi
   simp only [ini,Prod.mk.injEq,Option.some.injEq] at h2
   obtain ⟨rfl,rfl,rfl⟩:=h2
   exact ⟨i,d,m,hi.1,hi.2,rfl,rfl⟩
 have hap : ∀ (i i' : Nat) m m' b,Mb[i]? = some m -> Mb[i']? = some m' -> m.own b -> m'.own b -> i = i':=by
  intro i i' m m' b h1 h2 h3 h4
  rcases Nat.lt_trichotomy i i' with hl | hl | hl
  ·exact (hI.apart i i' m m' hl h1 h2 b h3 h4).elim
  ·exact hl
  ·exact (hI.apart i' i m' m hl h2 h1 b h4 h3).elim
 refine ⟨PB,K,?_,?_,hnam,hI.len,by rw [hI.keys,hkeys],λi key d m h1 h2=>(hI.ok i key d m h1 h2).2⟩
 ·refine { nam:=Aw.refl _,size:=by simp [hN],defers:=rfl,env:=λt=>?_,own:=?_,dist:=?_,sep:=?_,Ad:=?_,frz:=hF,fin:=hfin,step:=⟨rfl,rfl,rfl,Nat.le_refl _,λ_ _ _=>rfl,Ai.refl F,λ_ _ _ _=>rfl⟩ }
  ·simp only [S.ge,DX]
   cases hl : look (DG sp.ptr 0 ds) t with
   | none=>exact Env.top _
   | some d =>
    obtain ⟨x,_,q2,q3⟩:=hE PB hnam t d hl
    simp only [Nat.sub_zero] at q2
    have hlt : t < xs.length:=(List.getElem?_eq_some_iff.1 q2).1
    have : (xs.toArray ++ Array.replicate k undef).getD t undef = x:=by
     rw [Array.getD_eq_getD_getElem?,Array.getElem?_append_left (by simpa using hlt)]
     simp [q2]
    simp only [Option.getD_some,this]
    exact q3
  ·intro g v o hg
   obtain ⟨i,d,m,h1,h2,rfl,rfl⟩:=hgo g v o hg
   exact ⟨_,hnam i v d m h1 h2,λe=>(by cases e),λ_=>(hI.ok i v d m h1 h2).1.var.BS (Ai.refl _) (Ip _) (λ_ _=>rfl)⟩
  ·intro g g' v v' o o' L L' b hg hg' _ _ hL hL' hb hb'
   obtain ⟨i,d,m,h1,h2,rfl,_⟩:=hgo g v o hg
   obtain ⟨i',d',m',h1',h2',rfl,_⟩:=hgo g' v' o' hg'
   rw [hnam i v d m h1 h2] at hL; cases hL; cases hb
   rw [hnam i' v' d' m' h1' h2'] at hL'; cases hL'
   have hbb : m'.b = m.b:=Option.some.inj hb'
   have:=hap i i' m m' m.b h2 h2' (.inl rfl) (.inl hbb.symm)
   subst this
   rw [h1] at h1'; cases h1'; rfl
  ·intro g v o L b hg _ hL hb
   obtain ⟨i,d,m,h1,h2,rfl,rfl⟩:=hgo g v o hg
   rw [hnam i v d m h1 h2] at hL; cases hL; cases hb
   have hz:=(hI.ok i v d m h1 h2).1
   exact ⟨hz.none_,hz.lt,.inr ⟨⟨m,List.mem_of_getElem? h2,.inl rfl⟩,by simp [Ad]; omega⟩⟩
  ·refine ⟨λg i j b=>∃ (q : Nat) (key : Nat) (d : D) (m : Hd),K[q]? = some (key,d) /\ Mb[q]? = some m /\ g = 8192 + key /\ i = 0 /\ m.φ j b,?_,?_,?_,?_,?_,?_,?_⟩
   ·intro g v o L b C i j e x s ty es _ hg _ hL hb hC he hj hx
    obtain ⟨q,d,m,h1,h2,rfl,rfl⟩:=hgo g v o hg
    rw [hnam q v d m h1 h2] at hL; cases hL; cases hb
    rcases i with _ | i
    ·simp only [List.getElem?_cons_zero,Option.some.injEq] at he
     subst he
     exact ((hI.ok q v d m h1 h2).1.row C j x s ty es hC hj (by simpa using hx)).BS (Ai.refl _) (λ_ _=>rfl) (λb hb=>⟨q,v,d,m,h1,h2,rfl,rfl,hb⟩)
    ·simp at he
   ·intro g v o L b C i j e x nm u n _ hg _ hL hb hC he hj hx
    obtain ⟨q,d,m,h1,h2,rfl,rfl⟩:=hgo g v o hg
    rcases i with _ | i
    ·simp only [List.getElem?_cons_zero,Option.some.injEq] at he
     subst he
     exact ((hI.ok q v d m h1 h2).1.hole j _ u n hj).elim
    ·simp at he
   ·rintro g i j b ⟨q,key,d,m,h1,h2,_,_,hb⟩
    exact (hI.ok q key d m h1 h2).1.fno j b hb
   ·rintro g i j b ⟨q,key,d,m,h1,h2,_,_,hb⟩
    exact (hI.ok q key d m h1 h2).1.flt j b hb
   ·rintro g i j b ⟨q,key,d,m,h1,h2,_,_,hb⟩
    exact .inr ⟨m,List.mem_of_getElem? h2,.inr ⟨j,hb⟩⟩
   ·rintro g i j b g' v' o' L' ⟨q,key,d,m,h1,h2,_,_,hb⟩ hg' _ hL' hLb
    obtain ⟨q',d',m',h1',h2',rfl,rfl⟩:=hgo g' v' o' hg'
    rw [hnam q' v' d' m' h1' h2'] at hL'; cases hL'
    have hbb : m'.b = b:=Option.some.inj hLb
    have:=hap q q' m m' b h2 h2' (.inr ⟨j,hb⟩) (.inl hbb.symm)
    subst this
    rw [h2] at h2'; cases h2'
    exact (hI.ok q key d m h1 h2).1.fne j b hb hbb.symm
   ·rintro g i j g' i' j' b ⟨q,key,d,m,h1,h2,rfl,rfl,hb⟩ ⟨q',key',d',m',h1',h2',rfl,rfl,hb'⟩
    have:=hap q q' m m' b h2 h2' (.inr ⟨j,hb⟩) (.inr ⟨j',hb'⟩)
    subst this
    rw [h1] at h1'; cases h1'
    rw [h2] at h2'; cases h2'
    exact ⟨rfl,rfl,(hI.ok q key d m h1 h2).1.dis j j' b hb hb'⟩
 ·intro v hv
  cases hh : PB v with
  | none=>rfl
  | some L =>
   obtain ⟨i,d,m,h1,_⟩:=hPB v L hh
   have hm : v ∈ sp.ptr.map Prod.fst:=by
    rw [<- hkeys,<- hI.keys]
    exact List.mem_map.2 ⟨_,List.mem_of_getElem? h1,rfl⟩
   have:=List.all_eq_true.1 hlt v hm
   simp only [Nat.blt_eq] at this
   omega
section
variable {w0 : World} {F0 : Fz} {M : Nat -> Prop} {B0 : Bt} {σ : S} {F : Fz} {β : Bt} {a : Act} {w : World}
theorem Ki (h : Sim N w0 F0 M B0 σ F β a w) : ∀ (ptr : List (Nat × (Nat × Nat))) (Ms : List Hd),ptr.length = Ms.length -> (∀ (k : Nat) key s ty m,ptr[k]? = some (key,(s,ty)) -> Ms[k]? = some m -> s = m.s /\ ty = m.ty /\ β key = some ⟨some m.b,1,m.s⟩) -> ((BV ptr).run σ).1 ->
  Ar σ ((BV ptr).run σ).2.2 /\ (∀ (k : Nat) key s ty m,ptr[k]? = some (key,(s,ty)) -> Ms[k]? = some m -> ∃ o,σ.go (8192 + key) = some (key,o) /\ o.fz = false /\ o.var = true) /\
   ∀ (ws : List (Nat × Ae)) F' φ,Ar σ ws -> (∀ p ∈ ((BV ptr).run σ).2.2,p ∈ ws) -> Ai F F' -> Sim N w0 F0 M B0 ⟨σ.e,ws ++ σ.o,σ.n⟩ F' β a w -> AG F' β w0.heap.size M ⟨σ.e,ws ++ σ.o,σ.n⟩ w φ ->
    ∀ (k : Nat) key s ty m,ptr[k]? = some (key,(s,ty)) -> Ms[k]? = some m -> Ff F' w ⟨m.b,m.s,m.ty,φ (8192 + key) 0⟩ (((BV ptr).run σ).2.1.getD k .top) /\ ∃ o,(S.mk σ.e (ws ++ σ.o) σ.n).go (8192 + key) = some (key,o) /\ o.fz = false
 | [],_,_,_,_=>⟨Ar.nil σ,λk key s ty m hk=>by simp at hk,λ_ _ _ _ _ _ _ _ k key s ty m hk=>by simp at hk⟩
 | _ :: _,[],hl,_,_=>by simp at hl
 | (j,(s,ty)) :: ptr,m :: Ms,hl,hB,hc=>by
  simp only [BV,R.run_bind,R.run_pure] at hc ⊢
  obtain ⟨c1,c2⟩:=hc
  obtain ⟨rfl,rfl,hβ⟩:=hB 0 j s ty m rfl rfl
  obtain ⟨f1,o,g1,g2,g3,r1⟩:=Om h hβ rfl ⟨rfl,rfl⟩ c1
  obtain ⟨f2,g4,r2⟩:=Ki h ptr Ms (by simpa using hl) (λk key s ty m' h1 h2=>hB (k + 1) key s ty m' (by simpa using h1) (by simpa using h2)) c2
  refine ⟨f1.append f2,λk key s ty m' h1 h2=>?_,λws F' φ q1 q2 q3 q4 q5 k key s ty m' h1 h2=>?_⟩
  ·rcases k with _ | k
   ·simp only [List.getElem?_cons_zero,Option.some.injEq,Prod.mk.injEq] at h1
    obtain ⟨rfl,_⟩:=h1
    exact ⟨o,g1,g2,g3⟩
   ·simp only [List.getElem?_cons_succ] at h1 h2
    exact g4 k key s ty m' h1 h2
  ·rcases k with _ | k
   ·simp only [List.getElem?_cons_zero,Option.some.injEq,Prod.mk.injEq] at h1 h2
    obtain ⟨rfl,_⟩:=h1
    subst h2
    obtain ⟨z1,z2⟩:=r1 ws F' φ q1 (λp hp=>q2 p (by simp [hp])) q3 q4 q5
    exact ⟨by simpa using z1,o,z2,g2⟩
   ·simp only [List.getElem?_cons_succ] at h1 h2
    have:=r2 ws F' φ q1 (λp hp=>q2 p (by simp [hp])) q3 q4 q5 k key s ty m' h1 h2
    simpa using this
end
theorem Hu {α : Type} {l : List α} {q i : Nat} {x : α} (h : (l.take q)[i]? = some x) : l[i]? = some x:=by
 rw [List.getElem?_take] at h
 split at h
 ·exact h
 ·cases h
theorem Kg (ptr : List (Nat × (Nat × Nat))) : ∀ (j : Nat) (ds : List D),∀ p ∈ He ptr j ds,∀ v o,p.2 = some (v,o) -> o.fz = false
 | _,[],p,hp=>by cases hp
 | j,d :: r,p,hp=>by
  unfold He at hp
  rcases List.mem_append.1 hp with hp | hp
  ·intro v o e
   split at hp
   ·simp only [List.mem_singleton] at hp; subst hp; cases e; rfl
   ·cases hp
  ·exact Kg ptr (j + 1) r p hp
theorem Jv (ptr : List (Nat × (Nat × Nat))) : ∀ (j : Nat) (ds : List D),∀ p ∈ CO ptr j ds,∀ v o,p.2 = some (v,o) -> o.fz = false
 | _,[],p,hp=>by cases hp
 | j,d :: r,p,hp=>by
  unfold CO at hp
  rcases List.mem_append.1 hp with hp | hp
  ·intro v o e
   split at hp
   ·simp only [List.mem_singleton] at hp; subst hp; cases e; rfl
   ·split at hp
    ·exact Kg ptr _ _ p hp v o e
    ·cases hp
  ·exact Jv ptr (j + 1) r p hp
theorem Lm {sp : Spec} {ds : List D} {PB : Bt} {F : Fz} {w : World} {a : Act} {M : Nat -> Prop} {B0 : Bt} {F0 : Fz} {w0 : World} (h : Sim N w0 F0 M B0 (DX sp ds) F PB a w) : ∀ g v o,(DX sp ds).go g = some (v,o) -> o.s ≠ 0:=by
 intro g v o hg
 refine h.HN hg ?_
 have hl : look (DX sp ds).o g = some (some (v,o)):=by
  unfold S.go at hg
  cases hx : look (DX sp ds).o g with
  | none=>rw [hx] at hg; cases hg
  | some x=>rw [hx] at hg; simp only [Option.getD_some] at hg; rw [hg]
 exact Jv sp.ptr 0 ds _ (Bn hl) v o rfl
theorem ON {Γ : At} (hΓ : ∀ k sp,Γ k = some sp -> Lo P (k % 4096) sp) {f : Nat} {fn : Func} {c : Code} {sp : Spec} {dc : AV} {rs : List Bb} (hf : P.funcs[f]? = some fn) (hname : (fn.name == "runtime.NumGoroutine") = false) (hb : fn.body = some c)
  (hc : BF P fn.ntmps c = some dc) (hr : fn.results.toList.mapM (Ei P) = some rs) {np : Nat} (hnp : np <= fn.ntmps) (hpre : ∀ ds,sp.pre ds -> ds.length = np /\ BR sp.ptr 0 ds = sp.ptr.map Prod.fst) (hptr : Fp sp.ptr = true) (hok : Ni Γ sp np rs dc) (hni : Cm sp.kind = none) (hno : Ey sp.kind = none:=by rfl) : Lo P f sp:=by
 intro F00 hG0
 refine ⟨⟨fn,hf,hname,by rw [hb]; rfl⟩,(λq hq=>by rw [hni] at hq; cases hq),λ_ _ w F ds xs Mb hsub0 hF hfin hA hp=>?_,(λφ hφ=>by rw [hno] at hφ; cases hφ),hG0⟩
 have hΓ : ∀ k sp,Γ k = some sp -> BN P F (k % 4096) sp:=λk sp h=>hΓ k sp h F (hG0.mono hsub0)
 have hlen : ds.length = xs.length:=by
  clear hp
  generalize 0 = j at hA
  induction hA with
  | nil=>rfl
  | val _ _ _ _ _ _ _ _ _ _ ih=>simp [ih]
  | ptr _ _ _ _ _ _ _ _ _ _ ih=>simp [ih]
  | clo _ _ _ _ _ _ _ _ _ _ _ _ ih=>simp [ih]
 obtain ⟨hdl,hkeys⟩:=hpre ds hp
 obtain ⟨PB,K,hS,hfresh,hnam,hKl,hKf,hKp⟩:=MY (N:=fn.ntmps) (k:=fn.ntmps - xs.length) hF hfin hA (by omega) hptr hkeys
 refine calls_of_wp hf hb ?_
 have e0 : (xs.toArray.size) = xs.length:=by simp
 rw [e0]
 obtain ⟨τ0,hchg0,hok0⟩:=hok ds hp ⟨hdl,hkeys⟩
 obtain ⟨F00,B00,hS0,hfresh0⟩:=(AD.of hS (Nat.le_refl _) (Lm hS)).chg hfresh hchg0
 refine wp_mono (Ce hΓ c dc hc _ τ0 F00 B00 _ w hS0 hfresh0 hok0) λe a' w' hq=>?_
 obtain ⟨τ1,F1,β1,k1',kf1,k3⟩:=hq
 replace k1':=k1'.sim
 have fin0 : ∀ τ F' β',Sim fn.ntmps { w with drawn:=w.heap.size } F (Wr Mb) PB τ F' β' a' w' -> Cx sp rs ds τ -> (a'.defers = [] /\ ∃ v,(results fn a'.tmps).run P w' = .ok v w' /\ Du sp w F ds Mb (.returned v) w'):=by
  intro τ F' β' k1
  rintro ⟨r1,r2,r3⟩
  have hpl : sp.ptr.length = Mb.length:=by
   have:=congrArg List.length hKf
   simpa [hKl] using this.symm
  have hnd : (sp.ptr.map Prod.fst).Nodup:=by
   simp only [Fp,Bool.and_eq_true,decide_eq_true_eq] at hptr
   exact hptr.2
  have hBk : ∀ (k : Nat) key s ty m,sp.ptr[k]? = some (key,(s,ty)) -> Mb[k]? = some m -> s = m.s /\ ty = m.ty /\ β' key = some ⟨some m.b,1,m.s⟩:=by
   intro k key s ty m h1 h2
   have hkl : k < K.length:=by rw [hKl]; exact (List.getElem?_eq_some_iff.1 h2).1
   obtain ⟨⟨key',d⟩,hK⟩ : ∃ p,K[k]? = some p:=⟨_,List.getElem?_eq_getElem hkl⟩
   have e1 : (K.map Prod.fst)[k]? = some key':=by simp [hK]
   have e2 : (sp.ptr.map Prod.fst)[k]? = some key:=by simp [h1]
   rw [hKf,e2] at e1
   cases e1
   have hl:=hKp k key d m hK h2
   have hl2 : look sp.ptr key = some (s,ty):=by
    cases hq : look sp.ptr key with
    | none=>exact absurd (List.mem_of_getElem? h1) (Ex hq _)
    | some y =>
     have hm:=Bn hq
     obtain ⟨k',hk'⟩:=List.getElem?_of_mem hm
     have e3 : (sp.ptr.map Prod.fst)[k']? = some key:=by simp [hk']
     have:=(List.getElem?_inj (List.getElem?_eq_some_iff.1 e2).1 hnd).1 (e2.trans e3.symm)
     subst this
     rw [h1] at hk'; cases hk'; rfl
   rw [hl2] at hl
   cases hl
   exact ⟨rfl,rfl,k1.nam _ _ (hnam k key d m hK h2)⟩
  obtain ⟨fe,ge,be⟩:=Ki k1 sp.ptr Mb hpl hBk r1
  have ending : ∀ (ws : List (Nat × Ae)) (v : Value) (ρ : Nat -> Prop),Ar τ ws -> (∀ p ∈ ((BV sp.ptr).run τ).2.2,p ∈ ws) -> (∀ F2 φ,Ai F' F2 -> Sim fn.ntmps { w with drawn:=w.heap.size } F (Wr Mb) PB ⟨τ.e,ws ++ τ.o,τ.n⟩ F2 β' a' w' -> AG F2 β' w.heap.size (Wr Mb) ⟨τ.e,ws ++ τ.o,τ.n⟩ w' φ -> Nk w F2 w' (sp.res ds) v (λb=>ρ b \/ (Mb = [] /\ ∃ g i j,φ g i j b)) sp.kind /\ (Mb ≠ [] -> ∀ g j b,φ g 0 j b -> ¬ ρ b)) ->
    Du sp w F ds Mb (.returned v) w':=by
   intro ws v ρ hws hsub hres
   obtain ⟨F2,hF2,hS2,_⟩:=k1.freeze hws
   obtain ⟨φ,hφ⟩:=hS2.Ad
   obtain ⟨q1,q2⟩:=hres F2 φ hF2 hS2 hφ
   have hbe:=be ws F2 φ hws hsub hF2 hS2 hφ
   have hpk : ∀ (k : Nat) m,Mb[k]? = some m -> ∃ key s ty,sp.ptr[k]? = some (key,(s,ty)):=by
    intro k m hk
    have hlt : k < sp.ptr.length:=by rw [hpl]; exact (List.getElem?_eq_some_iff.1 hk).1
    exact ⟨_,_,_,List.getElem?_eq_getElem hlt⟩
   refine ⟨v,F2,λk j b=>∃ key st m,sp.ptr[k]? = some (key,st) /\ Mb[k]? = some m /\ φ (8192 + key) 0 j b,_,rfl,hS2.frz,hS2.fin,⟨hS2.step.os,hS2.step.tape,hS2.step.output,hS2.step.size,hS2.step.block,hS2.step.sub,hS2.step.old⟩,q1,?_,?_⟩
   ·rw [<- r2]
    refine ⟨λk m hk=>?_,λk j b ⟨key,st,m,h1,h2,_⟩=>(List.getElem?_eq_some_iff.1 h2).1,λk j b ⟨key,st,m,h1,h2,h3⟩=>hφ.new _ _ _ _ h3,λk j k' j' b ⟨key,st,m,h1,h2,h3⟩ ⟨key',st',m',h1',h2',h3'⟩=>?_,λk j b m ⟨key,st,m1,h1,h2,h3⟩ hm e=>?_⟩
    ·obtain ⟨key,s,ty,hp⟩:=hpk k m hk
     have hz:=(hbe k key s ty m hp hk).1
     refine ⟨hz.var,hz.none_,hz.lt,?_,?_,?_,?_,?_,hz.hole⟩
     ·rintro j b ⟨key',st,m',h1,h2,h3⟩
      rw [hp] at h1; cases h1
      exact hz.fno j b h3
     ·rintro j b ⟨key',st,m',h1,h2,h3⟩
      rw [hp] at h1; cases h1
      exact hz.flt j b h3
     ·rintro j b ⟨key',st,m',h1,h2,h3⟩
      rw [hp] at h1; cases h1
      exact hz.fne j b h3
     ·rintro j j' b ⟨key',st,m',h1,h2,h3⟩ ⟨key'',st',m'',h1',h2',h3'⟩
      rw [hp] at h1; cases h1
      rw [hp] at h1'; cases h1'
      exact hz.dis j j' b h3 h3'
     ·intro C j x s' ty' es hC hj hx
      exact (hz.row C j x s' ty' es hC hj hx).BS (Ai.refl _) (λ_ _=>rfl) (λb hb=>⟨key,(s,ty),m,hp,hk,hb⟩)
    ·have hkk:=(hφ.dis _ _ _ _ _ _ _ h3 h3').1
     have : key = key':=by omega
     subst this
     have e2 : (sp.ptr.map Prod.fst)[k]? = some key:=by simp [h1]
     have e3 : (sp.ptr.map Prod.fst)[k']? = some key:=by simp [h1']
     exact (List.getElem?_inj (List.getElem?_eq_some_iff.1 e2).1 hnd).1 (e2.trans e3.symm)
    ·obtain ⟨k',hk'⟩:=List.getElem?_of_mem hm
     obtain ⟨key',s',ty',hp'⟩:=hpk k' m hk'
     obtain ⟨_,o',z1,z2⟩:=hbe k' key' s' ty' m hp' hk'
     obtain ⟨_,_,hβ⟩:=hBk k' key' s' ty' m hp' hk'
     subst e
     exact hφ.sep _ _ _ _ _ _ _ _ h3 z1 z2 hβ rfl
   ·rintro k j b ⟨key,st,m,h1,h2,h3⟩ (hρ | ⟨hM0,_⟩)
    ·exact q2 (λe=>by rw [e] at h2; simp at h2) _ _ _ h3 hρ
    ·rw [hM0] at h2; simp at h2
  refine ⟨k1.defers,?_⟩
  have one : (sp.kind = .val \/ sp.kind = .ground) -> ∀ r,rs = [r] -> ((EG r).run τ).1 -> ((EG r).run τ).2.1 = sp.res ds -> ∃ v,(results fn a'.tmps).run P w' = .ok v w' /\ Du sp w F ds Mb (.returned v) w':=by
   rintro hk r rfl c1 c2
   simp only [EG,R.run_bind,R.run_pure] at c1 c2
   obtain ⟨d1,d2⟩:=c1
   obtain ⟨vs,v1,v2,v3⟩:=Cj (P:=P) k1 hr (λr' hr'=>by simp only [List.mem_singleton] at hr'; subst hr'; exact d1)
   have hl1 : vs.length = 1:=v2
   rw [dif_pos hl1] at v1
   refine ⟨_,v1,?_⟩
   have hval:=v3 0 r vs[0] rfl (List.getElem?_eq_getElem (by omega))
   obtain ⟨f1,g1⟩:=Gf k1 _ hval d2
   refine ending (((res ((AH r).run τ).2).run τ).2.2 ++ ((BV sp.ptr).run τ).2.2) _ (λ_=>False) (f1.append fe) (λp hp=>by simp [hp]) (λF2 φ hF2 hS2 _=>⟨?_,λ_ _ _ _ _=>id⟩)
   have:=g1 _ F2 (f1.append fe) (λp hp=>by simp [hp]) hF2 hS2
   rw [c2] at this
   rcases hk with hk | hk <;> (rw [hk]; exact this)
  have many : (sp.kind = .val \/ sp.kind = .ground) -> ((AL rs).run τ).1 -> .tup ((AL rs).run τ).2.1 = sp.res ds -> rs.length ≠ 1 -> ∃ v,(results fn a'.tmps).run P w' = .ok v w' /\ Du sp w F ds Mb (.returned v) w':=by
   intro hk c1 c2 c3
   obtain ⟨vs,v1,v2,v3⟩:=Cj (P:=P) k1 hr (DK rs c1)
   have hl1 : ¬ vs.length = 1:=by rw [v2]; exact c3
   rw [dif_neg hl1] at v1
   refine ⟨_,v1,?_⟩
   obtain ⟨f1,l1,g1⟩:=Fs k1 rs vs v2.symm (λi r v h1 h2 _=>v3 i r v h1 h2) c1
   refine ending (((AL rs).run τ).2.2 ++ ((BV sp.ptr).run τ).2.2) _ (λ_=>False) (f1.append fe) (λp hp=>by simp [hp]) (λF2 φ hF2 hS2 _=>⟨?_,λ_ _ _ _ _=>id⟩)
   have hh:=g1 _ F2 (f1.append fe) (λp hp=>by simp [hp]) hF2 hS2
   have : Fro F2 (sp.res ds) (.tuple vs.toArray):=by
    rw [<- c2]
    exact .tup _ vs l1 hh
   rcases hk with hk | hk <;> (rw [hk]; exact this)
  cases hk : sp.kind with
  | inpl r fl fk=>rw [hk] at hni; cases hni
  | opn q=>rw [hk] at hno; cases hno
  | val =>
   rw [hk] at r3
   match rs,r3,one,many with
   | [r],r3,one,_=>exact one (.inl hk) r rfl r3.1 r3.2
   | [],r3,_,many=>exact many (.inl hk) r3.1 r3.2.1 r3.2.2
   | _ :: _ :: _,r3,_,many=>exact many (.inl hk) r3.1 r3.2.1 r3.2.2
  | ground =>
   rw [hk] at r3
   match rs,r3,one,many with
   | [r],r3,one,_=>exact one (.inr hk) r rfl r3.1 r3.2
   | [],r3,_,many=>exact many (.inr hk) r3.1 r3.2.1 r3.2.2
   | _ :: _ :: _,r3,_,many=>exact many (.inr hk) r3.1 r3.2.1 r3.2.2
  | row s ty =>
   rw [hk] at r3
   match rs,r3,hr with
   | [r],⟨d1,d2,d3,d4⟩,hr =>
    obtain ⟨vs,v1,v2,v3⟩:=Cj (P:=P) k1 hr (λr' hr'=>by simp only [List.mem_singleton] at hr'; subst hr'; exact d1)
    have hl1 : vs.length = 1:=v2
    rw [dif_pos hl1] at v1
    refine ⟨_,v1,?_⟩
    have hval:=v3 0 r vs[0] rfl (List.getElem?_eq_getElem (by omega))
    obtain ⟨es,L,g,v,o,g1,g2,n1,n2,n3,n4,n5,n6,n7,g3⟩:=Kz k1 (Nat.le_refl _) hval d2
    refine ending _ _ (λb=>L.b = some b) fe (λp hp=>hp) (λF2 φ hF2 hS2 hφ=>?_)
    obtain ⟨g4,g6,g5⟩:=g3 _ F2 d4 hF2 hS2
    rw [hk]
    refine ⟨⟨es,L,d3.symm.trans g1,g2,g4,λb hb=>⟨((g5 b hb).1).resolve_right (λz=>by cases z.1),(g5 b hb).2.1,(g5 b hb).2.2,.inl hb⟩⟩,λ_ g' j b hb hLb=>?_⟩
    exact hφ.sep g' 0 j b g v o L hb g6 n2 n5 hLb
   | [],r3,_=>exact r3.elim
   | _ :: _ :: _,r3,_=>exact r3.elim
  | mat s ty =>
   rw [hk] at r3
   match rs,r3,hr with
   | [r],⟨d1,d2,d3,d4⟩,hr =>
    obtain ⟨vs,v1,v2,v3⟩:=Cj (P:=P) k1 hr (λr' hr'=>by simp only [List.mem_singleton] at hr'; subst hr'; exact d1)
    have hl1 : vs.length = 1:=v2
    rw [dif_pos hl1] at v1
    refine ⟨_,v1,?_⟩
    have hval:=v3 0 r vs[0] rfl (List.getElem?_eq_getElem (by omega))
    have hM0 : Mb = []:=Dh d4 hA
    have hpe : (BV sp.ptr).run τ = (True,[],[]):=by rw [d4]; rfl
    obtain ⟨es,L,g,v,o,g1,g2,n1,n2,n3,n4,n5,⟨n0,rfl⟩,n7,g3⟩:=Kz k1 (Nat.le_refl _) hval d2
    refine ending [] _ (λb=>L.b = some b) (Ar.nil _) (λp hp=>by rw [hpe] at hp; cases hp) (λF2 φ hF2 hS2 hφ=>?_)
    obtain ⟨g4,g6,g5⟩:=g3 [] F2 (by simp) hF2 hS2
    have hidx : ∀ (i : Nat) e,(o.es.take n0)[i]? = some e -> o.es[i]? = some e:=λi e he=>Hu he
    have hnew : ∀ b,w.heap.size <= b \/ Wr Mb b -> w.heap.size <= b:=by
     rintro b (hb | ⟨m,hm,_⟩)
     ·exact hb
     ·rw [hM0] at hm; cases hm
    rw [hk]
    refine ⟨⟨_,L,λi j b=>φ g i j b,d3.symm.trans g1,g2,g4,λb hb=>⟨hnew b ((g5 b hb).1.imp id And.right),(g5 b hb).2.1,(g5 b hb).2.2,.inl hb⟩,λi j b hb=>⟨hnew b (hφ.new _ _ _ _ hb),hφ.lt _ _ _ _ hb,hφ.none_ _ _ _ _ hb,.inr ⟨hM0,g,i,j,hb⟩,hφ.sep g i j b g v o L hb g6 n2 n5⟩,
     λi j i' j' b h1 h2=>(hφ.dis _ _ _ _ _ _ _ h1 h2).2,λb C i j e x s' ty' es' hb hC he hj hx=>hφ.row g v o L b C i j e x s' ty' es' n1 g6 n2 n5 hb (by rw [n4]; exact hC) (hidx i e he) hj (by rw [n3]; exact hx),λi j e nm u n he hj=>n7 rfl e (List.mem_of_getElem? (hidx i e he)) _ (List.mem_of_getElem? hj) nm u n rfl⟩,λhne=>absurd hM0 hne⟩
   | [],r3,_=>exact r3.elim
   | _ :: _ :: _,r3,_=>exact r3.elim
  | ptr s ty =>
   rw [hk] at r3
   match rs,r3,hr with
   | [r],⟨d1,d2,d3,d4⟩,hr =>
    obtain ⟨vs,v1,v2,v3⟩:=Cj (P:=P) k1 hr (λr' hr'=>by simp only [List.mem_singleton] at hr'; subst hr'; exact d1)
    have hl1 : vs.length = 1:=v2
    rw [dif_pos hl1] at v1
    refine ⟨_,v1,?_⟩
    have hval:=v3 0 r vs[0] rfl (List.getElem?_eq_getElem (by omega))
    obtain ⟨f1,g,v,o,b,g1,g2,g3,g4,g5,g6,g7⟩:=Ky k1 (Nat.le_refl _) hval d2
    refine ending (((Cr s ty ((AH r).run τ).2).run τ).2.2.1 ++ ((BV sp.ptr).run τ).2.2) _ (λb'=>b' = b) (f1.append fe) (λp hp=>by simp [hp]) (λF2 φ hF2 hS2 hφ=>?_)
    obtain ⟨z1,z2,z3,z4,v',o',z5,z6,z7⟩:=g7 _ F2 (f1.append fe) (λp hp=>by simp [hp]) hF2 hS2
    rw [hk]
    refine ⟨⟨b,g6,by rw [<- d3]; exact z1,z4.resolve_right (λz=>by rw [g1] at d4; rw [d4] at z; cases z.2),z3,z2,.inl rfl⟩,λ_ g' j b' hb e=>?_⟩
    subst e
    exact hφ.sep g' 0 j _ g v' o' _ hb z5 z6 z7 rfl
   | [],r3,_=>exact r3.elim
   | _ :: _ :: _,r3,_=>exact r3.elim
  | tupPtr q s ty =>
   rw [hk] at r3
   have r3' : q < rs.length /\ rs.length ≠ 1 /\ sp.ptr = [] /\ ((AL (rs.take q)).run τ).1 /\ ((AL (rs.drop (q + 1))).run τ).1 /\ ((AH (rs.getD q (.t 0))).run τ).1 /\ ((Cr s ty ((AH (rs.getD q (.t 0))).run τ).2).run τ).1 /\
     .tup (((AL (rs.take q)).run τ).2.1 ++ ((Cr s ty ((AH (rs.getD q (.t 0))).run τ).2).run τ).2.1 :: ((AL (rs.drop (q + 1))).run τ).2.1) = sp.res ds:=by
    cases rs with
    | nil=>exact r3
    | cons r0 rs=>cases rs <;> exact r3
   obtain ⟨t1,t2,t3,t4,t5,t6,t7,t8⟩:=r3'
   have hq : rs[q]? = some (rs.getD q (.t 0)):=by simp [t1]
   generalize rs.getD q (.t 0) = rq at *
   have hsplit : rs = rs.take q ++ rq :: rs.drop (q + 1):=by
    obtain ⟨hl,he⟩:=List.getElem?_eq_some_iff.1 hq
    rw [<- he,<- List.drop_eq_getElem_cons hl,List.take_append_drop]
   have conds : ∀ r ∈ rs,((AH r).run τ).1:=by
    intro r hr'
    rw [hsplit,List.mem_append,List.mem_cons] at hr'
    rcases hr' with h1 | rfl | h1
    ·exact DK _ t4 r h1
    ·exact t6
    ·exact DK _ t5 r h1
   obtain ⟨vs,v1,v2,v3⟩:=Cj (P:=P) k1 hr conds
   rw [dif_neg (by rw [v2]; exact t2)] at v1
   refine ⟨_,v1,?_⟩
   have hvl : q < vs.length:=by omega
   have hvq : vs[q]? = some vs[q]:=List.getElem?_eq_getElem hvl
   obtain ⟨fP,g,v,o,b,g1,g2,g3,g4,g5,g6,g7⟩:=Ky k1 (Nat.le_refl _) (v3 q rq vs[q] hq hvq) t7
   obtain ⟨fA,lA,gA⟩:=Fs k1 (rs.take q) (vs.take q) (by simp [v2]) (λi r v h1 h2 _=>v3 i r v (Hu h1) (Hu h2)) t4
   obtain ⟨fB,lB,gB⟩:=Fs k1 (rs.drop (q + 1)) (vs.drop (q + 1)) (by simp [v2]) (λi r v h1 h2 _=>v3 (q + 1 + i) r v (by rw [<- List.getElem?_drop]; exact h1) (by rw [<- List.getElem?_drop]; exact h2)) t5
   refine ending (((AL (rs.take q)).run τ).2.2 ++ (((Cr s ty ((AH rq).run τ).2).run τ).2.2.1 ++ (((AL (rs.drop (q + 1))).run τ).2.2 ++ ((BV sp.ptr).run τ).2.2))) _ (λb'=>b' = b) (fA.append (fP.append (fB.append fe))) (λp hp=>by simp [hp]) (λF2 φ hF2 hS2 _=>⟨?_,λhne=>absurd (Dh t3 hA) hne⟩)
   have hws:=fA.append (fP.append (fB.append fe))
   obtain ⟨z1,z2,z3,z4⟩:=g7 _ F2 hws (λp hp=>by simp [hp]) hF2 hS2
   have zA:=gA _ F2 hws (λp hp=>by simp [hp]) hF2 hS2
   have zB:=gB _ F2 hws (λp hp=>by simp [hp]) hF2 hS2
   have lA' : ((AL (rs.take q)).run τ).2.1.length = q:=by rw [lA]; simp; omega
   rw [hk]
   refine ⟨_,vs,b,t8.symm,rfl,?_,?_,?_,?_,?_,z3,z2,.inl rfl⟩
   ·simp only [List.length_append,List.length_cons,lA',lB,List.length_drop]; omega
   ·intro j c x hj hc hx
    rcases Nat.lt_trichotomy j q with h1 | h1 | h1
    ·rw [List.getElem?_append_left (by omega)] at hc
     exact zA j c x hc (by rw [List.getElem?_take]; simp [h1,hx])
    ·exact absurd h1 hj
    ·obtain ⟨i,rfl⟩ : ∃ i,j = q + 1 + i:=⟨j - (q + 1),by omega⟩
     rw [List.getElem?_append_right (by omega),lA',show q + 1 + i - q = i + 1 by omega,List.getElem?_cons_succ] at hc
     exact zB i c x hc (by rw [List.getElem?_drop]; exact hx)
   ·rw [hvq,g6]
   ·rw [List.getD_eq_getElem?_getD,List.getElem?_append_right (by omega),lA',Nat.sub_self]
    exact z1
   ·rcases z4.1 with z4 | ⟨⟨m,hm,_⟩,_⟩
    ·exact z4
    ·rw [Dh t3 hA] at hm; cases hm
 have fin : Wk (Cx sp rs ds) τ1 -> (a'.defers = [] /\ ∃ v,(results fn a'.tmps).run P w' = .ok v w' /\ Du sp w F ds Mb (.returned v) w'):=by
  rintro ⟨τ,hc1,hr1⟩
  obtain ⟨F',β',k1,_⟩:=k1'.chg kf1 hc1
  exact fin0 τ F' β' k1 hr1
 cases e with
 | normal=>exact fin k3
 | ret=>exact fin k3
 | exit id=>exact k3.elim
 | goto l=>exact k3.elim
 | panic ch=>exact k3.elim
 | outgrown=>exact k3.elim
end
end Go.Dw
namespace Go.Dw
theorem Od {P : Program} {Γ : At} (hΓ : ∀ k sp,Γ k = some sp -> Lo P (k % 4096) sp) {f : Nat} {fn : Func} {sp : Spec} {dc : AV} {rs : List Bb} (hf : P.funcs[f]? = some fn) (hname : (fn.name == "runtime.NumGoroutine") = false)
  (hc : (fn.body.bind (BF P fn.ntmps)) = some dc) (hr : fn.results.toList.mapM (Ei P) = some rs) {np : Nat} (hnp : np <= fn.ntmps) (hpre : ∀ ds,sp.pre ds -> ds.length = np /\ BR sp.ptr 0 ds = sp.ptr.map Prod.fst) (hptr : Fp sp.ptr = true) (hok : Ni Γ sp np rs dc) (hni : Cm sp.kind = none) (hno : Ey sp.kind = none:=by rfl) : Lo P f sp:=by
 rw [Option.bind_eq_some_iff] at hc
 obtain ⟨c,hb,hc⟩:=hc
 exact ON hΓ hf hname hb hc hr hnp hpre hptr hok hni hno
def specs (l : List (Nat × Spec)) : At:=λk=>look l k
theorem RI {P : Program} {l : List (Nat × Spec)} (h : ∀ p ∈ l,Lo P (p.1 % 4096) p.2) : ∀ k sp,specs l k = some sp -> Lo P (k % 4096) sp:=λ_k _sp hk=>h _ (Bn hk)
theorem RW {P : Program} : ∀ k sp,specs [] k = some sp -> Lo P (k % 4096) sp:=RI (λ_ h=>by cases h)
theorem UM {n : Int} (h0 : -9223372036854775808 <= n) (h1 : n <= 9223372036854775807) : IntKind.i64.wrap n = n:=by
 rw [IntKind.wrap_i64]; omega
end Go.Dw
namespace Go.Dw
def Eh : Nat -> List D -> List (Nat × D)
 | _,[]=>[]
 | j,d :: r=>(j,d) :: Eh (j + 1) r
theorem IE : ∀ (ds : List D) (j t : Nat),look (Eh j ds) t = if j <= t then ds[t - j]? else none
 | [],j,t=>by simp [Eh,look]
 | d :: r,j,t=>by
  simp only [Eh,look,IE r (j + 1) t]
  by_cases h : t = j
  ·subst h; simp
  ·rw [if_neg h]
   by_cases h2 : j + 1 <= t
   ·rw [if_pos h2,if_pos (by omega),show t - j = (t - (j + 1)) + 1 by omega,List.getElem?_cons_succ]
   ·rw [if_neg h2,if_neg (by omega)]
def Pq : D -> Bool
 | .agg _ | .tup _ | .when ..=>false
 | _=>true
def BZ (rs : List Bb) (τ : S) : Prop × D :=
 match rs with
 | [r]=>(((AH r).run τ).1,((AH r).run τ).2)
 | rs=>((∀ r ∈ rs,((AH r).run τ).1) /\ (rs.map λr=>((AH r).run τ).2).all Pq = true,.tup (rs.map λr=>((AH r).run τ).2))
def JB (rs : List Bb) (e : List (Nat × D)) (K : D -> S -> Prop) : Ay -> S -> Prop:=λx τ =>
 match x with
 | .exit _=>False
 | _=>Wk (λτ=>(BZ rs τ).1 /\ K (BZ rs τ).2 ⟨e,τ.o,τ.n⟩) τ
def MQ (Γ : At) (np : Nat) (rs : List Bb) (dc : AV) : List D -> S -> (D -> S -> Prop) -> Prop:=λds σ K =>
 ds.length = np /\ Wk (DWp Γ dc (JB rs σ.e K)) ⟨Eh 0 ds,σ.o,σ.n⟩
def JC (Γ : At) (np : Nat) (rs : List Bb) (dc : AV) : Spec:=⟨[],.opn (MQ Γ np rs dc),λ_=>False,λ_=>.top,λ_=>[]⟩
theorem Nh {F : Fz} {β : Bt} {d : D} {x : Value} (h : Val F β d x) (ht : Pq d = true) : Cel F β d x:=by
 cases d <;> first | exact h | cases ht
theorem Ql {P : Program} {Γ : At} (hΓ : ∀ k sp,Γ k = some sp -> Lo P (k % 4096) sp) {f : Nat} {fn : Func} {dc : AV} {rs : List Bb} (hf : P.funcs[f]? = some fn) (hname : (fn.name == "runtime.NumGoroutine") = false)
  (hc : (fn.body.bind (BF P fn.ntmps)) = some dc) (hr : fn.results.toList.mapM (Ei P) = some rs) {np : Nat} (hnp : np <= fn.ntmps) : Lo P f (JC Γ np rs dc):=by
 rw [Option.bind_eq_some_iff] at hc
 obtain ⟨c,hb,hc⟩:=hc
 intro F0 hG
 refine ⟨⟨fn,hf,hname,by rw [hb]; rfl⟩,λq hq=>(by cases hq),λ_ h=>(by cases h),λφ hφ=>?_,hG⟩
 cases hφ
 rintro F0' hF0' N w0 M B0 σ F β a w ds vs K hM hfr hl hv ⟨hn,τ0,hchg,hw⟩
 have h:=hM.sim
 obtain ⟨w1,F1',M1,B1,hb1,h1,hm1⟩:=hM
 have hΓ' : ∀ k sp,Γ k = some sp -> BN P F (k % 4096) sp:=λk sp hk=>hΓ k sp hk F (hG.mono (hF0'.trans h.step.sub))
 have hS : Sim fn.ntmps w1 F M1 β ⟨Eh 0 ds,σ.o,σ.n⟩ F β { tmps:=vs.toArray ++ Array.replicate (fn.ntmps - vs.toArray.size) undef,defers:=[] } w:=by
  refine { nam:=Aw.refl _,size:=by simp; omega,defers:=rfl,env:=λt=>?_,own:=h1.own,dist:=h1.dist,sep:=h1.sep,Ad:=?_,frz:=h1.frz,fin:=h1.fin,step:=⟨h1.step.os,h1.step.tape,h1.step.output,h1.step.size,h1.step.block,Ai.refl _,λ_ _ _ _=>rfl⟩ }
  ·simp only [S.ge,IE,Nat.zero_le,if_true,Nat.sub_zero]
   by_cases ht : t < ds.length
   ·have h1 : ds[t]? = some ds[t]:=List.getElem?_eq_getElem ht
    have h2 : vs[t]? = some (vs[t]'(by omega)):=List.getElem?_eq_getElem _
    rw [h1]
    have e : (vs.toArray ++ Array.replicate (fn.ntmps - vs.toArray.size) undef).getD t undef = vs[t]'(by omega):=by
     rw [Array.getD_eq_getD_getElem?,Array.getElem?_append_left (by simp; omega)]
     simp [h2]
    rw [e]
    exact Env.Ak (hv t _ _ h1 h2)
   ·rw [List.getElem?_eq_none (by omega)]
    exact Env.top _
  ·obtain ⟨φ,hφ⟩:=h1.Ad
   exact ⟨φ,hφ.congr λ_=>rfl⟩
 have hbase : Ds w0 F M β w1 F M1 β:=⟨⟨hb1.stp.os,hb1.stp.tape,hb1.stp.output,hb1.stp.size,hb1.stp.block,Ai.refl _,λ_ _ _ _=>rfl⟩,hb1.new,Aw.refl _,hb1.mark⟩
 have hSM : AD fn.ntmps w0 F M β ⟨Eh 0 ds,σ.o,σ.n⟩ F β { tmps:=vs.toArray ++ Array.replicate (fn.ntmps - vs.toArray.size) undef,defers:=[] } w :=
  ⟨w1,F,M1,β,hbase,hS,λg v o hg h0=>by
   obtain ⟨q1,b,q2,q3,q4,q5,q6,q7⟩:=hm1.at_ g v o hg h0
   exact ⟨q1,b,h1.nam _ _ q2,q3,q4,λi=>(h1.step.old b i q3 q4).trans (q5 i),q6,q7⟩,λg g' v v' o o' c1 c2 b hg hg' h0 h0' e1 e2=>by
   obtain ⟨_,b1,q2,_⟩:=hm1.at_ g v o hg h0
   obtain ⟨_,b2,q2',_⟩:=hm1.at_ g' v' o' hg' h0'
   have z1:=h1.nam _ _ q2
   have z2:=h1.nam _ _ q2'
   rw [e1] at z1; cases z1
   rw [e2] at z2; cases z2
   exact hm1.dis g g' v v' o o' _ _ b hg hg' h0 h0' q2 q2'⟩
 refine calls_of_wp hf hb ?_
 obtain ⟨F1,β1,hS1,hfr1⟩:=hSM.chg hfr hchg
 refine wp_mono (Ce hΓ' c dc hc _ τ0 F1 β1 _ w hS1 hfr1 hw) λe a' w' hq=>?_
 obtain ⟨τ1,F2,β2,k1,k2,k3⟩:=hq
 have fin : Wk (λτ=>(BZ rs τ).1 /\ K (BZ rs τ).2 ⟨σ.e,τ.o,τ.n⟩) τ1 -> (a'.defers = [] /\ ∃ v,(results fn a'.tmps).run P w' = .ok v w' /\ ∃ v' d o' n' F' β',Ending.returned v = .returned v' /\ AD N w0 F0' M B0 ⟨σ.e,o',n'⟩ F' β' a w' /\ (∀ v,n' <= v -> β' v = none) /\ Val F' β' d v' /\ K d ⟨σ.e,o',n'⟩):=by
  rintro ⟨τ,hc1,hr1,hk⟩
  obtain ⟨F',β',zM,z2⟩:=k1.chg k2 hc1
  obtain ⟨w2,F2',M2,B2,hb2,z1,hm2⟩:=zM
  have hall : ∀ r ∈ rs,((AH r).run τ).1:=by
   unfold BZ at hr1
   split at hr1
   ·intro r hr; simp only [List.mem_singleton] at hr; subst hr; exact hr1
   ·exact hr1.1
  obtain ⟨xs,r1,r2,r3⟩:=Cj (P:=P) z1 (fn:=fn) hr hall
  refine ⟨z1.defers,_,r1,_,(BZ rs τ).2,τ.o,τ.n,F',β',rfl,?_,z2,?_,hk⟩
  ·refine ⟨w2,F2',M2,B2,⟨⟨hb2.stp.os,hb2.stp.tape,hb2.stp.output,hb2.stp.size,hb2.stp.block,h.step.sub.trans hb2.stp.sub,λb i hb hM=>(hb2.stp.old b i hb hM).trans (h.step.old b i hb hM)⟩,hb2.new,h.nam.trans hb2.nam,hb2.mark⟩,?_,hm2.sub λg v o hg _=>hg⟩
   refine { nam:=z1.nam,size:=h.size,defers:=h.defers,env:=λt=>(h.env t).mono (hb2.stp.sub.trans z1.step.sub) (hb2.nam.trans z1.nam),own:=z1.own,dist:=z1.dist,sep:=z1.sep,Ad:=?_,frz:=z1.frz,fin:=z1.fin,step:=z1.step }
   obtain ⟨φ,hφ⟩:=z1.Ad
   exact ⟨φ,hφ.congr λ_=>rfl⟩
  ·unfold BZ at hr1 ⊢
   split
   ·rename_i r
    have hl1 : xs.length = 1:=by simpa using r2
    rw [dif_pos hl1]
    exact r3 0 r _ rfl (List.getElem?_eq_getElem (by omega))
   ·rename_i hne
    have hl1 : xs.length ≠ 1:=by
     intro e
     rw [r2] at e
     match rs,e with
     | [r],_=>exact hne r rfl
    rw [dif_neg hl1]
    split at hr1
    ·rename_i r; exact (hne r rfl).elim
    refine ⟨xs,rfl,by simp [r2],λj c x hj hx=>?_⟩
    have ht:=List.all_eq_true.1 hr1.2 c (List.mem_of_getElem? hj)
    rw [List.getElem?_map,Option.map_eq_some_iff] at hj
    obtain ⟨r,hj,rfl⟩:=hj
    exact Nh (r3 j r x hj hx) ht
 cases e with
 | normal=>exact fin k3
 | ret=>exact fin k3
 | exit id=>exact k3.elim
 | goto l=>exact k3.elim
 | panic ch=>exact k3.elim
 | outgrown=>exact k3.elim
end Go.Dw
namespace Go.Dw
section
variable {ι R : Type} {body : ι -> Option (ι ⊕ R)} {s : ι} {r r' : R} {n m : Nat}
def RK (body : ι -> Option (ι ⊕ R)) : Nat -> ι -> Option R
 | 0,_=>none
 | n + 1,s=>match body s with
  | none=>none
  | some (.inr r)=>some r
  | some (.inl s')=>RK body n s'
theorem Rp : RK body (n + 1) s = match body s with
  | none=>none
  | some (.inr r)=>some r
  | some (.inl s')=>RK body n s':=rfl
theorem Fl : ∀ {n m : Nat} {s : ι},RK body n s = some r -> n <= m -> RK body m s = some r
 | 0,_,_,h,_=>by cases h
 | n + 1,0,_,_,h'=>by omega
 | n + 1,m + 1,s,h,h'=>by
  rw [Rp] at h ⊢
  cases hb : body s with
  | none=>rw [hb] at h; cases h
  | some x =>
   rw [hb] at h
   cases x with
   | inr y=>exact h
   | inl s'=>exact Fl h (Nat.le_of_succ_le_succ h')
theorem Md (h : RK body n s = some r) (h' : RK body m s = some r') : r = r':=by
 have h1:=Fl h (Nat.le_max_left n m)
 have h2:=Fl h' (Nat.le_max_right n m)
 rw [h1] at h2
 exact Option.some.inj h2
open Classical in
noncomputable def RJ (body : ι -> Option (ι ⊕ R)) (s : ι) : Option R :=
 if h : ∃ r,∃ n,RK body n s = some r then some (Classical.choose h) else none
theorem Sh : RJ body s = some r ↔ ∃ n,RK body n s = some r:=by
 unfold RJ
 split
 ·rename_i h
  obtain ⟨n,hn⟩:=Classical.choose_spec h
  constructor
  ·intro e
   cases e
   exact ⟨n,hn⟩
  ·rintro ⟨m,hm⟩
   rw [Md hn hm]
 ·rename_i h
  constructor
  ·intro e; cases e
  ·rintro ⟨n,hn⟩; exact (h ⟨r,n,hn⟩).elim
theorem RO (body : ι -> Option (ι ⊕ R)) (s : ι) : RJ body s = match body s with
  | none=>none
  | some (.inr r)=>some r
  | some (.inl s')=>RJ body s':=by
 apply Option.ext
 intro r
 rw [Sh]
 cases hb : body s with
 | none =>
  simp only [reduceCtorEq,iff_false,not_exists]
  intro n hn
  cases n with
  | zero=>cases hn
  | succ n=>rw [Rp,hb] at hn; cases hn
 | some x =>
  cases x with
  | inr y =>
   constructor
   ·rintro ⟨n,hn⟩
    cases n with
    | zero=>cases hn
    | succ n=>rw [Rp,hb] at hn; exact hn
   ·intro e; exact ⟨1,by rw [Rp,hb]; exact e⟩
  | inl s' =>
   simp only [Sh]
   constructor
   ·rintro ⟨n,hn⟩
    cases n with
    | zero=>cases hn
    | succ n=>rw [Rp,hb] at hn; exact ⟨n,hn⟩
   ·rintro ⟨n,hn⟩; exact ⟨n + 1,by rw [Rp,hb]; exact hn⟩
theorem UB (I : ι -> Prop) (P : R -> Prop) (μ : ι -> Nat) (h0 : I s)
  (hb : ∀ s,I s -> (∃ s',body s = some (.inl s') /\ I s' /\ μ s' < μ s) \/ ∃ r,body s = some (.inr r) /\ P r) : ∃ r,RJ body s = some r /\ P r:=by
 generalize hk : μ s = k
 induction k using Nat.strongRecOn generalizing s with
 | _ k ih =>
  rw [RO]
  rcases hb s h0 with ⟨s',h1,h2,h3⟩ | ⟨r,h1,h2⟩
  ·rw [h1]
   exact ih (μ s') (by omega) h2 rfl
  ·rw [h1]
   exact ⟨r,rfl,h2⟩
end
def chk {R : Type} (p : Prop) [Decidable p] (t : Option R) : Option R:=if p then t else none
def ixO {α : Type} (l : List α) (i : Int) : Option α:=if i < 0 then none else l[i.toNat]?
def lft {ι R : Type} (t : Option R) : Option (ι ⊕ R):=t.map .inr
def cnt {ι R : Type} (s : ι) : Option (ι ⊕ R):=some (.inl s)
theorem Pr {R : Type} {p : Prop} [Decidable p] {t : Option R} (h : p) : chk p t = t:=if_pos h
theorem Jk {R : Type} {p : Prop} [Decidable p] {t : Option R} {r : R} (h : chk p t = some r) : p /\ t = some r:=by
 unfold chk at h
 split at h
 ·exact ⟨‹_›,h⟩
 ·cases h
theorem TU {α : Type} {l : List α} {i : Int} {x : α} (h : ixO l i = some x) : 0 <= i /\ i < l.length /\ l[i.toNat]? = some x:=by
 unfold ixO at h
 split at h
 ·cases h
 ·have:=(List.getElem?_eq_some_iff.1 h).1
  exact ⟨by omega,by omega,h⟩
section
variable {Γ : At} {R ι γ : Type}
def Has (σ : S) (E : List (Nat × D)) (O : List (Nat × Ae)) : Prop:=∃ n,Chg σ ⟨E,O,n⟩
def Tr (Γ : At) (c : AV) (K : R -> Ay -> S -> Prop) (σ : S) (t : Option R) : Prop:=∀ r,t = some r -> DWp Γ c (K r) σ
def TrX (e : Ay) (K : R -> Ay -> S -> Prop) (σ : S) (t : Option R) : Prop:=∀ r,t = some r -> K r e σ
abbrev CR:=List Key × List Key × List Nat
structure KR (R : Type) where
 N : Nat
 K : R -> Ay -> S -> Prop
def TrO (Γ : At) (ops : List Az) (nv : Nat) (σ : S) (d : Bool) (acc : List CR) (K : KR R) (t : Option R) : Prop :=
 ∀ r,t = some r -> (d = false -> wpS Γ ops nv σ (K.K r .normal)) /\ (d = true -> Dw.wpOps Γ ops nv σ (λτ=>K.K r .normal { τ with n:=K.N }) /\ EO (acc ++ Dk Γ ops nv σ) = true)
def Ek (N : Nat) (K : R -> Ay -> S -> Prop) : KR R:=⟨N,K⟩
def Jz (Γ : At) (b : AV) (K : R -> Ay -> S -> Prop) : R -> Ay -> S -> Prop:=λr=>Ay.then (Wk (DWp Γ b (K r))) (K r)
def Hj (id : Nat) (K : R -> Ay -> S -> Prop) : R -> Ay -> S -> Prop:=λr=>Ay.inBlock id (K r)
def Jy (E : ι -> γ -> List (Nat × D)) (O : ι -> γ -> List (Nat × Ae)) (j : ι -> Option R) (K : R -> Ay -> S -> Prop) : R -> Ay -> S -> Prop:=λr e τ =>
 match e with
 | .normal=>∃ s g,j s = some r /\ Has τ (E s g) (O s g)
 | e=>K r e τ
def DI (id : Nat) (E : ι -> γ -> List (Nat × D)) (O : ι -> γ -> List (Nat × Ae)) (j : ι -> Option R) (K : R -> Ay -> S -> Prop) : R -> Ay -> S -> Prop:=λr e τ =>
 match e with
 | .normal=>∃ s g,j s = some r /\ Has τ (E s g) (O s g)
 | .exit id'=>if id' = id then ∃ s g,j s = some r /\ Has τ (E s g) (O s g) else K r (.exit id') τ
 | .ret=>K r .ret τ
def HL (E : ι -> γ -> List (Nat × D)) (O : ι -> γ -> List (Nat × Ae)) (K : R -> Ay -> S -> Prop) : (ι ⊕ R) -> Ay -> S -> Prop:=λx e τ =>
 match x,e with
 | .inl s,.normal=>∃ g,Has τ (E s g) (O s g)
 | .inl _,_=>False
 | .inr _,.normal=>False
 | .inr r,e=>K r e τ
theorem Ic : ∀ (ops : List Az) (nv : Nat) (σ : S) (K K' : S -> Prop),(∀ τ,K τ -> K' τ) -> Dw.wpOps Γ ops nv σ K -> Dw.wpOps Γ ops nv σ K'
 | [],_,_,_,_,hK,h=>hK _ h
 | _ :: ops,_,_,_,_,hK,h=>⟨h.1,Ic ops _ _ _ _ hK h.2⟩
theorem Wk.mono {f g : S -> Prop} (h : ∀ τ,f τ -> g τ) {σ : S} : Wk f σ -> Wk g σ:=λ⟨τ,h1,h2⟩=>⟨τ,h1,h τ h2⟩
theorem LA {o : Az} {σ : S} {K K' : S -> Prop} (hK : ∀ τ,K τ -> K' τ) : Ie Γ o σ K -> Ie Γ o σ K':=by
 rintro ⟨h1,fa,args,f,caps,sp,φ,K0,h2,h⟩
 exact ⟨h1,fa,args,f,caps,sp,φ,K0,λτ hτ=>hK τ (h2 τ hτ),h⟩
theorem Mg {o : Az} {σ : S} {K K' : S -> Prop} (hK : ∀ τ,K τ -> K' τ) : Lr o σ K -> Lr o σ K':=by
 rintro ⟨h1,t,h2,ty,es,h3,h5⟩
 exact ⟨h1,t,h2,ty,es,h3,hK _ h5⟩
theorem FA : ∀ (ops : List Az) (nv : Nat) (σ : S) (K K' : S -> Prop),(∀ τ,K τ -> K' τ) -> wpS Γ ops nv σ K -> wpS Γ ops nv σ K'
 | [],_,_,_,_,hK,h=>hK _ h
 | _ :: ops,_,_,_,_,hK,h=>h.imp (λh=>⟨h.1,FA ops _ _ _ _ hK h.2⟩) (Or.imp (Wk.mono λ_=>LA λ_ ⟨τ,h1,h2⟩=>⟨τ,h1,FA ops _ _ _ _ hK h2⟩) (Wk.mono λ_=>Mg λ_ ⟨τ,h1,h2⟩=>⟨τ,h1,FA ops _ _ _ _ hK h2⟩))
theorem BG : ∀ (b : AV) (Q Q' : Ay -> S -> Prop) (σ : S),(∀ e τ,Q e τ -> Q' e τ) -> DWp Γ b Q σ -> DWp Γ b Q' σ
 | .skip,_,_,_,h,hd=>h _ _ hd
 | .ret,_,_,_,h,hd=>h _ _ hd
 | .exit _,_,_,_,h,hd=>h _ _ hd
 | .reg ops d,_,_,_,h,hd=>Wk.mono (λτ hq=>by
   cases d with
   | true=>rw [if_pos rfl] at hq ⊢; exact ⟨Ic ops _ _ _ _ (λ_ hq=>h _ _ hq) hq.1,hq.2⟩
   | false=>rw [if_neg (by simp)] at hq ⊢; exact FA ops _ _ _ _ (λ_ hq=>h _ _ hq) hq) hd
 | .seq a b,Q,Q',σ,h,hd=>BG a _ _ σ (λe τ hq=>by
   cases e with
   | normal=>exact Wk.mono (λτ' h'=>BG b _ _ τ' h h') hq
   | exit id=>exact h _ _ hq
   | ret=>exact h _ _ hq) hd
 | .cond c a b,Q,Q',σ,h,hd=>by
  simp only [DWp] at hd ⊢
  generalize DD σ c = d at *
  cases d <;> try exact hd.elim
  exact ⟨λht=>BG a _ _ σ h (hd.1 ht),λht=>BG b _ _ σ h (hd.2 ht)⟩
 | .block id b,Q,Q',σ,h,hd=>BG b _ _ σ (λe τ hq=>by
   cases e with
   | normal=>exact h _ _ hq
   | ret=>exact h _ _ hq
   | exit id' =>
    simp only [Ay.inBlock] at hq ⊢
    split
    ·rename_i e; rw [if_pos e] at hq; exact Wk.mono (λτ' h'=>h _ _ h') hq
    ·rename_i e; rw [if_neg e] at hq; exact h _ _ hq) hd
 | .loop b,Q,Q',σ,h,⟨ι,St,μ,i₀,h1,h2⟩=>⟨ι,St,μ,i₀,h1,λi=>BG b _ _ _ (λe τ hq=>by
   cases e with
   | normal=>exact hq
   | exit id=>exact h _ _ hq
   | ret=>exact h _ _ hq) (h2 i)⟩
variable {K : R -> Ay -> S -> Prop} {t t1 t2 : Option R} {e : List (Nat × D)} {o : List (Nat × Ae)} {n N nv : Nat} {σ τ : S} {a b : AV}
theorem Mz {ops : List Az} {d : Bool} (h : TrO Γ ops n ⟨e,o,n⟩ d [] (Ek (n + ops.length) K) t) : Tr Γ (.reg ops d) K ⟨e,o,n⟩ t :=
 λr hr=>⟨_,.refl _,by
  cases d with
  | true=>rw [if_pos rfl]; exact (h r hr).2 rfl
  | false=>rw [if_neg (by simp)]; exact (h r hr).1 rfl⟩
theorem PQ {ops : List Az} {d : Bool} {E : List (Nat × D)} {O : List (Nat × Ae)} (hh : Has ⟨e,o,n⟩ E O) (h : ∀ n,TrO Γ ops n ⟨E,O,n⟩ d [] (Ek (n + ops.length) K) t) : Tr Γ (.reg ops d) K ⟨e,o,n⟩ t :=
 λr hr=>hh.elim λm hh=>⟨_,hh,by
  cases d with
  | true=>rw [if_pos rfl]; exact (h m r hr).2 rfl
  | false=>rw [if_neg (by simp)]; exact (h m r hr).1 rfl⟩
theorem KQ {acc : List CR} (h : TrX .normal K ⟨e,o,nv⟩ t) : TrO Γ [] nv ⟨e,o,n⟩ false acc (Ek N K) t :=
 λr hr=>⟨λ_=>h r hr,λhd=>by cases hd⟩
theorem Gr {acc : List CR} (ha : EO acc = true) (h : TrX .normal K ⟨e,o,N⟩ t) : TrO Γ [] nv ⟨e,o,n⟩ true acc (Ek N K) t :=
 λr hr=>⟨λhd=>(by cases hd),λ_=>⟨h r hr,by simpa [Dk] using ha⟩⟩
def TrE (Γ : At) (c : AV) (K : R -> Ay -> S -> Prop) (σ : S) (t : Option R) : Prop:=∀ r,t = some r -> Wk (DWp Γ c (K r)) σ
theorem Pp (h : Tr Γ a K σ t) : TrE Γ a K σ t:=λr hr=>⟨_,.refl _,h r hr⟩
theorem PO {E : List (Nat × D)} {O : List (Nat × Ae)} (hh : Has σ E O) (h : ∀ n,Tr Γ a K ⟨E,O,n⟩ t) : TrE Γ a K σ t :=
 λr hr=>hh.elim λn hh=>⟨_,hh,h n r hr⟩
theorem MB (h : Tr Γ a (Jz Γ b K) σ t) : Tr Γ (.seq a b) K σ t:=h
theorem KU (h : Tr Γ b K τ t) : TrX .normal (Jz Γ b K) τ t:=λr hr=>⟨_,.refl _,h r hr⟩
theorem Pz {E : List (Nat × D)} {O : List (Nat × Ae)} (hh : Has τ E O) (h : ∀ n,Tr Γ b K ⟨E,O,n⟩ t) : TrX .normal (Jz Γ b K) τ t :=
 λr hr=>hh.elim λn hh=>⟨_,hh,h n r hr⟩
theorem Gx {id : Nat} (h : TrX (.exit id) K τ t) : TrX (.exit id) (Jz Γ b K) τ t:=h
theorem Hc (h : TrX .ret K τ t) : TrX .ret (Jz Γ b K) τ t:=h
theorem JR {id : Nat} (h : Tr Γ b (Hj id K) σ t) : Tr Γ (.block id b) K σ t:=h
theorem Fe {id : Nat} (h : TrX .normal K τ t) : TrX .normal (Hj id K) τ t:=h
theorem Ha {id : Nat} (h : TrX .ret K τ t) : TrX .ret (Hj id K) τ t:=h
theorem Gu {id : Nat} (h : TrX .normal K τ t) : TrX (.exit id) (Hj id K) τ t :=
 λr hr=>by
  show (if id = id then Wk (K r .normal) τ else K r (.exit id) τ)
  rw [if_pos rfl]
  exact ⟨_,.refl _,h r hr⟩
theorem Gt {id id' : Nat} (hne : Nat.beq id' id = false) (h : TrX (.exit id') K τ t) : TrX (.exit id') (Hj id K) τ t :=
 λr hr=>by
  show (if id' = id then Wk (K r .normal) τ else K r (.exit id') τ)
  rw [if_neg (λe=>by subst e; simp at hne)]
  exact h r hr
theorem KW (h : TrX .normal K σ t) : Tr Γ .skip K σ t:=h
theorem MA (h : TrX .ret K σ t) : Tr Γ .ret K σ t:=h
theorem KV {id : Nat} (h : TrX (.exit id) K σ t) : Tr Γ (.exit id) K σ t:=h
def Cf {α : Type} : List (Nat × α) -> Nat -> Option α
 | [],_=>none
 | (k,x) :: r,t=>bif Nat.beq t k then some x else Cf r t
theorem BW {α : Type} : ∀ (l : List (Nat × α)) (t : Nat),Cf l t = look l t
 | [],_=>rfl
 | (k,x) :: r,t=>by
  simp only [Cf,look,BW r t]
  by_cases h : t = k
  ·subst h; simp
  ·have : Nat.beq t k = false:=by
    cases hb : Nat.beq t k
    ·rfl
    ·exact absurd (Nat.eq_of_beq_eq_true hb) h
   simp [h,this]
def Ac (e : List (Nat × D)) : Arg -> Option D
 | .t n=>Cf e n
 | .c d=>some d
theorem Tx {x : Arg} {c : Bool} (hx : Ac e x = some (.bool c)) (h1 : Tr Γ a K ⟨e,o,n⟩ t1) (h2 : Tr Γ b K ⟨e,o,n⟩ t2) : Tr Γ (.cond x a b) K ⟨e,o,n⟩ (bif c then t1 else t2):=by
 intro r hr
 have hv : DD ⟨e,o,n⟩ x = .bool c:=by cases x <;> simp_all [Ac,DD,S.ge,BW]
 simp only [DWp,hv]
 cases c with
 | true=>exact ⟨λ_=>h1 r hr,λh=>by cases h⟩
 | false=>exact ⟨λh=>(by cases h),λ_=>h2 r hr⟩
theorem Gy {x : Arg} (hx : Ac e x = some (.bool true)) (h1 : Tr Γ a K ⟨e,o,n⟩ t) : Tr Γ (.cond x a b) K ⟨e,o,n⟩ t:=by
 intro r hr
 have hv : DD ⟨e,o,n⟩ x = .bool true:=by cases x <;> simp_all [Ac,DD,S.ge,BW]
 simp only [DWp,hv]
 exact ⟨λ_=>h1 r hr,λh=>(by cases h)⟩
theorem FN {x : Arg} (hx : Ac e x = some (.bool false)) (h1 : Tr Γ b K ⟨e,o,n⟩ t) : Tr Γ (.cond x a b) K ⟨e,o,n⟩ t:=by
 intro r hr
 have hv : DD ⟨e,o,n⟩ x = .bool false:=by cases x <;> simp_all [Ac,DD,S.ge,BW]
 simp only [DWp,hv]
 exact ⟨λh=>(by cases h),λ_=>h1 r hr⟩
variable {E : ι -> γ -> List (Nat × D)} {O : ι -> γ -> List (Nat × Ae)} {j : ι -> Option R}
theorem TE (h1 : Tr Γ a (Jy E O j K) σ t) (h2 : ∀ s g n,Tr Γ b K ⟨E s g,O s g,n⟩ (j s)) : Tr Γ (.seq a b) K σ t:=by
 intro r hr
 refine BG a _ _ σ (λe τ hq=>?_) (h1 r hr)
 cases e with
 | normal =>
  obtain ⟨s,g,hj,m,hw⟩:=hq
  exact ⟨_,hw,h2 s g _ r hj⟩
 | exit id=>exact hq
 | ret=>exact hq
theorem OD {s : ι} (g : γ) (h : Has τ (E s g) (O s g)) : TrX .normal (Jy E O j K) τ (j s):=λ_ hr=>⟨s,g,hr,h⟩
theorem Gv {id : Nat} (h : TrX (.exit id) K τ t) : TrX (.exit id) (Jy E O j K) τ t:=h
theorem Hb (h : TrX .ret K τ t) : TrX .ret (Jy E O j K) τ t:=h
theorem OE {id : Nat} {c : AV} (h1 : Tr Γ b (DI id E O j K) σ t) (h2 : ∀ s g n,Tr Γ c K ⟨E s g,O s g,n⟩ (j s)) : Tr Γ (.seq (.block id b) c) K σ t:=by
 intro r hr
 refine BG b _ _ σ (λe τ hq=>?_) (h1 r hr)
 cases e with
 | normal =>
  obtain ⟨s,g,hj,m,hw⟩:=hq
  exact ⟨_,hw,h2 s g _ r hj⟩
 | exit id' =>
  simp only [DI] at hq
  simp only [Ay.inBlock]
  split
  ·rename_i e
   rw [if_pos e] at hq
   obtain ⟨s,g,hj,m,hw⟩:=hq
   exact ⟨_,hw,_,.refl _,h2 s g _ r hj⟩
  ·rename_i e
   rw [if_neg e] at hq
   exact hq
 | ret=>exact hq
theorem Ib {id : Nat} {s : ι} (g : γ) (h : Has τ (E s g) (O s g)) : TrX .normal (DI id E O j K) τ (j s):=λ_ hr=>⟨s,g,hr,h⟩
theorem IY {id : Nat} {s : ι} (g : γ) (h : Has τ (E s g) (O s g)) : TrX (.exit id) (DI id E O j K) τ (j s):=λr hr=>by
 show (if id = id then _ else _)
 rw [if_pos rfl]
 exact ⟨s,g,hr,h⟩
theorem FL {id id' : Nat} (hne : Nat.beq id' id = false) (h : TrX (.exit id') K τ t) : TrX (.exit id') (DI id E O j K) τ t:=λr hr=>by
 show (if id' = id then _ else _)
 rw [if_neg (λe=>by subst e; simp at hne)]
 exact h r hr
theorem Gs {id : Nat} (h : TrX .ret K τ t) : TrX .ret (DI id E O j K) τ t:=h
theorem Nf {s : ι} (g : γ) (h : Has τ (E s g) (O s g)) : TrX .normal (HL E O K) τ (cnt s):=λr hr=>by
 cases hr
 exact ⟨g,h⟩
theorem FM {id : Nat} (h : TrX (.exit id) K τ t) : TrX (.exit id) (HL E O K) τ (lft t):=λr hr=>by
 cases t with
 | none=>cases hr
 | some x=>cases hr; exact h x rfl
theorem Gw (h : TrX .ret K τ t) : TrX .ret (HL E O K) τ (lft t):=λr hr=>by
 cases t with
 | none=>cases hr
 | some x=>cases hr; exact h x rfl
theorem Ur {body : ι -> Option (ι ⊕ R)} {s : ι} (g : γ) (h0 : Has ⟨e,o,n⟩ (E s g) (O s g)) (hb : ∀ s g n,Tr Γ b (HL E O K) ⟨E s g,O s g,n⟩ (body s)) : Tr Γ (.loop b) K ⟨e,o,n⟩ (RJ body s):=by
 intro r hr
 obtain ⟨k,hk⟩:=Sh.1 hr
 refine ⟨{ x : (ι × γ × Nat) × Nat // RK body x.2 x.1.1 = some r },λx=>⟨E x.1.1.1 x.1.1.2.1,O x.1.1.1 x.1.1.2.1,x.1.1.2.2⟩,λx=>x.1.2,⟨((s,g,h0.choose),k),hk⟩,h0.choose_spec,?_⟩
 rintro ⟨⟨⟨s,g,n⟩,k⟩,hk⟩
 simp only at hk
 cases k with
 | zero=>cases hk
 | succ k =>
  rw [Rp] at hk
  cases hx : body s with
  | none=>rw [hx] at hk; cases hk
  | some x =>
   rw [hx] at hk
   refine BG b _ _ _ (λe τ hq=>?_) (hb s g n x hx)
   cases x with
   | inr r' =>
    cases hk
    cases e with
    | normal=>exact hq.elim
    | exit id=>exact hq
    | ret=>exact hq
   | inl s' =>
    cases e with
    | normal =>
     obtain ⟨g',m,hw⟩:=hq
     exact ⟨⟨((s',g',m),k),hk⟩,Nat.lt_succ_self _,hw⟩
    | exit id=>exact hq.elim
    | ret=>exact hq.elim
end
end Go.Dw
namespace Go.Dw
def rdK : Arg -> List Key
 | .t n=>[.e n]
 | .c _=>[]
def lkO (o : List (Nat × Ae)) (g : Nat) : Ae:=(Cf o g).getD none
def gOn (e : List (Nat × D)) : Option (Nat × Bool) -> Bool
 | none=>true
 | some (t,want)=>match (Cf e t).getD .top with
  | .bool b=>b == want
  | .when p (.bool b)=>p && (b == want)
  | _=>false
def OO (e : List (Nat × D)) : Option (Nat × Bool) -> Bool
 | none=>false
 | some (t,want)=>match (Cf e t).getD .top with
  | .bool b=>!(b == want)
  | .when p (.bool b)=>!(p && (b == want))
  | _=>false
def gK : Option (Nat × Bool) -> List Key
 | none=>[]
 | some (t,_)=>[.e t]
section
variable {Γ : At} {X : Type} {K : KR X} {t t1 t2 : Option X} {e : List (Nat × D)} {o : List (Nat × Ae)} {n nv : Nat} {d : Bool} {acc : List CR}
 {r : List Az} {dst : Nat} {g : Option (Nat × Bool)} {af : List Nat} {α : Type}
@[simp] theorem BA (x : Arg) : (raw x).run ⟨e,o,n⟩ = (Ac e x).getD .top:=by cases x <;> simp [raw,Ac,BW,S.ge]
@[simp] theorem Gd (x : Arg) : (raw x).rd ⟨e,o,n⟩ = rdK x:=by cases x <;> rfl
@[simp] theorem AB (i : Nat) : (S.mk e o n).go i = lkO o i:=by simp [S.go,lkO,BW]
@[simp] theorem Al (x : Arg) : (rdA x).run ⟨e,o,n⟩ = strip ((Ac e x).getD .top):=by simp [rdA]
@[simp] theorem AX (x : Arg) : (rdA x).rd ⟨e,o,n⟩ = rdK x:=by simp [rdA]
theorem QP {α : Type} {ops : List Az} {σ : S} {m : Option α} {k : α -> Option X} (h : ∀ x,m = some x -> TrO Γ ops nv σ d acc K (k x)) : TrO Γ ops nv σ d acc K (m.bind k):=by
 intro r hr
 obtain ⟨x,hx,hk⟩:=Option.bind_eq_some_iff.1 hr
 exact h x hx r hk
theorem Le {ops : List Az} {σ : S} {p : Prop} [Decidable p] (h : p -> TrO Γ ops nv σ d acc K t) : TrO Γ ops nv σ d acc K (chk p t):=by
 intro r hr
 obtain ⟨hp,ht⟩:=Jk hr
 exact h hp r ht
theorem Am {dst : Option Nat} {op : DOp} {c : Prop} {we : List (Nat × D)} {wo : List (Nat × Ae)} {rd : List Key} (hg : gOn e g = true)
  (hu : (evalOp Γ nv dst op).run ⟨e,o,n⟩ = ⟨c,we,wo⟩) (hrd : (evalOp Γ nv dst op).rd ⟨e,o,n⟩ = rd) (hc : c)
  (h : TrO Γ r (nv + 1) ⟨we ++ e,wo ++ o,n⟩ d (acc ++ [(gK g ++ rd,we.map (λx=>.e x.1) ++ wo.map (λx=>.o x.1),af)]) K t) :
  TrO Γ (⟨dst,op,g,af⟩ :: r) nv ⟨e,o,n⟩ d acc K t:=by
 intro x hx
 obtain ⟨h1,h2⟩:=h x hx
 have key : ((Au Γ nv ⟨dst,op,g,af⟩).run ⟨e,o,n⟩).c /\ ((Au Γ nv ⟨dst,op,g,af⟩).run ⟨e,o,n⟩).we = we /\ ((Au Γ nv ⟨dst,op,g,af⟩).run ⟨e,o,n⟩).wo = wo /\
   (Au Γ nv ⟨dst,op,g,af⟩).rd ⟨e,o,n⟩ = gK g ++ rd:=by
  cases g with
  | none =>
   simp only [Au,hu,hrd,gK]
   exact ⟨hc,trivial,trivial,rfl⟩
  | some p =>
   obtain ⟨tt,want⟩:=p
   have hg2 : (guardOf ((S.mk e o n).ge tt) want).2 = true /\ (guardOf ((S.mk e o n).ge tt) want).1:=by
    simp only [gOn,BW] at hg
    simp only [S.ge]
    generalize (look e tt).getD .top = dd at *
    cases dd <;> simp_all [guardOf]
    rename_i p dd
    cases dd <;> simp_all
   simp only [Au,R.JL,R.PK,hg2.1,if_true,R.run_bind,R.AK,R.run_pure,R.Bp,hu,hrd,gK]
   exact ⟨⟨hg2.2,hc⟩,trivial,trivial,by simp⟩
 obtain ⟨k1,k2,k3,k4⟩:=key
 have happ : (S.mk e o n).app ((Au Γ nv ⟨dst,op,g,af⟩).run ⟨e,o,n⟩) = ⟨we ++ e,wo ++ o,n⟩:=by simp [S.app,k2,k3]
 refine ⟨λhd=>.inl ⟨k1,by rw [happ]; exact h1 hd⟩,λhd=>⟨⟨k1,by rw [happ]; exact (h2 hd).1⟩,?_⟩⟩
 have:=(h2 hd).2
 simp only [Dk,k2,k3,k4,happ]
 simpa using this
theorem KT {op : DOp} (hg : OO e g = true)
  (h : TrO Γ r (nv + 1) ⟨(dst,.when false (.bool false)) :: e,o,n⟩ d (acc ++ [(gK g,[.e dst],af)]) K t) : TrO Γ (⟨some dst,op,g,af⟩ :: r) nv ⟨e,o,n⟩ d acc K t:=by
 intro x hx
 obtain ⟨h1,h2⟩:=h x hx
 cases g with
 | none=>cases hg
 | some p =>
  obtain ⟨tt,want⟩:=p
  have hg2 : (guardOf ((S.mk e o n).ge tt) want).2 = false /\ (guardOf ((S.mk e o n).ge tt) want).1:=by
   simp only [OO,BW] at hg
   simp only [S.ge]
   generalize (look e tt).getD .top = dd at *
   cases dd with
   | bool b=>simp_all [guardOf]
   | when p dd =>
    cases dd with
    | bool b=>cases p <;> simp_all [guardOf]
    | _=>simp at hg
   | _=>simp at hg
  have hu : (Au Γ nv ⟨some dst,op,some (tt,want),af⟩).run ⟨e,o,n⟩ = ⟨(guardOf ((S.mk e o n).ge tt) want).1,[(dst,.when false (.bool false))],[]⟩:=by
   simp [Au,hg2.1,Af]
  have hr : (Au Γ nv ⟨some dst,op,some (tt,want),af⟩).rd ⟨e,o,n⟩ = [.e tt]:=by
   simp [Au,hg2.1]
  refine ⟨λhd=>.inl ⟨by rw [hu]; exact hg2.2,by rw [hu]; exact h1 hd⟩,λhd=>⟨⟨by rw [hu]; exact hg2.2,by rw [hu]; exact (h2 hd).1⟩,?_⟩⟩
  have:=(h2 hd).2
  simp only [Dk,hu,hr]
  simpa [gK,S.app] using this
def Em : List (Nat × D) -> Nat -> D -> List (Nat × D)
 | [],_,_=>[]
 | (k,y) :: r,t,v=>bif Nat.beq t k then (k,v) :: r else (k,y) :: Em r t v
theorem EH : ∀ {e : List (Nat × D)} {x : Nat} {v : D},Cf e x = some v -> Em e x v = e
 | [],_,_,h=>by cases h
 | (k,y) :: r,x,v,h=>by
  simp only [Cf] at h
  simp only [Em]
  cases hb : Nat.beq x k with
  | true =>
   rw [hb] at h
   cases h
   rfl
  | false =>
   rw [hb] at h
   simp only [cond_false] at h ⊢
   rw [EH h]
theorem Mx {ops : List Az} (x : Nat) {b : Bool} (hx : Cf e x = some (.bool b)) (h1 : TrO Γ ops nv ⟨Em e x (.bool true),o,n⟩ d acc K t1) (h2 : TrO Γ ops nv ⟨Em e x (.bool false),o,n⟩ d acc K t2) :
  TrO Γ ops nv ⟨e,o,n⟩ d acc K (bif b then t1 else t2):=by
 cases b with
 | true=>rw [EH hx] at h1; exact h1
 | false=>rw [EH hx] at h2; exact h2
variable {x y : Arg} {v w : D} {k k' : IntKind} {a b : Int} {s ty gi vi ii off m : Nat} {fz var : Bool} {es : List D} {z z' : D} {l l' : List α} {en : α -> D}
attribute [local simp] evalOp Af AM BO strip Bj
theorem CQ (p q u w : Nat) : strip (.optr p q u w) = (true,.optr p q u w):=rfl
theorem DZ (p : Bool) : strip (.bool p) = (true,.bool p):=rfl
theorem Mw (hg : gOn e g = true) (hx : Ac e x = some v) (h : TrO Γ r (nv + 1) ⟨(dst,v) :: e,o,n⟩ d (acc ++ [(gK g ++ rdK x,[.e dst],af)]) K t) :
  TrO Γ (⟨some dst,.mv x,g,af⟩ :: r) nv ⟨e,o,n⟩ d acc K t :=
 Am hg (c:=True) (we:=[(dst,v)]) (wo:=[]) (rd:=rdK x) (by simp [hx]) (by simp) trivial h
theorem KF (hg : gOn e g = true) (hx : Ac e x = some v) (h : TrO Γ r (nv + 1) ⟨(dst,v) :: e,o,n⟩ d (acc ++ [(gK g ++ rdK x,[.e dst],af)]) K t) :
  TrO Γ (⟨some dst,.asg x none,g,af⟩ :: r) nv ⟨e,o,n⟩ d acc K t :=
 Am hg (c:=True) (we:=[(dst,v)]) (wo:=[]) (rd:=rdK x) (by cases v <;> simp [hx]) (by cases v <;> simp [hx]) trivial h
theorem JY (hg : gOn e g = true) (en : α -> D) (hx : Ac e x = some .nils) (h : TrO Γ r (nv + 1) ⟨(dst,.osl dst nv 0 ([] : List α).length) :: e,(dst,some (nv,⟨false,false,s,ty,([] : List α).map en⟩)) :: o,n⟩ d (acc ++ [(gK g ++ rdK x,[.e dst,.o dst],af)]) K t) :
  TrO Γ (⟨some dst,.asg x (some (s,ty)),g,af⟩ :: r) nv ⟨e,o,n⟩ d acc K t :=
 Am hg (c:=True) (we:=[(dst,.osl dst nv 0 0)]) (wo:=[(dst,some (nv,⟨false,false,s,ty,[]⟩))]) (rd:=rdK x) (by simp [hx]) (by simp [hx]) trivial h
theorem HW (hg : gOn e g = true) (hx : Ac e x = some (.sl es)) (h : TrO Γ r (nv + 1) ⟨(dst,.sl es) :: e,o,n⟩ d (acc ++ [(gK g ++ rdK x,[.e dst],af)]) K t) :
  TrO Γ (⟨some dst,.asg x (some (s,ty)),g,af⟩ :: r) nv ⟨e,o,n⟩ d acc K t :=
 Am hg (c:=True) (we:=[(dst,.sl es)]) (wo:=[]) (rd:=rdK x) (by simp [hx]) (by simp [hx]) trivial h
theorem GV {s' ty' q : Nat} (hq : q = l.length) (hg : gOn e g = true) (hx : Ac e x = some (.osl gi vi 0 q)) (ho : lkO o gi = some (vi,⟨false,false,s,ty,l.map en⟩))
  (h : TrO Γ r (nv + 1) ⟨(dst,.osl dst nv 0 l.length) :: e,(dst,some (nv,⟨false,false,s,ty,l.map en⟩)) :: (gi,none) :: o,n⟩ d (acc ++ [(gK g ++ (rdK x ++ [.o gi]),[.e dst,.o dst,.o gi],af)]) K t) (hrg : Ad gi = false:=by rfl) :
  TrO Γ (⟨some dst,.asg x (some (s',ty')),g,af⟩ :: r) nv ⟨e,o,n⟩ d acc K t :=
 Am hg (c:=True) (we:=[(dst,.osl dst nv 0 l.length)]) (wo:=[(dst,some (nv,⟨false,false,s,ty,l.map en⟩)),(gi,none)]) (rd:=rdK x ++ [Key.o gi]) (by subst hq; simp [hx,ho,hrg,nmR,CS]; exact List.take_of_length_le (by simp)) (by simp [hx,ho,hrg]) trivial h
theorem GU {s' ty' q : Nat} (hg : gOn e g = true) (hx : Ac e x = some (.osl gi vi 0 q)) (ho : lkO o gi = some (vi,⟨false,false,s,ty,l.map en⟩)) (hq : q <= l.length)
  (h : TrO Γ r (nv + 1) ⟨(dst,.osl dst nv 0 (l.take q).length) :: e,(dst,some (nv,⟨false,false,s,ty,(l.take q).map en⟩)) :: (gi,none) :: o,n⟩ d (acc ++ [(gK g ++ (rdK x ++ [.o gi]),[.e dst,.o dst,.o gi],af)]) K t) (hrg : Ad gi = false:=by rfl) :
  TrO Γ (⟨some dst,.asg x (some (s',ty')),g,af⟩ :: r) nv ⟨e,o,n⟩ d acc K t :=
 Am hg (c:=True) (we:=[(dst,.osl dst nv 0 (l.take q).length)]) (wo:=[(dst,some (nv,⟨false,false,s,ty,(l.take q).map en⟩)),(gi,none)]) (rd:=rdK x ++ [Key.o gi]) (by simp [hx,ho,Nat.min_eq_left hq,hq,hrg,nmR,CS]) (by simp [hx,ho,hrg]) trivial h
theorem HV {s' ty' q : Nat} (hq : q = l.length) (hg : gOn e g = true) (hx : Ac e x = some (.osl gi vi 0 q)) (ho : lkO o gi = some (vi,⟨true,false,s,ty,l.map en⟩))
  (h : TrO Γ r (nv + 1) ⟨(dst,.sl (l.map en)) :: e,o,n⟩ d (acc ++ [(gK g ++ (rdK x ++ [.o gi]),[.e dst],af)]) K t) :
  TrO Γ (⟨some dst,.asg x (some (s',ty')),g,af⟩ :: r) nv ⟨e,o,n⟩ d acc K t :=
 Am hg (c:=True) (we:=[(dst,.sl (l.map en))]) (wo:=[]) (rd:=rdK x ++ [Key.o gi]) (by subst hq; simp [hx,ho]; exact List.take_of_length_le (by simp)) (by simp [hx,ho]) trivial h
def isB : Option D -> Bool
 | some (.bool _)=>true
 | some (.when _ (.bool _))=>true
 | _=>false
theorem Mc {x : Option D} (h : isB x = true) : ∃ (p q : Bool),strip (x.getD .top) = (p,.bool q):=by
 unfold isB at h
 split at h
 ·exact ⟨_,_,rfl⟩
 ·exact ⟨_,_,rfl⟩
 ·cases h
theorem FI {c : Arg} {p : Bool} (hg : gOn e g = true) (hc : Ac e c = some (.bool true)) (hx : Ac e x = some (.bool p)) (hy : isB (Ac e y) = true)
  (h : TrO Γ r (nv + 1) ⟨(dst,.bool p) :: e,o,n⟩ d (acc ++ [(gK g ++ (rdK c ++ (rdK x ++ rdK y)),[.e dst],af)]) K t) :
  TrO Γ (⟨some dst,.pick c x y,g,af⟩ :: r) nv ⟨e,o,n⟩ d acc K t:=by
 obtain ⟨b1,q,hq'⟩:=Mc hy
 refine Am hg (c:=True) (we:=[(dst,.bool p)]) (wo:=[]) (rd:=rdK c ++ (rdK x ++ rdK y)) ?_ ?_ trivial h
 ·simp only [evalOp,R.run_bind,Al,hc,hx,hq',Option.getD_some,DZ,R.run_pure,Af]
  simp
 ·simp only [evalOp,R.AK,Al,AX,hc,hx,hq',Option.getD_some,DZ,R.Bp,List.append_nil]
theorem EZ {c : Arg} {p : Bool} (hg : gOn e g = true) (hc : Ac e c = some (.bool false)) (hx : isB (Ac e x) = true) (hy : Ac e y = some (.bool p))
  (h : TrO Γ r (nv + 1) ⟨(dst,.bool p) :: e,o,n⟩ d (acc ++ [(gK g ++ (rdK c ++ (rdK x ++ rdK y)),[.e dst],af)]) K t) :
  TrO Γ (⟨some dst,.pick c x y,g,af⟩ :: r) nv ⟨e,o,n⟩ d acc K t:=by
 obtain ⟨b1,q,hq'⟩:=Mc hx
 refine Am hg (c:=True) (we:=[(dst,.bool p)]) (wo:=[]) (rd:=rdK c ++ (rdK x ++ rdK y)) ?_ ?_ trivial h
 ·simp only [evalOp,R.run_bind,Al,hc,hy,hq',Option.getD_some,DZ,R.run_pure,Af]
  simp
 ·simp only [evalOp,R.AK,Al,AX,hc,hy,hq',Option.getD_some,DZ,R.Bp,List.append_nil]
theorem KP (hg : gOn e g = true) (h : TrO Γ r (nv + 1) ⟨(dst,.optr dst nv 0 0) :: e,(dst,some (nv,⟨false,true,s,ty,[z]⟩)) :: o,n⟩ d (acc ++ [(gK g ++ [],[.e dst,.o dst],af)]) K t) :
  TrO Γ (⟨some dst,.new z s ty,g,af⟩ :: r) nv ⟨e,o,n⟩ d acc K t :=
 Am hg (c:=True) (we:=[(dst,.optr dst nv 0 0)]) (wo:=[(dst,some (nv,⟨false,true,s,ty,[z]⟩))]) (rd:=[]) (by simp) (by simp) trivial h
theorem KG (hg : gOn e g = true) (hx : Ac e x = some v) (hw : strip v = (true,v)) (hk : known v = true) (hl : (cells v).length = s)
  (h : TrO Γ r (nv + 1) ⟨(dst,.optr dst nv 0 0) :: e,(dst,some (nv,⟨false,true,s,ty,[v]⟩)) :: o,n⟩ d (acc ++ [(gK g ++ rdK x,[.e dst,.o dst],af)]) K t) :
  TrO Γ (⟨some dst,.box x s ty,g,af⟩ :: r) nv ⟨e,o,n⟩ d acc K t :=
 Am hg (c:=True) (we:=[(dst,.optr dst nv 0 0)]) (wo:=[(dst,some (nv,⟨false,true,s,ty,[v]⟩))]) (rd:=rdK x) (by simp only [evalOp,R.run_bind,Al,Option.getD_some,hx,hw,R.run_pure,hk,hl,Af,AM,Option.getD_some]; simp) (by simp) trivial h
def CJ (e : List (Nat × D)) : List (Nat × Nat × Arg) -> List (Nat × Nat × D)
 | []=>[]
 | (a,b,x) :: r=>(a,b,(Ac e x).getD .top) :: CJ e r
def Dz : List (Nat × Nat × Arg) -> List Key
 | []=>[]
 | (_,_,x) :: r=>rdK x ++ Dz r
def ER : Nat -> List (Nat × Nat × D) -> Bool
 | _,[]=>true
 | n,(off,s,d) :: r=>known d && (Nat.beq (cells d).length s && (Nat.ble (off + s) n && ER n r))
theorem HJ : ∀ {n : Nat} {l : List (Nat × Nat × D)},ER n l = true -> DP n l
 | _,[],_=>trivial
 | n,(off,s,d) :: r,h=>by
  simp only [ER,Bool.and_eq_true] at h
  exact ⟨h.1,Nat.eq_of_beq_eq_true h.2.1,Nat.le_of_ble_eq_true h.2.2.1,HJ h.2.2.2⟩
theorem GS : ∀ parts : List (Nat × Nat × Arg),(BU parts).run ⟨e,o,n⟩ = CJ e parts
 | []=>rfl
 | (a,b,x) :: r=>by simp [BU,CJ,GS r]
theorem HQ : ∀ parts : List (Nat × Nat × Arg),(BU parts).rd ⟨e,o,n⟩ = Dz parts
 | []=>rfl
 | (a,b,x) :: r=>by simp [BU,Dz,HQ r]
theorem OB {zs cs : List D} {parts : List (Nat × Nat × Arg)} {ps : List (Nat × Nat × D)} (hg : gOn e g = true) (hp : CJ e parts = ps) (hf : ER zs.length ps = true) (hz : DE zs ps = cs)
  (h : TrO Γ r (nv + 1) ⟨(dst,.agg cs) :: e,o,n⟩ d (acc ++ [(gK g ++ Dz parts,[.e dst],af)]) K t) :
  TrO Γ (⟨some dst,.bld zs parts,g,af⟩ :: r) nv ⟨e,o,n⟩ d acc K t :=
 Am hg (c:=DP zs.length ps) (we:=[(dst,.agg cs)]) (wo:=[]) (rd:=Dz parts) (by simp [GS,hp,hz]) (by simp [HQ]) (HJ hf) h
def Jp (s len : Nat) (ps : List (Nat × D)) : Bool:=ps.all λp=>known p.2 && (Nat.beq (cells p.2).length s && Nat.blt p.1 len)
theorem Ti {c : Prop} {len : Nat} {parts : List (Nat × Arg)} {ps : List (Nat × D)} {wo : List (Nat × Ae)} {rk : List Key} (l : List α) (en : α -> D) (hg : gOn e g = true) (hr : (AY parts).run ⟨e,o,n⟩ = (c,ps,wo)) (hk : (AY parts).rd ⟨e,o,n⟩ = rk) (hc : c)
  (hp : Jp s len ps = true) (hes : CM (List.replicate len z) ps = l.map en) (hlen : l.length = len)
  (h : TrO Γ r (nv + 1) ⟨(dst,.osl dst nv 0 l.length) :: e,(dst,some (nv,⟨false,false,s,ty,l.map en⟩)) :: (wo ++ o),n⟩ d (acc ++ [(gK g ++ rk,[.e dst,.o dst] ++ wo.map (λx=>.o x.1),af)]) K t) :
  TrO Γ (⟨some dst,.bldS s ty z len parts,g,af⟩ :: r) nv ⟨e,o,n⟩ d acc K t:=by
 have h1 : ∀ p ∈ ps,known p.2 = true /\ (cells p.2).length = s /\ p.1 < len:=by
  intro p hp'
  have:=List.all_eq_true.1 hp p hp'
  simp only [Bool.and_eq_true] at this
  exact ⟨this.1,Nat.eq_of_beq_eq_true this.2.1,by simpa using this.2.2⟩
 subst hlen
 exact Am hg (c:=c /\ ∀ p ∈ ps,known p.2 = true /\ (cells p.2).length = s /\ p.1 < l.length) (we:=[(dst,.osl dst nv 0 l.length)]) (wo:=(dst,some (nv,⟨false,false,s,ty,l.map en⟩)) :: wo) (rd:=rk) (by simp [hr,hes]) (by simp [hk]) ⟨hc,h1⟩ (by simpa using h)
theorem De {i : Nat} {q : α} (h : l[i]? = some q) : (l.map en)[i]? = some (en q):=by simp [h]
theorem Fu {agg : Bool} {i : Nat} (hg : gOn e g = true) (hx : Ac e x = some (.optr gi vi i off)) (ho : lkO o gi = some (vi,⟨fz,var,s,ty,es⟩)) (hz : es[i]? = some z) (hb : Nat.ble (off + m) (cells z).length = true) (hv : AZ (cells z) off m agg = v)
  (h : TrO Γ r (nv + 1) ⟨(dst,v) :: e,o,n⟩ d (acc ++ [(gK g ++ (rdK x ++ [.o gi]),[.e dst],af)]) K t) (hpl : (plain v || !Ad gi) = true:=by rfl) :
  TrO Γ (⟨some dst,.ld m agg x,g,af⟩ :: r) nv ⟨e,o,n⟩ d acc K t:=by
 obtain ⟨hi,rfl⟩:=List.getElem?_eq_some_iff.1 hz
 have hb':=Nat.le_of_ble_eq_true hb
 have hgd : es.getD i .top = es[i]:=by simp [hi]
 refine Am hg (c:=True) (we:=[(dst,v)]) (wo:=[]) (rd:=rdK x ++ [Key.o gi]) ?_ ?_ trivial h
 ·simp only [evalOp,R.run_bind,Al,Option.getD_some,hx,strip,R.AW,AB,ho,Af,hgd,hv]
  cases hrg : Ad gi with
  | false=>simp [hi,hb']
  | true=>cases v <;> first | (simp [hi,hb']; done) | (rw [hrg] at hpl; cases hpl)
 ·simp only [evalOp,R.AK,Al,AX,Option.getD_some,hx,strip,R.Cg,AB,ho,hgd,hv]
  cases hrg : Ad gi with
  | false=>simp
  | true=>cases v <;> first | (simp; done) | (rw [hrg] at hpl; cases hpl)
theorem Hv {agg : Bool} (hg : gOn e g = true) (hx : Ac e x = some (.fptr z off)) (hb : Nat.ble (off + m) (cells z).length = true) (hv : AZ (cells z) off m agg = v)
  (h : TrO Γ r (nv + 1) ⟨(dst,v) :: e,o,n⟩ d (acc ++ [(gK g ++ rdK x,[.e dst],af)]) K t) :
  TrO Γ (⟨some dst,.ld m agg x,g,af⟩ :: r) nv ⟨e,o,n⟩ d acc K t:=by
 have hb':=Nat.le_of_ble_eq_true hb
 refine Am hg (c:=True) (we:=[(dst,v)]) (wo:=[]) (rd:=rdK x) ?_ ?_ trivial h
 ·simp only [evalOp,R.run_bind,Al,Option.getD_some,hx,strip,Bj,R.AJ,R.run_pure,Af]
  simp [hb',hv]
 ·simp only [evalOp,R.AK,Al,AX,Option.getD_some,hx,strip,Bj,R.Co,R.Bp]
  simp
theorem Fv (hg : gOn e g = true) (hx : Ac e x = some (.optr gi vi 0 off)) (hy : Ac e y = some v) (hw : strip v = (true,v)) (ho : lkO o gi = some (vi,⟨false,true,s,ty,[z]⟩)) (hk : known v = true) (hl : (cells v).length = m)
  (hb : Nat.ble (off + m) (cells z).length = true) (hz : AE z off (cells v) = z')
  (h : TrO Γ r (nv + 1) ⟨e,(gi,some (vi,⟨false,true,s,ty,[z']⟩)) :: o,n⟩ d (acc ++ [(gK g ++ (rdK x ++ (rdK y ++ [.o gi])),[.o gi],af)]) K t) (hrg : Ad gi = false:=by rfl) :
  TrO Γ (⟨none,.st m x y,g,af⟩ :: r) nv ⟨e,o,n⟩ d acc K t:=by
 have hb':=Nat.le_of_ble_eq_true hb
 refine Am hg (c:=True) (we:=[]) (wo:=[(gi,some (vi,⟨false,true,s,ty,[z']⟩))]) (rd:=rdK x ++ (rdK y ++ [Key.o gi])) ?_ ?_ trivial h
 ·simp only [evalOp,R.run_bind,Al,Option.getD_some,hx,hy,hw,CQ,R.AW,AB,ho,R.AJ,hrg,Bool.false_eq_true,if_false,if_true,hk,hl]
  simp [hb',hz]
 ·simp only [evalOp,R.AK,Al,AX,Option.getD_some,hx,hy,hw,CQ,R.Cg,AB,ho,R.Co,hrg,Bool.false_eq_true,if_false,if_true]
theorem DM {i : Nat} {q q' : α} {c : Prop} {v' : D} {wo : List (Nat × Ae)} {rk : List Key} (hg : gOn e g = true) (hx : Ac e x = some (.optr gi vi i off)) (hy : Ac e y = some v) (hw : strip v = (true,v)) (ho : lkO o gi = some (vi,⟨false,false,s,ty,l.map en⟩))
  (hr : (res v).run ⟨e,o,n⟩ = (c,v',wo)) (hrd : (res v).rd ⟨e,o,n⟩ = rk) (hc : c) (hi : l[i]? = some q) (hk : known v' = true) (hl : (cells v').length = m) (hb : Nat.ble (off + m) (cells (en q)).length = true)
  (hz : AE (en q) off (cells v') = en q') (hwo : wo.all (λx=>x.1 != gi) = true)
  (h : TrO Γ r (nv + 1) ⟨e,(gi,some (vi,⟨false,false,s,ty,(l.set i q').map en⟩)) :: (wo ++ o),n⟩ d (acc ++ [(gK g ++ (rdK x ++ (rdK y ++ (.o gi :: rk))),.o gi :: wo.map (λx=>.o x.1),af)]) K t) (hrg : Ad gi = false:=by rfl) :
  TrO Γ (⟨none,.st m x y,g,af⟩ :: r) nv ⟨e,o,n⟩ d acc K t:=by
 have hb':=Nat.le_of_ble_eq_true hb
 obtain ⟨hi',rfl⟩:=List.getElem?_eq_some_iff.1 hi
 refine Am hg (c:=True) (we:=[]) (wo:=(gi,some (vi,⟨false,false,s,ty,(l.set i q').map en⟩)) :: wo) (rd:=rdK x ++ (rdK y ++ (Key.o gi :: rk))) ?_ ?_ trivial (by simpa using h)
 ·simp only [evalOp,R.run_bind,Al,Option.getD_some,hx,hy,hw,CQ,R.AW,AB,ho,hrg,Bool.false_eq_true,if_false,hr,R.run_pure]
  have hq : (l.map en).getD i .top = en l[i]:=by simp [hi']
  rw [hq,hz]
  simp [hc,hi',hb',hk,hl,hwo,<- List.map_set]
 ·simp only [evalOp,R.AK,Al,AX,Option.getD_some,hx,hy,hw,CQ,R.Cg,AB,ho,hrg,Bool.false_eq_true,if_false,hrd,hr,R.Bp]
  simp
theorem IP (hg : gOn e g = true) (hx : Ac e x = some v) (hv : (match v with | .optr .. | .fptr ..=>true | _=>false) = true) (h : TrO Γ r (nv + 1) ⟨(dst,v) :: e,o,n⟩ d (acc ++ [(gK g ++ rdK x,[.e dst],af)]) K t) :
  TrO Γ (⟨some dst,.nilck x,g,af⟩ :: r) nv ⟨e,o,n⟩ d acc K t :=
 Am hg (c:=True) (we:=[(dst,v)]) (wo:=[]) (rd:=rdK x) (by cases v <;> simp [hx] at hv ⊢) (by cases v <;> simp [hx] at hv ⊢) trivial h
theorem GC {op : BinOp} {c : Prop} (hg : gOn e g = true) (hx : Ac e x = some (.int k a)) (hy : Ac e y = some (.int k' b)) (hb : Ig op (.int k a) (.int k' b) = (c,v)) (hc : c)
  (h : TrO Γ r (nv + 1) ⟨(dst,v) :: e,o,n⟩ d (acc ++ [(gK g ++ (rdK x ++ rdK y),[.e dst],af)]) K t) :
  TrO Γ (⟨some dst,.bin op x y,g,af⟩ :: r) nv ⟨e,o,n⟩ d acc K t :=
 Am hg (c:=c) (we:=[(dst,v)]) (wo:=[]) (rd:=rdK x ++ rdK y) (by simp [hx,hy,hb]) (by simp) hc h
theorem DL {op : BinOp} {c : Prop} {p q : List UInt8} (hg : gOn e g = true) (hx : Ac e x = some (.str p)) (hy : Ac e y = some (.str q)) (hb : Ig op (.str p) (.str q) = (c,v)) (hc : c)
  (h : TrO Γ r (nv + 1) ⟨(dst,v) :: e,o,n⟩ d (acc ++ [(gK g ++ (rdK x ++ rdK y),[.e dst],af)]) K t) :
  TrO Γ (⟨some dst,.bin op x y,g,af⟩ :: r) nv ⟨e,o,n⟩ d acc K t :=
 Am hg (c:=c) (we:=[(dst,v)]) (wo:=[]) (rd:=rdK x ++ rdK y) (by simp [hx,hy,hb]) (by simp) hc h
theorem KJ {neg p q : Bool} (hg : gOn e g = true) (hx : Ac e x = some (.bool p)) (hy : Ac e y = some (.bool q))
  (h : TrO Γ r (nv + 1) ⟨(dst,.bool (if neg then !(p == q) else (p == q))) :: e,o,n⟩ d (acc ++ [(gK g ++ (rdK x ++ rdK y),[.e dst],af)]) K t) :
  TrO Γ (⟨some dst,.eqB neg x y,g,af⟩ :: r) nv ⟨e,o,n⟩ d acc K t :=
 Am hg (c:=True) (we:=[(dst,.bool (if neg then !(p == q) else (p == q)))]) (wo:=[]) (rd:=rdK x ++ rdK y) (by simp [hx,hy]) (by simp [hx,hy]) trivial h
theorem KI {neg p : Bool} {c : Prop} {cs cs' : List D} (hg : gOn e g = true) (hx : Ac e x = some (.agg cs)) (hy : Ac e y = some (.agg cs')) (hq : eqL cs cs' = (c,p)) (hc : c) (hn : Nat.beq cs.length m = true)
  (h : TrO Γ r (nv + 1) ⟨(dst,.bool (if neg then !p else p)) :: e,o,n⟩ d (acc ++ [(gK g ++ (rdK x ++ rdK y),[.e dst],af)]) K t) :
  TrO Γ (⟨some dst,.eqA m neg x y,g,af⟩ :: r) nv ⟨e,o,n⟩ d acc K t:=by
 have hn':=Nat.eq_of_beq_eq_true hn
 exact Am hg (c:=True) (we:=[(dst,.bool (if neg then !p else p))]) (wo:=[]) (rd:=rdK x ++ rdK y) (by simp [hx,hy,hq,hc,hn']) (by simp [hx,hy]) trivial h
theorem My {op : UnOp} {c : Prop} (hg : gOn e g = true) (hx : Ac e x = some v) (hw : strip v = (true,v)) (hb : unD op v = (c,w)) (hc : c)
  (h : TrO Γ r (nv + 1) ⟨(dst,w) :: e,o,n⟩ d (acc ++ [(gK g ++ rdK x,[.e dst],af)]) K t) :
  TrO Γ (⟨some dst,.un op x,g,af⟩ :: r) nv ⟨e,o,n⟩ d acc K t :=
 Am hg (c:=c) (we:=[(dst,w)]) (wo:=[]) (rd:=rdK x) (by simp only [evalOp,R.run_bind,Al,Option.getD_some,hx,hw,hb,R.run_pure,BO,Af]; simp) (by simp) hc h
theorem KH (hg : gOn e g = true) (hx : Ac e x = some (.int k' a)) (h : TrO Γ r (nv + 1) ⟨(dst,.int k (k.wrap a)) :: e,o,n⟩ d (acc ++ [(gK g ++ rdK x,[.e dst],af)]) K t) :
  TrO Γ (⟨some dst,.cvt k x,g,af⟩ :: r) nv ⟨e,o,n⟩ d acc K t :=
 Am hg (c:=True) (we:=[(dst,.int k (k.wrap a))]) (wo:=[]) (rd:=rdK x) (by simp [hx]) (by simp [hx]) trivial h
theorem OC {bytes : Nat} {q : α} (en : α -> D) (hg : gOn e g = true) (hx : Ac e x = some (.int k a)) (hy : Ac e y = some (.int k' a)) (hz : z = en q) (hl : 0 <= a /\ a <= 16777216) (hby : Nat.ble bytes 65536 = true)
  (h : TrO Γ r (nv + 1) ⟨(dst,.osl dst nv 0 (List.replicate a.toNat q).length) :: e,(dst,some (nv,⟨false,false,s,ty,(List.replicate a.toNat q).map en⟩)) :: o,n⟩ d (acc ++ [(gK g ++ (rdK x ++ rdK y),[.e dst,.o dst],af)]) K t) :
  TrO Γ (⟨some dst,.mkS s ty bytes z x y,g,af⟩ :: r) nv ⟨e,o,n⟩ d acc K t:=by
 have:=Nat.le_of_ble_eq_true hby
 subst hz
 exact Am hg (c:=True) (we:=[(dst,.osl dst nv 0 (List.replicate a.toNat q).length)]) (wo:=[(dst,some (nv,⟨false,false,s,ty,(List.replicate a.toNat q).map en⟩))]) (rd:=rdK x ++ rdK y) (by simp [hx,hy,hl,this]) (by simp [hx,hy]) trivial h
theorem JP (hg : gOn e g = true) {i : Nat} (hx : Ac e x = some (.optr gi vi i off)) (h : TrO Γ r (nv + 1) ⟨(dst,.optr gi vi i (off + m)) :: e,o,n⟩ d (acc ++ [(gK g ++ rdK x,[.e dst],af)]) K t) :
  TrO Γ (⟨some dst,.fldA m x,g,af⟩ :: r) nv ⟨e,o,n⟩ d acc K t :=
 Am hg (c:=True) (we:=[(dst,.optr gi vi i (off + m))]) (wo:=[]) (rd:=rdK x) (by simp [hx]) (by simp [hx]) trivial h
theorem HX (hg : gOn e g = true) (hx : Ac e x = some (.fptr z off)) (h : TrO Γ r (nv + 1) ⟨(dst,.fptr z (off + m)) :: e,o,n⟩ d (acc ++ [(gK g ++ rdK x,[.e dst],af)]) K t) :
  TrO Γ (⟨some dst,.fldA m x,g,af⟩ :: r) nv ⟨e,o,n⟩ d acc K t :=
 Am hg (c:=True) (we:=[(dst,.fptr z (off + m))]) (wo:=[]) (rd:=rdK x) (by simp [hx]) (by simp [hx]) trivial h
theorem KM {cs : List D} {agg : Bool} (hg : gOn e g = true) (hx : Ac e x = some (.agg cs)) (hb : Nat.ble (off + m) cs.length = true) (hv : AZ cs off m agg = v)
  (h : TrO Γ r (nv + 1) ⟨(dst,v) :: e,o,n⟩ d (acc ++ [(gK g ++ rdK x,[.e dst],af)]) K t) :
  TrO Γ (⟨some dst,.fld off m agg x,g,af⟩ :: r) nv ⟨e,o,n⟩ d acc K t:=by
 have hb':=Nat.le_of_ble_eq_true hb
 exact Am hg (c:=True) (we:=[(dst,v)]) (wo:=[]) (rd:=rdK x) (by simp [hx,hb',hv]) (by simp [hx]) trivial h
theorem Ea {q : α} (hg : gOn e g = true) (hx : Ac e x = some (.sl (l.map en))) (hy : Ac e y = some (.int k a)) (hi : ixO l a = some q) (hs : (cells (en q)).length = s)
  (h : TrO Γ r (nv + 1) ⟨(dst,.fptr (en q) 0) :: e,o,n⟩ d (acc ++ [(gK g ++ (rdK x ++ rdK y),[.e dst],af)]) K t) :
  TrO Γ (⟨some dst,.ixA s x y,g,af⟩ :: r) nv ⟨e,o,n⟩ d acc K t:=by
 obtain ⟨h0,h1,h2⟩:=TU hi
 refine Am hg (c:=True) (we:=[(dst,.fptr (en q) 0)]) (wo:=[]) (rd:=rdK x ++ rdK y) ?_ (by simp [hx,hy]) trivial h
 have hq : (l.map en).getD a.toNat .top = en q:=by simp [h2]
 simp only [evalOp,R.run_bind,Al,Option.getD_some,hx,hy,strip,R.run_pure,Af,hq,hs]
 simp [h0,h1]
theorem GW {q : Nat} (hq : q = l.length) (hg : gOn e g = true) (hx : Ac e x = some (.osl gi vi 0 q)) (hy : Ac e y = some (.int k a)) (ho : lkO o gi = some (vi,⟨fz,false,s,ty,l.map en⟩)) (hi : 0 <= a /\ a < l.length)
  (h : TrO Γ r (nv + 1) ⟨(dst,.optr gi vi a.toNat 0) :: e,o,n⟩ d (acc ++ [(gK g ++ (rdK x ++ (rdK y ++ [.o gi])),[.e dst],af)]) K t) :
  TrO Γ (⟨some dst,.ixA s x y,g,af⟩ :: r) nv ⟨e,o,n⟩ d acc K t:=by
 subst hq
 refine Am hg (c:=True) (we:=[(dst,.optr gi vi a.toNat 0)]) (wo:=[]) (rd:=rdK x ++ (rdK y ++ [Key.o gi])) ?_ (by simp [hx,hy,ho]) trivial h
 simp only [evalOp,R.run_bind,Al,Option.getD_some,hx,hy,strip,R.AW,AB,ho,R.AJ,Af]
 simp [hi.1,hi.2]
theorem KL {ds : List D} {i : Nat} (hg : gOn e g = true) (hx : Ac e x = some (.tup ds)) (hi : ds[i]? = some v) (h : TrO Γ r (nv + 1) ⟨(dst,v) :: e,o,n⟩ d (acc ++ [(gK g ++ rdK x,[.e dst],af)]) K t) :
  TrO Γ (⟨some dst,.ext x i,g,af⟩ :: r) nv ⟨e,o,n⟩ d acc K t:=by
 have hl:=(List.getElem?_eq_some_iff.1 hi).1
 exact Am hg (c:=True) (we:=[(dst,v)]) (wo:=[]) (rd:=rdK x) (by have:=(List.getElem?_eq_some_iff.1 hi).2; simp [hx,hl,this]) (by simp [hx]) trivial h
theorem HZ (hg : gOn e g = true) (hx : Ac e x = some (.sl (l.map en))) (h : TrO Γ r (nv + 1) ⟨(dst,.int .i64 l.length) :: e,o,n⟩ d (acc ++ [(gK g ++ rdK x,[.e dst],af)]) K t) :
  TrO Γ (⟨some dst,.len false x,g,af⟩ :: r) nv ⟨e,o,n⟩ d acc K t :=
 Am hg (c:=True) (we:=[(dst,.int .i64 l.length)]) (wo:=[]) (rd:=rdK x) (by simp [hx]) (by simp [hx]) trivial h
theorem GY {i q : Nat} (hg : gOn e g = true) (hx : Ac e x = some (.osl gi vi i q)) (h : TrO Γ r (nv + 1) ⟨(dst,.int .i64 q) :: e,o,n⟩ d (acc ++ [(gK g ++ rdK x,[.e dst],af)]) K t) :
  TrO Γ (⟨some dst,.len false x,g,af⟩ :: r) nv ⟨e,o,n⟩ d acc K t :=
 Am hg (c:=True) (we:=[(dst,.int .i64 q)]) (wo:=[]) (rd:=rdK x) (by simp [hx]) (by simp [hx]) trivial h
theorem GX (hg : gOn e g = true) (hx : Ac e x = some .nils) (h : TrO Γ r (nv + 1) ⟨(dst,.int .i64 0) :: e,o,n⟩ d (acc ++ [(gK g ++ rdK x,[.e dst],af)]) K t) :
  TrO Γ (⟨some dst,.len false x,g,af⟩ :: r) nv ⟨e,o,n⟩ d acc K t :=
 Am hg (c:=True) (we:=[(dst,.int .i64 0)]) (wo:=[]) (rd:=rdK x) (by simp [hx]) (by simp [hx]) trivial h
theorem GZ {p : List UInt8} (hg : gOn e g = true) (hx : Ac e x = some (.str p)) (h : TrO Γ r (nv + 1) ⟨(dst,.int .i64 p.length) :: e,o,n⟩ d (acc ++ [(gK g ++ rdK x,[.e dst],af)]) K t) :
  TrO Γ (⟨some dst,.len true x,g,af⟩ :: r) nv ⟨e,o,n⟩ d acc K t :=
 Am hg (c:=True) (we:=[(dst,.int .i64 p.length)]) (wo:=[]) (rd:=rdK x) (by simp [hx]) (by simp [hx]) trivial h
theorem KE {bytes : Nat} {c c' : Prop} {new old : List D} {wo : List (Nat × Ae)} {rk rk' : List Key} (l l' : List α) (en : α -> D) (hg : gOn e g = true) (hx : Ac e x = some v) (hy : Ac e y = some w) (hvw : strip v = (true,v)) (hww : strip w = (true,w))
  (hv : (view w).run ⟨e,o,n⟩ = (c,new)) (hvr : (view w).rd ⟨e,o,n⟩ = rk) (hc : c) (hn : new = l'.map en)
  (ht : (target s ty v).run ⟨e,o,n⟩ = (c',old,wo,false)) (htr : (target s ty v).rd ⟨e,o,n⟩ = rk') (hc' : c') (ho : old = l.map en)
  (hs : ∀ q,(cells (en q)).length = s) (hby : Nat.ble bytes 65536 = true) (hl : l.length + l'.length <= 16777216)
  (h : TrO Γ r (nv + 1) ⟨(dst,.osl dst nv 0 (l ++ l').length) :: e,(dst,some (nv,⟨false,false,s,ty,(l ++ l').map en⟩)) :: (wo ++ o),n⟩ d (acc ++ [(gK g ++ (rdK x ++ (rdK y ++ (rk ++ rk'))),[.e dst,.o dst] ++ wo.map (λx=>.o x.1),af)]) K t) :
  TrO Γ (⟨some dst,.app s ty bytes x y,g,af⟩ :: r) nv ⟨e,o,n⟩ d acc K t:=by
 have hb':=Nat.le_of_ble_eq_true hby
 subst hn; subst ho
 refine Am hg (c:=True) (we:=[(dst,.osl dst nv 0 (l ++ l').length)]) (wo:=(dst,some (nv,⟨false,false,s,ty,(l ++ l').map en⟩)) :: wo) (rd:=rdK x ++ (rdK y ++ (rk ++ rk'))) ?_ ?_ trivial (by simpa using h)
 ·simp only [evalOp,R.run_bind,Al,Option.getD_some,hx,hy,hvw,hww,source,hv,ht,R.run_pure,Af,CS,nmR,cond_false]
  simp [hc,hc',hl,hb',hs]
 ·simp only [evalOp,R.AK,Al,AX,Option.getD_some,hx,hy,hvw,hww,source,hv,hvr,htr,R.Bp]
  simp
theorem KN (hg : gOn e g = true) (hx : Ac e x = some (.int k a)) (hy : Ac e y = some (.int k b)) (h : TrO Γ r (nv + 1) ⟨(dst,.int k (Td a b)) :: e,o,n⟩ d (acc ++ [(gK g ++ (rdK x ++ rdK y),[.e dst],af)]) K t) :
  TrO Γ (⟨some dst,.max [x,y],g,af⟩ :: r) nv ⟨e,o,n⟩ d acc K t :=
 Am hg (c:=True) (we:=[(dst,.int k (Td a b))]) (wo:=[]) (rd:=rdK x ++ rdK y) (by simp [AU,hx,hy,Ik]) (by simp [AU,hx,hy]) trivial h
theorem KO (hg : gOn e g = true) (hx : Ac e x = some (.int k a)) (hy : Ac e y = some (.int k b)) (h : TrO Γ r (nv + 1) ⟨(dst,.int k (Te a b)) :: e,o,n⟩ d (acc ++ [(gK g ++ (rdK x ++ rdK y),[.e dst],af)]) K t) :
  TrO Γ (⟨some dst,.min [x,y],g,af⟩ :: r) nv ⟨e,o,n⟩ d acc K t :=
 Am hg (c:=True) (we:=[(dst,.int k (Te a b))]) (wo:=[]) (rd:=rdK x ++ rdK y) (by simp [AU,hx,hy,Ik]) (by simp [AU,hx,hy]) trivial h
theorem FJ {hi : Arg} (hg : gOn e g = true) (hx : Ac e x = some (.sl (l.map en))) (hy : Ac e hi = some (.int k a)) (hs : ∀ q,(cells (en q)).length = s) (hp : Nat.blt 0 s = true) (hl : 0 <= a /\ a <= l.length)
  (h : TrO Γ r (nv + 1) ⟨(dst,.sl ((l.take a.toNat).map en)) :: e,o,n⟩ d (acc ++ [(gK g ++ (rdK x ++ rdK hi),[.e dst],af)]) K t) :
  TrO Γ (⟨some dst,.slc s x none (some hi),g,af⟩ :: r) nv ⟨e,o,n⟩ d acc K t:=by
 have hp' : 0 < s:=by simpa using hp
 refine Am hg (c:=True) (we:=[(dst,.sl ((l.take a.toNat).map en))]) (wo:=[]) (rd:=rdK x ++ rdK hi) ?_ ?_ trivial h
 ·simp only [evalOp,R.run_bind,Al,Option.getD_some,hx,hy,strip,BD,R.AJ,R.run_pure,BA,fits,Ch,bound,BO,Af]
  simp [hl,hs,hp',List.map_take]
 ·simp [BD,hx,hy,fits]
theorem FK {lo : Arg} (hg : gOn e g = true) (hx : Ac e x = some (.sl (l.map en))) (hy : Ac e lo = some (.int k a)) (hs : ∀ q,(cells (en q)).length = s) (hp : Nat.blt 0 s = true) (hl : 0 <= a /\ a <= l.length)
  (h : TrO Γ r (nv + 1) ⟨(dst,.sl ((l.drop a.toNat).map en)) :: e,o,n⟩ d (acc ++ [(gK g ++ (rdK x ++ rdK lo),[.e dst],af)]) K t) :
  TrO Γ (⟨some dst,.slc s x (some lo) none,g,af⟩ :: r) nv ⟨e,o,n⟩ d acc K t:=by
 have hp' : 0 < s:=by simpa using hp
 refine Am hg (c:=True) (we:=[(dst,.sl ((l.drop a.toNat).map en))]) (wo:=[]) (rd:=rdK x ++ rdK lo) ?_ ?_ trivial h
 ·have ht : List.take (l.length - a.toNat) (List.drop a.toNat (l.map en)) = (l.drop a.toNat).map en:=by
   rw [<- List.map_drop]; exact List.take_of_length_le (by simp)
  simp only [evalOp,R.run_bind,Al,Option.getD_some,hx,hy,strip,BD,R.AJ,R.run_pure,BA,fits,Ch,bound,BO,Af,List.length_map,Int.toNat_natCast]
  rw [ht]
  simp [hl,hs,hp']
 ·simp [BD,hx,hy,fits]
theorem Fa {hi : Arg} {q : Nat} (hq : q = l.length) (hg : gOn e g = true) (hx : Ac e x = some (.osl gi vi 0 q)) (hy : Ac e hi = some (.int k a)) (ho : lkO o gi = some (vi,⟨fz,var,s,ty,es⟩)) (hp : Nat.blt 0 s = true) (hl : 0 <= a /\ a <= l.length)
  (h : TrO Γ r (nv + 1) ⟨(dst,.osl gi vi 0 a.toNat) :: e,o,n⟩ d (acc ++ [(gK g ++ (rdK x ++ (rdK hi ++ [.o gi])),[.e dst],af)]) K t) :
  TrO Γ (⟨some dst,.slc s x none (some hi),g,af⟩ :: r) nv ⟨e,o,n⟩ d acc K t:=by
 subst hq
 have hp' : 0 < s:=by simpa using hp
 refine Am hg (c:=True) (we:=[(dst,.osl gi vi 0 a.toNat)]) (wo:=[]) (rd:=rdK x ++ (rdK hi ++ [Key.o gi])) ?_ ?_ trivial h
 ·simp only [evalOp,R.run_bind,Al,Option.getD_some,hx,hy,strip,BD,R.AJ,R.run_pure,BA,fits,R.AW,AB,ho,Ch,bound,BO,Af]
  simp [hl,hp']
 ·simp [BD,hx,hy,fits,ho]
theorem Fb {lo : Arg} {q : Nat} (hq : q = l.length) (hg : gOn e g = true) (hx : Ac e x = some (.osl gi vi 0 q)) (hy : Ac e lo = some (.int k a)) (ho : lkO o gi = some (vi,⟨fz,var,s,ty,es⟩)) (hp : Nat.blt 0 s = true) (hl : 0 <= a /\ a <= l.length)
  (h : TrO Γ r (nv + 1) ⟨(dst,.osl gi vi a.toNat (l.length - a.toNat)) :: e,o,n⟩ d (acc ++ [(gK g ++ (rdK x ++ (rdK lo ++ [.o gi])),[.e dst],af)]) K t) :
  TrO Γ (⟨some dst,.slc s x (some lo) none,g,af⟩ :: r) nv ⟨e,o,n⟩ d acc K t:=by
 subst hq
 have hp' : 0 < s:=by simpa using hp
 refine Am hg (c:=True) (we:=[(dst,.osl gi vi a.toNat (l.length - a.toNat))]) (wo:=[]) (rd:=rdK x ++ (rdK lo ++ [Key.o gi])) ?_ ?_ trivial h
 ·simp only [evalOp,R.run_bind,Al,Option.getD_some,hx,hy,strip,BD,R.AJ,R.run_pure,BA,fits,R.AW,AB,ho,Ch,bound,BO,Af]
  simp [hl,hp']
 ·simp [BD,hx,hy,fits,ho]
theorem Ia {lo hi : Arg} {k2 : IntKind} (hg : gOn e g = true) (hx : Ac e x = some (.sl (l.map en))) (hy : Ac e lo = some (.int k a)) (hz : Ac e hi = some (.int k2 b)) (hs : ∀ q,(cells (en q)).length = s) (hp : Nat.blt 0 s = true) (hl : 0 <= a /\ a <= b /\ b <= l.length)
  (h : TrO Γ r (nv + 1) ⟨(dst,.sl (((l.drop a.toNat).take (b.toNat - a.toNat)).map en)) :: e,o,n⟩ d (acc ++ [(gK g ++ (rdK x ++ (rdK lo ++ rdK hi)),[.e dst],af)]) K t) :
  TrO Γ (⟨some dst,.slc s x (some lo) (some hi),g,af⟩ :: r) nv ⟨e,o,n⟩ d acc K t:=by
 have hp' : 0 < s:=by simpa using hp
 refine Am hg (c:=True) (we:=[(dst,.sl (((l.drop a.toNat).take (b.toNat - a.toNat)).map en))]) (wo:=[]) (rd:=rdK x ++ (rdK lo ++ rdK hi)) ?_ ?_ trivial h
 ·simp only [evalOp,R.run_bind,Al,Option.getD_some,hx,hy,hz,strip,BD,R.AJ,R.run_pure,BA,fits,Ch,bound,BO,Af]
  simp [hl,hs,hp',List.map_take,List.map_drop]
 ·simp [BD,hx,hy,hz,fits]
end
end Go.Dw
namespace Go.Dw
section
variable {A B : Type}
def Av (ptr : List (Nat × (Nat × Nat))) (kind : Kind) (enc : A -> List D) (dec : List D -> A) (f : A -> Option B) (encR : B -> D) (encE : B -> List D) : Spec where
 ptr:=ptr
 kind:=kind
 pre:=λds=>∃ a b,ds = enc a /\ f a = some b
 res:=λds=>match f (dec ds) with | some b=>encR b | none=>.top
 eff:=λds=>match f (dec ds) with | some b=>encE b | none=>[]
variable {ptr : List (Nat × (Nat × Nat))} {kind : Kind} {enc : A -> List D} {dec : List D -> A} {f : A -> Option B} {encR : B -> D} {encE : B -> List D} {a : A} {b : B}
theorem BP (hde : ∀ a,dec (enc a) = a) (hf : f a = some b) : (Av ptr kind enc dec f encR encE).res (enc a) = encR b:=by simp [Av,hde,hf]
theorem Dc (hde : ∀ a,dec (enc a) = a) (hf : f a = some b) : (Av ptr kind enc dec f encR encE).eff (enc a) = encE b:=by simp [Av,hde,hf]
def BJ (ptr : List (Nat × (Nat × Nat))) (kind : Kind) (rs : List Bb) (encR : B -> D) (encE : B -> List D) : B -> Ay -> S -> Prop:=λb e τ =>
 match e with
 | .exit _=>False
 | _=>Wk (Cx ⟨ptr,kind,λ_=>True,λ_=>encR b,λ_=>encE b⟩ rs []) τ
theorem PD {P : Program} {Γ : At} (hΓ : ∀ k sp,Γ k = some sp -> Lo P (k % 4096) sp) {k : Nat} {fn : Func} {dc : AV} {rs : List Bb} (hf : P.funcs[k]? = some fn) (hname : (fn.name == "runtime.NumGoroutine") = false)
  (hc : (fn.body.bind (BF P fn.ntmps)) = some dc) (hr : fn.results.toList.mapM (Ei P) = some rs) {np : Nat} (hnp : np <= fn.ntmps) (hde : ∀ a,dec (enc a) = a) (hlen : ∀ a,(enc a).length = np) (hkeys : ∀ a,BR ptr 0 (enc a) = ptr.map Prod.fst) (hptr : Fp ptr = true)
  (hT : ∀ a,TrE Γ dc (BJ ptr kind rs encR encE) ⟨DG ptr 0 (enc a),CO ptr 0 (enc a),262144⟩ (f a)) (hni : Cm kind = none:=by rfl) (hno : Ey kind = none:=by rfl) : Lo P k (Av ptr kind enc dec f encR encE):=by
 refine Od hΓ hf hname hc hr hnp (by rintro ds ⟨a,b,rfl,_⟩; exact ⟨hlen a,hkeys a⟩) hptr ?_ hni hno
 rintro ds ⟨a,b,rfl,hb⟩ _
 have h:=hT a b hb
 refine h.mono λτ0 h=>BG _ _ _ _ (λe τ hq=>?_) h
 have key : ∀ τ,Cx ⟨ptr,kind,λ_=>True,λ_=>encR b,λ_=>encE b⟩ rs [] τ -> Cx (Av ptr kind enc dec f encR encE) rs (enc a) τ:=by
  simp only [Cx,BP hde hb,Dc hde hb]
  exact λ_ h=>h
 cases e with
 | exit id=>exact hq.elim
 | normal=>exact hq.mono key
 | ret=>exact hq.mono key
end
def Aq (e : List (Nat × D)) : List Arg -> List D
 | []=>[]
 | x :: r=>(Ac e x).getD .top :: Aq e r
def Bw : List Arg -> List Key
 | []=>[]
 | x :: r=>rdK x ++ Bw r
section
variable {Γ : At} {X A B : Type} {K : KR X} {t : Option X} {e : List (Nat × D)} {o : List (Nat × Ae)} {n nv : Nat} {d : Bool} {acc : List CR}
 {r : List Az} {dst : Nat} {g : Option (Nat × Bool)} {af : List Nat} {α : Type}
 {ptr : List (Nat × (Nat × Nat))} {kind : Kind} {enc : A -> List D} {dec : List D -> A} {f : A -> Option B} {encR : B -> D} {encE : B -> List D} {b : B}
 {fa : Arg} {args : List Arg} {caps : List D} {k : Nat} {c : Prop} {ds : List D} {w : List (Nat × Ae)} {ps : List (Nat × Nat × Own)} {rk : List Key} {s ty : Nat}
theorem BE : ∀ args : List Arg,(AU args).run ⟨e,o,n⟩ = Aq e args
 | []=>rfl
 | x :: r=>by simp [AU,Aq,BE r]
theorem Dy : ∀ args : List Arg,(AU args).rd ⟨e,o,n⟩ = Bw args
 | []=>rfl
 | x :: r=>by simp [AU,Bw,Dy r]
theorem DA {sp : Spec} {dst : Option Nat} {c2 : Prop} {we : List (Nat × D)} {wo : List (Nat × Ae)} (hg : gOn e g = true) (hf : Ac e fa = some (.clo k caps)) (hΓ : Γ (k + 4096 * AR (Aq e args)) = some sp) (hr : (Ag sp.ptr 0 (Aq e args ++ caps)).run ⟨e,o,n⟩ = (c,ds,w,ps))
  (hk : (Ag sp.ptr 0 (Aq e args ++ caps)).rd ⟨e,o,n⟩ = rk) (hco : Bg dst nv sp c ds w ps = ⟨c2,we,wo⟩) (hc : c2)
  (h : TrO Γ r (nv + 1) ⟨we ++ e,wo ++ o,n⟩ d (acc ++ [(gK g ++ (rdK fa ++ (Bw args ++ rk)),we.map (λx=>.e x.1) ++ wo.map (λx=>.o x.1),af)]) K t) (hin : Cm sp.kind = none:=by rfl) (hkb : Nat.blt k 4096 = true:=by rfl) :
  TrO Γ (⟨dst,.call fa args,g,af⟩ :: r) nv ⟨e,o,n⟩ d acc K t:=by
 refine Am hg (c:=c2) (we:=we) (wo:=wo) (rd:=rdK fa ++ (Bw args ++ rk)) ?_ ?_ hc h
 ·simp only [evalOp,R.run_bind,BA,Option.getD_some,hf,Dr hkb,hkb,BE,hΓ,hin,hr,R.run_pure,hco]
 ·simp only [evalOp,R.AK,BA,Gd,Option.getD_some,hf,Dr hkb,hkb,BE,hΓ,hin,Dy,hr,hk,R.Bp,List.append_nil]
theorem JQ {sp : Spec} {vi gi ty' m : Nat} {l l' : List Int} {fl : List Int -> List Int} {fk : List Int -> Nat} (hg : gOn e g = true) (hf : Ac e fa = some (.clo k caps)) (hΓ : Γ (k + 4096 * AR (Aq e args)) = some sp) (hin : Cm sp.kind = some (false,fl,fk))
  (hr : Aq e args ++ caps = [.osl gi vi 0 m]) (hm : m = l.length) (ho : lkO o gi = some (vi,⟨false,false,1,ty',l.map (.int .i64)⟩)) (hl : l.length < 4611686018427387904) (hfl : fl l = l')
  (h : TrO Γ r (nv + 1) ⟨e,(gi,some (vi,⟨false,false,1,ty',l'.map (.int .i64)⟩)) :: o,n⟩ d (acc ++ [(gK g ++ (rdK fa ++ (Bw args ++ [.o gi])),[.o gi],af)]) K t) (hkb : Nat.blt k 4096 = true:=by rfl) :
  TrO Γ (⟨none,.call fa args,g,af⟩ :: r) nv ⟨e,o,n⟩ d acc K t:=by
 subst hm hfl
 have hd : (l.map (D.int .i64)).map DR = l:=by simp [Function.comp_def,DR]
 refine Am hg (c:=True) (we:=[]) (wo:=[(gi,some (vi,⟨false,false,1,ty',(fl l).map (.int .i64)⟩))]) (rd:=rdK fa ++ (Bw args ++ [Key.o gi])) ?_ ?_ trivial ?_
 ·simp only [evalOp,R.run_bind,BA,Option.getD_some,hf,Dr hkb,hkb,BE,hΓ,hin,hr,CP,R.AW,AB,ho,R.AJ]
  simp [Af,hd,hl,List.take_of_length_le,AF,cells,plain]
 ·simp only [evalOp,R.AK,BA,Gd,Option.getD_some,hf,Dr hkb,hkb,BE,hΓ,hin,Dy,hr,CP,R.Cg,AB,ho,R.Co]
 ·exact h
theorem HY {sp : Spec} {vi gi ty' m : Nat} {l l' : List Int} {fl : List Int -> List Int} {fk : List Int -> Nat} (hg : gOn e g = true) (hf : Ac e fa = some (.clo k caps)) (hΓ : Γ (k + 4096 * AR (Aq e args)) = some sp) (hin : Cm sp.kind = some (false,fl,fk))
  (hr : Aq e args ++ caps = [.osl gi vi 0 m]) (hm : m = l.length) (ho : lkO o gi = some (vi,⟨false,false,1,ty',l.map (.int .i64)⟩)) (hl : l.length < 4611686018427387904) (hfl : fl l = l')
  (h : TrO Γ r (nv + 1) ⟨(dst,.top) :: e,(gi,some (vi,⟨false,false,1,ty',l'.map (.int .i64)⟩)) :: o,n⟩ d (acc ++ [(gK g ++ (rdK fa ++ (Bw args ++ [.o gi])),[.e dst,.o gi],af)]) K t) (hkb : Nat.blt k 4096 = true:=by rfl) :
  TrO Γ (⟨some dst,.call fa args,g,af⟩ :: r) nv ⟨e,o,n⟩ d acc K t:=by
 subst hm hfl
 have hd : (l.map (D.int .i64)).map DR = l:=by simp [Function.comp_def,DR]
 refine Am hg (c:=True) (we:=[(dst,.top)]) (wo:=[(gi,some (vi,⟨false,false,1,ty',(fl l).map (.int .i64)⟩))]) (rd:=rdK fa ++ (Bw args ++ [Key.o gi])) ?_ ?_ trivial ?_
 ·simp only [evalOp,R.run_bind,BA,Option.getD_some,hf,Dr hkb,hkb,BE,hΓ,hin,hr,CP,R.AW,AB,ho,R.AJ]
  simp [Af,hd,hl,List.take_of_length_le,AF,cells,plain]
 ·simp only [evalOp,R.AK,BA,Gd,Option.getD_some,hf,Dr hkb,hkb,BE,hΓ,hin,Dy,hr,CP,R.Cg,AB,ho,R.Co]
 ·exact h
theorem Gq {sp : Spec} {vi gi ty' m : Nat} {l l' : List Int} {fl : List Int -> List Int} {fk : List Int -> Nat} (hg : gOn e g = true) (hf : Ac e fa = some (.clo k caps)) (hΓ : Γ (k + 4096 * AR (Aq e args)) = some sp) (hin : Cm sp.kind = some (true,fl,fk))
  (hr : Aq e args ++ caps = [.osl gi vi 0 m]) (hm : m = l.length) (ho : lkO o gi = some (vi,⟨false,false,1,ty',l.map (.int .i64)⟩)) (hl : l.length < 4611686018427387904) (hfl : (fl l).take (fk l) = l') (hfk : fk l = l'.length)
  (h : TrO Γ r (nv + 1) ⟨(dst,.osl gi vi 0 l'.length) :: e,(gi,some (vi,⟨false,false,1,ty',l'.map (.int .i64)⟩)) :: o,n⟩ d (acc ++ [(gK g ++ (rdK fa ++ (Bw args ++ [.o gi])),[.e dst,.o gi],af)]) K t) (hkb : Nat.blt k 4096 = true:=by rfl) :
  TrO Γ (⟨some dst,.call fa args,g,af⟩ :: r) nv ⟨e,o,n⟩ d acc K t:=by
 subst hm hfl
 have hd : (l.map (D.int .i64)).map DR = l:=by simp [Function.comp_def,DR]
 refine Am hg (c:=True) (we:=[(dst,.osl gi vi 0 ((fl l).take (fk l)).length)]) (wo:=[(gi,some (vi,⟨false,false,1,ty',((fl l).take (fk l)).map (.int .i64)⟩))]) (rd:=rdK fa ++ (Bw args ++ [Key.o gi])) ?_ ?_ trivial ?_
 ·simp only [evalOp,R.run_bind,BA,Option.getD_some,hf,Dr hkb,hkb,BE,hΓ,hin,hr,CP,R.AW,AB,ho,R.AJ]
  simp [Af,hd,hl,List.take_of_length_le,AF,cells,plain]
  rw [List.length_take] at hfk
  exact ⟨hfk,by rw [List.drop_of_length_le (by simp),List.append_nil]⟩
 ·simp only [evalOp,R.AK,BA,Gd,Option.getD_some,hf,Dr hkb,hkb,BE,hΓ,hin,Dy,hr,CP,R.Cg,AB,ho,R.Co]
 ·exact h
theorem Gp (a : A) (hg : gOn e g = true) (hf : Ac e fa = some (.clo k caps)) (hΓ : Γ (k + 4096 * AR (Aq e args)) = some (Av ptr .val enc dec f encR encE)) (hde : ∀ a,dec (enc a) = a) (hr : (Ag ptr 0 (Aq e args ++ caps)).run ⟨e,o,n⟩ = (c,ds,w,ps))
  (hk : (Ag ptr 0 (Aq e args ++ caps)).rd ⟨e,o,n⟩ = rk) (hc : c) (hds : ds = enc a) (hb : f a = some b)
  (h : TrO Γ r (nv + 1) ⟨(dst,encR b) :: e,(Aj ps (encE b) ++ w) ++ o,n⟩ d (acc ++ [(gK g ++ (rdK fa ++ (Bw args ++ rk)),.e dst :: (Aj ps (encE b) ++ w).map (λx=>.o x.1),af)]) K t) (hkb : Nat.blt k 4096 = true:=by rfl) :
  TrO Γ (⟨some dst,.call fa args,g,af⟩ :: r) nv ⟨e,o,n⟩ d acc K t:=by
 subst hds
 refine DA (hkb:=hkb) hg hf hΓ (sp:=Av ptr .val enc dec f encR encE) hr hk (c2:=c /\ ∃ a' b',enc a = enc a' /\ f a' = some b') (we:=[(dst,encR b)]) (wo:=Aj ps (encE b) ++ w) ?_ ⟨hc,a,b,rfl,hb⟩ h
 simp only [Bg,BP hde hb,Dc hde hb,Af]
 rfl
theorem FH (a : A) (hg : gOn e g = true) (hf : Ac e fa = some (.clo k caps)) (hΓ : Γ (k + 4096 * AR (Aq e args)) = some (Av ptr .val enc dec f encR encE)) (hde : ∀ a,dec (enc a) = a) (hr : (Ag ptr 0 (Aq e args ++ caps)).run ⟨e,o,n⟩ = (c,ds,w,ps))
  (hk : (Ag ptr 0 (Aq e args ++ caps)).rd ⟨e,o,n⟩ = rk) (hc : c) (hds : ds = enc a) (hb : f a = some b)
  (h : TrO Γ r (nv + 1) ⟨e,(Aj ps (encE b) ++ w) ++ o,n⟩ d (acc ++ [(gK g ++ (rdK fa ++ (Bw args ++ rk)),(Aj ps (encE b) ++ w).map (λx=>.o x.1),af)]) K t) (hkb : Nat.blt k 4096 = true:=by rfl) :
  TrO Γ (⟨none,.call fa args,g,af⟩ :: r) nv ⟨e,o,n⟩ d acc K t:=by
 subst hds
 refine DA (hkb:=hkb) hg hf hΓ (sp:=Av ptr .val enc dec f encR encE) hr hk (c2:=c /\ ∃ a' b',enc a = enc a' /\ f a' = some b') (we:=[]) (wo:=Aj ps (encE b) ++ w) ?_ ⟨hc,a,b,rfl,hb⟩ h
 simp only [Bg,BP hde hb,Dc hde hb,Af]
 rfl
theorem EB (a : A) (hg : gOn e g = true) (hf : Ac e fa = some (.clo k caps)) (hΓ : Γ (k + 4096 * AR (Aq e args)) = some (Av [] .ground enc dec f encR encE)) (hde : ∀ a,dec (enc a) = a) (hr : (Ag [] 0 (Aq e args ++ caps)).run ⟨e,o,n⟩ = (c,ds,w,ps))
  (hk : (Ag [] 0 (Aq e args ++ caps)).rd ⟨e,o,n⟩ = rk) (hc : c) (hds : ds = enc a) (hb : f a = some b) (hgr : isGround (encR b) = true)
  (h : TrO Γ r (nv + 1) ⟨(dst,encR b) :: e,o,n⟩ d (acc ++ [(gK g ++ (rdK fa ++ (Bw args ++ rk)),[.e dst],af)]) K t) (hkb : Nat.blt k 4096 = true:=by rfl) :
  TrO Γ (⟨some dst,.call fa args,g,af⟩ :: r) nv ⟨e,o,n⟩ d acc K t:=by
 subst hds
 refine DA (hkb:=hkb) hg hf hΓ (sp:=Av [] .ground enc dec f encR encE) hr hk (c2:=c /\ (∃ a' b',enc a = enc a' /\ f a' = some b') /\ isGround (encR b) = true /\ ([] : List (Nat × (Nat × Nat))) = []) (we:=[(dst,encR b)]) (wo:=[]) ?_ ⟨hc,⟨a,b,rfl,hb⟩,hgr,rfl⟩ h
 simp only [Bg,BP hde hb,Af]
 simp [Av]
theorem Gn (a : A) {l : List α} {en : α -> D} (hg : gOn e g = true) (hf : Ac e fa = some (.clo k caps)) (hΓ : Γ (k + 4096 * AR (Aq e args)) = some (Av ptr (.row s ty) enc dec f encR encE)) (hde : ∀ a,dec (enc a) = a) (hr : (Ag ptr 0 (Aq e args ++ caps)).run ⟨e,o,n⟩ = (c,ds,w,ps))
  (hk : (Ag ptr 0 (Aq e args ++ caps)).rd ⟨e,o,n⟩ = rk) (hc : c) (hds : ds = enc a) (hb : f a = some b) (hl : encR b = .sl (l.map en))
  (h : TrO Γ r (nv + 1) ⟨(dst,.osl dst nv 0 l.length) :: e,((dst,some (nv,⟨false,false,s,ty,l.map en⟩)) :: (Aj ps (encE b) ++ w)) ++ o,n⟩ d (acc ++ [(gK g ++ (rdK fa ++ (Bw args ++ rk)),.e dst :: .o dst :: (Aj ps (encE b) ++ w).map (λx=>.o x.1),af)]) K t) (hkb : Nat.blt k 4096 = true:=by rfl) :
  TrO Γ (⟨some dst,.call fa args,g,af⟩ :: r) nv ⟨e,o,n⟩ d acc K t:=by
 subst hds
 refine DA (hkb:=hkb) hg hf hΓ (sp:=Av ptr (.row s ty) enc dec f encR encE) hr hk (c2:=c /\ (∃ a' b',enc a = enc a' /\ f a' = some b') /\ (some dst).isSome = true) (we:=[(dst,.osl dst nv 0 l.length)]) (wo:=(dst,some (nv,⟨false,false,s,ty,l.map en⟩)) :: (Aj ps (encE b) ++ w)) ?_ ⟨hc,⟨a,b,rfl,hb⟩,rfl⟩ h
 simp only [Bg,BP hde hb,Dc hde hb,hl,Af,AM]
 simp [Av]
theorem Gm (a : A) (hg : gOn e g = true) (hf : Ac e fa = some (.clo k caps)) (hΓ : Γ (k + 4096 * AR (Aq e args)) = some (Av ptr (.ptr s ty) enc dec f encR encE)) (hde : ∀ a,dec (enc a) = a) (hr : (Ag ptr 0 (Aq e args ++ caps)).run ⟨e,o,n⟩ = (c,ds,w,ps))
  (hk : (Ag ptr 0 (Aq e args ++ caps)).rd ⟨e,o,n⟩ = rk) (hc : c) (hds : ds = enc a) (hb : f a = some b)
  (h : TrO Γ r (nv + 1) ⟨(dst,.optr dst nv 0 0) :: e,((dst,some (nv,⟨false,true,s,ty,[encR b]⟩)) :: (Aj ps (encE b) ++ w)) ++ o,n⟩ d (acc ++ [(gK g ++ (rdK fa ++ (Bw args ++ rk)),.e dst :: .o dst :: (Aj ps (encE b) ++ w).map (λx=>.o x.1),af)]) K t) (hkb : Nat.blt k 4096 = true:=by rfl) :
  TrO Γ (⟨some dst,.call fa args,g,af⟩ :: r) nv ⟨e,o,n⟩ d acc K t:=by
 subst hds
 refine DA (hkb:=hkb) hg hf hΓ (sp:=Av ptr (.ptr s ty) enc dec f encR encE) hr hk (c2:=c /\ (∃ a' b',enc a = enc a' /\ f a' = some b') /\ (some dst).isSome = true) (we:=[(dst,.optr dst nv 0 0)]) (wo:=(dst,some (nv,⟨false,true,s,ty,[encR b]⟩)) :: (Aj ps (encE b) ++ w)) ?_ ⟨hc,⟨a,b,rfl,hb⟩,rfl⟩ h
 simp only [Bg,BP hde hb,Dc hde hb,Af,AM]
 simp [Av]
theorem NN (a : A) {q : Nat} {rs : List D} {z : D} (hg : gOn e g = true) (hf : Ac e fa = some (.clo k caps)) (hΓ : Γ (k + 4096 * AR (Aq e args)) = some (Av ptr (.tupPtr q s ty) enc dec f encR encE)) (hde : ∀ a,dec (enc a) = a) (hr : (Ag ptr 0 (Aq e args ++ caps)).run ⟨e,o,n⟩ = (c,ds,w,ps))
  (hk : (Ag ptr 0 (Aq e args ++ caps)).rd ⟨e,o,n⟩ = rk) (hc : c) (hds : ds = enc a) (hb : f a = some b) (hl : encR b = .tup rs) (hz : rs.getD q .top = z)
  (h : TrO Γ r (nv + 1) ⟨(dst,.tup (rs.set q (.optr dst nv 0 0))) :: e,((dst,some (nv,⟨false,true,s,ty,[z]⟩)) :: (Aj ps (encE b) ++ w)) ++ o,n⟩ d (acc ++ [(gK g ++ (rdK fa ++ (Bw args ++ rk)),.e dst :: .o dst :: (Aj ps (encE b) ++ w).map (λx=>.o x.1),af)]) K t) (hkb : Nat.blt k 4096 = true:=by rfl) :
  TrO Γ (⟨some dst,.call fa args,g,af⟩ :: r) nv ⟨e,o,n⟩ d acc K t:=by
 subst hds
 subst hz
 refine DA (hkb:=hkb) hg hf hΓ (sp:=Av ptr (.tupPtr q s ty) enc dec f encR encE) hr hk (c2:=c /\ (∃ a' b',enc a = enc a' /\ f a' = some b') /\ (some dst).isSome = true) (we:=[(dst,.tup (rs.set q (.optr dst nv 0 0)))]) (wo:=(dst,some (nv,⟨false,true,s,ty,[rs.getD q .top]⟩)) :: (Aj ps (encE b) ++ w)) ?_ ⟨hc,⟨a,b,rfl,hb⟩,rfl⟩ h
 simp only [Bg,BP hde hb,Dc hde hb,hl,Af,AM]
 simp [Av]
theorem QB {q : Nat} (hg : gOn e g = true) (hx : Aq e args = caps) (hc : ∀ d ∈ caps,Iq d = true)
  (h : TrO Γ r (nv + 1) ⟨(dst,.clo q caps) :: e,o,n⟩ d (acc ++ [(gK g ++ Bw args,[.e dst],af)]) K t) : TrO Γ (⟨some dst,.mkf q args,g,af⟩ :: r) nv ⟨e,o,n⟩ d acc K t :=
 Am hg (c:=∀ d ∈ caps,Iq d = true) (we:=[(dst,.clo q caps)]) (wo:=[]) (rd:=Bw args) (by simp [evalOp,BE,hx,Af]) (by simp [evalOp,Dy]) hc h
end
@[simp] theorem Lx (g : Nat) : (Ad g = false) ↔ g < 4096:=by
 simp only [Ad]
 cases hb : Nat.ble 4096 g
 ·simp only [true_iff]; by_cases h : g < 4096
  ·exact h
  ·rw [Nat.ble_eq_true_of_le (by omega)] at hb; cases hb
 ·have:=Nat.le_of_ble_eq_true hb; simp; omega
@[simp] theorem PX (g : Nat) : (Ad g = true) ↔ 4096 <= g:=by
 have:=Lx g
 cases hb : Ad g <;> simp_all <;> omega
section
variable {B α : Type} {e : List (Nat × D)} {o : List (Nat × Ae)} {n np : Nat} {ptr : List (Nat × (Nat × Nat))} {encR : B -> D} {encE : B -> List D} {b : B} {r0 : Bb} {rs : List Bb}
 {ce c c1 : Prop} {effs ds : List D} {we w : List (Nat × Ae)} {d0 d1 : D} {s ty g : Nat}
theorem Oq (he : (BV ptr).run ⟨e,o,n⟩ = (ce,effs,we)) (hce : ce) (heff : effs = encE b) (hr : (EG r0).run ⟨e,o,n⟩ = (c,d0,w)) (hc : c) (hd : d0 = encR b) : TrX .ret (BJ ptr .val [r0] encR encE) ⟨e,o,n⟩ (some b):=by
 rintro _ ⟨⟩
 refine ⟨_,.refl _,?_⟩
 simp only [Cx,he,hr]
 exact ⟨hce,heff,hc,hd⟩
theorem Lu (he : (BV ptr).run ⟨e,o,n⟩ = (ce,effs,we)) (hce : ce) (heff : effs = encE b) (hr : (EG r0).run ⟨e,o,n⟩ = (c,d0,w)) (hc : c) (hd : d0 = encR b) : TrX .ret (BJ ptr .ground [r0] encR encE) ⟨e,o,n⟩ (some b):=by
 rintro _ ⟨⟩
 refine ⟨_,.refl _,?_⟩
 simp only [Cx,he,hr]
 exact ⟨hce,heff,hc,hd⟩
theorem FG {_q : D -> Prop} (h : rs.length ≠ 1) (hk : ce /\ effs = encE b /\ c /\ .tup ds = encR b /\ rs.length ≠ 1) (he : (BV ptr).run ⟨e,o,n⟩ = (ce,effs,we)) (hr : (AL rs).run ⟨e,o,n⟩ = (c,ds,w)) (kind : Kind) (hkind : kind = .val \/ kind = .ground) :
  Cx ⟨ptr,kind,λ_=>True,λ_=>encR b,λ_=>encE b⟩ rs [] ⟨e,o,n⟩:=by
 rcases hkind with rfl | rfl <;> (
  simp only [Cx,he]
  refine ⟨hk.1,hk.2.1,?_⟩
  match rs,h,hr with
  | [],h,hr=>simp only [hr]; exact hk.2.2
  | [_],h,_=>exact (h rfl).elim
  | _ :: _ :: _,h,hr=>simp only [hr]; exact hk.2.2)
theorem JV (he : (BV ptr).run ⟨e,o,n⟩ = (ce,effs,we)) (hce : ce) (heff : effs = encE b) (hr : (AL rs).run ⟨e,o,n⟩ = (c,ds,w)) (hc : c) (hd : .tup ds = encR b) (hl : rs.length ≠ 1) : TrX .ret (BJ ptr .val rs encR encE) ⟨e,o,n⟩ (some b):=by
 rintro _ ⟨⟩
 refine ⟨_,.refl _,?_⟩
 exact FG (_q:=λ_=>True) hl ⟨hce,heff,hc,hd,hl⟩ he hr _ (.inl rfl)
theorem It (he : (BV ptr).run ⟨e,o,n⟩ = (ce,effs,we)) (hce : ce) (heff : effs = encE b) (hr : (AL rs).run ⟨e,o,n⟩ = (c,ds,w)) (hc : c) (hd : .tup ds = encR b) (hl : rs.length ≠ 1) : TrX .ret (BJ ptr .ground rs encR encE) ⟨e,o,n⟩ (some b):=by
 rintro _ ⟨⟩
 refine ⟨_,.refl _,?_⟩
 exact FG (_q:=λ_=>True) hl ⟨hce,heff,hc,hd,hl⟩ he hr _ (.inr rfl)
theorem Oo (he : (BV ptr).run ⟨e,o,n⟩ = (ce,effs,we)) (hce : ce) (heff : effs = encE b) (hr : (AH r0).run ⟨e,o,n⟩ = (c,d0)) (hc : c) (hs : (EF false s ty d0).run ⟨e,o,n⟩ = (c1,d1,g)) (hc1 : c1) (hd : d1 = encR b) (hw : we.all (λx=>x.1 != g) = true) :
  TrX .ret (BJ ptr (.row s ty) [r0] encR encE) ⟨e,o,n⟩ (some b):=by
 rintro _ ⟨⟩
 refine ⟨_,.refl _,?_⟩
 simp only [Cx,he,hr,hs]
 exact ⟨hce,heff,hc,hc1,hd,hw⟩
theorem On (hr : (AH r0).run ⟨e,o,n⟩ = (c,d0)) (hc : c) (hs : (Cr s ty d0).run ⟨e,o,n⟩ = (c1,d1,w,g)) (hc1 : c1) (hd : d1 = encR b) (he : (BV ptr).run ⟨e,o,n⟩ = (ce,effs,we)) (hce : ce) (heff : effs = encE b) (hrg : Ad g = false:=by rfl) :
  TrX .ret (BJ ptr (.ptr s ty) [r0] encR encE) ⟨e,o,n⟩ (some b):=by
 rintro _ ⟨⟩
 refine ⟨_,.refl _,?_⟩
 simp only [Cx,he,hr,hs]
 exact ⟨hce,heff,hc,hc1,hd,hrg⟩
theorem Lv {q : Nat} {cA cB cP : Prop} {dA dB : List D} {dP dq : D} {wA wB wP : List (Nat × Ae)} (hq : q < rs.length) (hl : rs.length ≠ 1) (hA : (AL (rs.take q)).run ⟨e,o,n⟩ = (cA,dA,wA)) (hcA : cA) (hB : (AL (rs.drop (q + 1))).run ⟨e,o,n⟩ = (cB,dB,wB)) (hcB : cB)
  (hr : (AH (rs.getD q (.t 0))).run ⟨e,o,n⟩ = (c,dq)) (hc : c) (hP : (Cr s ty dq).run ⟨e,o,n⟩ = (cP,dP,wP,g)) (hcP : cP) (hd : .tup (dA ++ dP :: dB) = encR b) (he : (BV []).run ⟨e,o,n⟩ = (ce,effs,we)) (hce : ce) (heff : effs = encE b) :
  TrX .ret (BJ [] (.tupPtr q s ty) rs encR encE) ⟨e,o,n⟩ (some b):=by
 rintro _ ⟨⟩
 refine ⟨_,.refl _,?_⟩
 have key : q < rs.length /\ rs.length ≠ 1 /\ True /\ ((AL (rs.take q)).run ⟨e,o,n⟩).1 /\ ((AL (rs.drop (q + 1))).run ⟨e,o,n⟩).1 /\ ((AH (rs.getD q (.t 0))).run ⟨e,o,n⟩).1 /\ ((Cr s ty ((AH (rs.getD q (.t 0))).run ⟨e,o,n⟩).2).run ⟨e,o,n⟩).1 /\
   .tup (((AL (rs.take q)).run ⟨e,o,n⟩).2.1 ++ ((Cr s ty ((AH (rs.getD q (.t 0))).run ⟨e,o,n⟩).2).run ⟨e,o,n⟩).2.1 :: ((AL (rs.drop (q + 1))).run ⟨e,o,n⟩).2.1) = encR b:=by
  rw [hA,hB,hr,hP]
  exact ⟨hq,hl,trivial,hcA,hcB,hc,hcP,hd⟩
 clear hA hB hr hP
 simp only [Cx,he]
 refine ⟨hce,heff,?_⟩
 cases rs with
 | nil=>exact key
 | cons r0 rs=>cases rs <;> exact key
end
@[simp] theorem PS (cs : List D) : cells (.agg cs) = cs:=rfl
def Jf (e : List (Nat × D)) : List (Nat × D) -> Prop
 | []=>True
 | (t,d) :: r=>(Cf e t).getD .top = d /\ Jf e r
def Jg (o : List (Nat × Ae)) : List (Nat × Ae) -> Prop
 | []=>True
 | (g,x) :: r=>lkO o g = x /\ Jg o r
theorem Jf.get {e : List (Nat × D)} : ∀ {E : List (Nat × D)},Jf e E -> ∀ p ∈ E,(Cf e p.1).getD .top = p.2
 | [],_,p,hp=>by cases hp
 | q :: r,h,p,hp=>by
  cases hp with
  | head=>exact h.1
  | tail _ hp=>exact Jf.get h.2 p hp
theorem Jg.get {o : List (Nat × Ae)} : ∀ {O : List (Nat × Ae)},Jg o O -> ∀ p ∈ O,lkO o p.1 = p.2
 | [],_,p,hp=>by cases hp
 | q :: r,h,p,hp=>by
  cases hp with
  | head=>exact h.1
  | tail _ hp=>exact Jg.get h.2 p hp
theorem Py {B : Type} {ptr : List (Nat × (Nat × Nat))} {kind : Kind} {rs : List Bb} {encR : B -> D} {encE : B -> List D} {τ : S} {t : Option B} {x : Ay} {E : List (Nat × D)} {O : List (Nat × Ae)} (hh : Has τ E O) (hx : ∀ id,x ≠ .exit id) (h : ∀ n,TrX .ret (BJ ptr kind rs encR encE) ⟨E,O,n⟩ t) : TrX x (BJ ptr kind rs encR encE) τ t:=λr hr=>by
 obtain ⟨n,hh⟩:=hh
 obtain ⟨τ',h1,h2⟩:=h n r hr
 cases x with
 | exit id=>exact (hx id rfl).elim
 | normal=>exact ⟨τ',hh.trans h1,h2⟩
 | ret=>exact ⟨τ',hh.trans h1,h2⟩
theorem SM {e E : List (Nat × D)} {o O : List (Nat × Ae)} {n : Nat} (hE : Jf e E) (hO : Jg o O) : Has ⟨e,o,n⟩ E O:=by
 refine ⟨n,?_⟩
 refine Chg.DT (τ:=⟨E,O,n⟩) [] ⟨?_,?_,?_,Nat.le_refl _⟩ (.refl _)
 ·intro p hp; cases hp
 ·intro p hp
  refine .inl (.inl ?_)
  have:=hE.get p hp
  rw [BW] at this
  exact this
 ·intro p hp
  refine .inl ?_
  have:=hO.get p hp
  simp only [S.gof,List.nil_append,AB]
  exact this
theorem Ok {x : D} {g v q q' : Nat} (h1 : x = .osl g v 0 q) (h2 : q = q') : x = .osl g v 0 q':=h2 ▸ h1
section
variable {e E : List (Nat × D)} {o O : List (Nat × Ae)} {n : Nat} {ws : List (Nat × Ae)} {α : Type}
def IZ (e : List (Nat × D)) (o : List (Nat × Ae)) (n : Nat) (ws : List (Nat × Ae)) : List (Nat × D) -> Prop
 | []=>True
 | (t,d) :: r=>Conv ⟨e,o,n⟩ ws ((Cf e t).getD .top) d /\ IZ e o n ws r
def Ja (e : List (Nat × D)) (o : List (Nat × Ae)) (n : Nat) (ws : List (Nat × Ae)) : List (Nat × Ae) -> Prop
 | []=>True
 | (g,x) :: r=>(lkO (ws ++ o) g = x \/ ∃ v p z z',lkO (ws ++ o) g = some (v,p) /\ p.var = true /\ p.es = [z] /\ x = some (v,{ p with es:=[z'] }) /\ Conv ⟨e,o,n⟩ ws z z') /\ Ja e o n ws r
def FzB (o : List (Nat × Ae)) : List (Nat × Ae) -> Prop
 | []=>True
 | (g,x) :: r=>(∃ v p,lkO o g = some (v,p) /\ p.var = false /\ x = some (v,{ p with fz:=true })) /\ FzB o r
theorem ML (ws : List (Nat × Ae)) (hw : FzB o ws) (hE : IZ e o n ws E) (hO : Ja e o n ws O) : Has ⟨e,o,n⟩ E O:=by
 refine ⟨n,?_⟩
 refine Chg.DT (τ:=⟨E,O,n⟩) ws ⟨?_,?_,?_,Nat.le_refl _⟩ (.refl _)
 ·clear hE hO
  induction ws with
  | nil=>intro p hp; cases hp
  | cons q r ih =>
   intro p hp
   cases hp with
   | head =>
    obtain ⟨v,p,h1,h2,h3⟩:=hw.1
    exact ⟨v,p,by rw [AB]; exact h1,h2,h3⟩
   | tail _ hp=>exact ih hw.2 p hp
 ·clear hw hO
  induction E with
  | nil=>intro p hp; cases hp
  | cons q r ih =>
   intro p hp
   cases hp with
   | head =>
    have:=hE.1
    rw [BW] at this
    exact this
   | tail _ hp=>exact ih hE.2 p hp
 ·clear hw hE
  induction O with
  | nil=>intro p hp; cases hp
  | cons q r ih =>
   intro p hp
   cases hp with
   | head =>
    simp only [S.gof,AB]
    exact hO.1
   | tail _ hp=>exact ih hO.2 p hp
theorem LL {x d : D} (h : x = d) : Conv ⟨e,o,n⟩ ws x d:=.inl (.inl h)
theorem HF {x d : D} (h : x = d) : DC ⟨e,o,n⟩ ws x d:=.inl h
theorem Es {x : D} (en : α -> D) (h : x = .nils) : DC ⟨e,o,n⟩ ws x (.sl (([] : List α).map en)):=by
 subst h
 exact .inr ⟨trivial,rfl,λp hp=>by cases hp⟩
theorem Et {x : D} {g v q s ty : Nat} {fz : Bool} {l : List α} {en : α -> D} (h : x = .osl g v 0 q) (hq : q = l.length) (ho : lkO o g = some (v,⟨fz,false,s,ty,l.map en⟩)) (hw : (g,some (v,(⟨true,false,s,ty,l.map en⟩ : Own))) ∈ ws) : DC ⟨e,o,n⟩ ws x (.sl (l.map en)):=by
 subst h; subst hq
 refine .inr ⟨?_,?_,?_⟩
 ·simp [AN,ho]
 ·simp [AN,ho]; exact List.take_of_length_le (by simp)
 ·intro p hp
  simp [AN,ho] at hp
  subst hp
  exact hw
theorem FT {x : D} {g v i s ty : Nat} {fz : Bool} {l : List α} {en : α -> D} (h : x = .osl g v i (l.length - i)) (hi : i <= l.length) (ho : lkO o g = some (v,⟨fz,false,s,ty,l.map en⟩)) (hw : (g,some (v,(⟨true,false,s,ty,l.map en⟩ : Own))) ∈ ws) : DC ⟨e,o,n⟩ ws x (.sl ((l.drop i).map en)):=by
 subst h
 refine .inr ⟨?_,?_,?_⟩
 ·simp [AN,ho]; omega
 ·simp [AN,ho]; exact List.take_of_length_le (by simp)
 ·intro p hp
  simp [AN,ho] at hp
  subst hp
  exact hw
theorem DO {x d : D} (h : DC ⟨e,o,n⟩ ws x d) : Conv ⟨e,o,n⟩ ws x d:=.inl h
theorem Jn {x : D} {cs cs' : List D} (h : x = .agg cs) (hc : EJ ⟨e,o,n⟩ ws cs cs') : Conv ⟨e,o,n⟩ ws x (.agg cs'):=.inr ⟨cs,cs',h,rfl,hc⟩
end
@[simp] theorem Dq {α : Type} (en : α -> D) (l : List α) : List.take l.length (l.map en) = l.map en:=List.take_of_length_le (by simp)
@[simp] theorem Ab {α : Type} (en : α -> D) (l : List α) (i : Nat) : List.take (l.length - i) (List.drop i (l.map en)) = (l.drop i).map en:=by
 rw [<- List.map_drop]; exact List.take_of_length_le (by simp)
@[simp] theorem Po {α : Type} (en : α -> D) (l : List α) (i : Nat) (y : D) : List.take l.length ((l.map en).set i y) = (l.map en).set i y:=List.take_of_length_le (by simp)
theorem Aa {α : Type} (en : α -> D) (l : List α) : List.take l.length (List.drop 0 (l.map en)) = l.map en:=Dq en l
theorem Cz {α : Type} (en : α -> D) (l : List α) {q : Nat} (h : q = l.length) : List.take q (List.drop 0 (l.map en)) = l.map en:=h ▸ Dq en l
theorem Cu {α : Type} (en : α -> D) (l : List α) {q : Nat} (h : q = l.length) : List.take q (l.map en) = l.map en:=h ▸ Dq en l
@[simp] theorem Pn {α : Type} (en : α -> D) (l l' : List α) : List.take (l.length + l'.length) (l.map en ++ l'.map en) = l.map en ++ l'.map en:=List.take_of_length_le (by simp)
def cel (d : D) (i : Nat) : D:=match d with | .agg cs=>cs.getD i .top | .tup cs=>cs.getD i .top | _=>.top
def uI : D -> Int | .int _ n=>n | _=>0
def uBo : D -> Bool | .bool b=>b | _=>false
def uS : D -> List UInt8 | .str s=>s | _=>[]
def uL {α : Type} (u : D -> α) : D -> List α | .sl es=>es.map u | _=>[]
abbrev eI (k : IntKind) (n : Int) : D:=.int k n
abbrev eBo (b : Bool) : D:=.bool b
abbrev eS (s : List UInt8) : D:=.str s
abbrev eL {α : Type} (en : α -> D) (l : List α) : D:=.sl (l.map en)
@[simp] theorem Qr {α : Type} {u : D -> α} {en : α -> D} (h : ∀ a,u (en a) = a) (l : List α) : uL u (.sl (l.map en)) = l:=by
 simp only [uL,List.map_map]
 conv=>rhs; rw [<- List.map_id l]
 exact List.map_congr_left λa _=>h a
end Go.Dw
namespace Go.Dw
open Go.ChangeShapes Go.WideShapes Go.ChangeAt Go.RowKit Go.Deep
def Rq (W : World) : Fz:=λb i=>W.cell? ⟨b,i,none⟩
def Rep (W : World) (ds : List D) (cs : List Value) : Prop:=ds.length = cs.length /\ (∀ v ∈ cs,v.oneCell' = true) /\ ∀ (j : Nat) c v,ds[j]? = some c -> cs[j]? = some v -> Fro (Rq W) c v
structure Rd (P : Program) (W : World) {T : Type} (t : TypeId) (en : T -> D) (Q : T -> Prop) : Prop where
 rd : ∀ {H : Type} {enc : TypeId × Value -> H} (n : Nat) (cs : List Value) (x : DataW H × List MemPlace),DataW.trod enc P W 0 (λ_=>true) true n t cs = some x -> ∃ a,Q a /\ Rep W (cells (en a)) cs
def RL (k : IntKind) (n : Int) : Prop:=k.min <= n /\ n <= k.max
def QJ {T : Type} (_ : T) : Prop:=True
def QK (s : List UInt8) : Prop:=s.length <= maxLen
def qL {T : Type} (q : T -> Prop) (l : List T) : Prop:=l.length <= maxLen /\ ∀ x ∈ l,q x
section
variable {P : Program} {W : World} {t e : TypeId}
theorem Rep.one {d : D} {v : Value} (h1 : v.oneCell' = true) (h : Fro (Rq W) d v) : Rep W [d] [v]:=by
 refine ⟨rfl,λx hx=>?_,λj c x hc hx=>?_⟩
 ·simp only [List.mem_singleton] at hx; subst hx; exact h1
 ·rcases j with _ | j
  ·simp only [List.getElem?_cons_zero,Option.some.injEq] at hc hx
   subst hc; subst hx; exact h
  ·simp at hc
theorem Rd.int {k : IntKind} (ht : P.underlying t = some (.int k)) : Rd P W t (D.int k) (λn=>k.min <= n /\ n <= k.max):=by
 refine ⟨λn cs x h=>?_⟩
 cases n with
 | zero=>simp [DataW.trod] at h
 | succ n =>
  simp only [DataW.trod,ht] at h
  split at h <;> rename_i h1 <;> try (cases h1; done)
  all_goals try (cases h; done)
  cases h1
  split at h
  ·rename_i hc
   obtain ⟨rfl,hw⟩:=hc
   exact ⟨_,by simpa [Lit.wf] using hw,Rep.one rfl (.int _ _)⟩
  ·cases h
theorem Rd.bool (ht : P.underlying t = some .bool) : Rd P W t D.bool (λ_=>True):=by
 refine ⟨λn cs x h=>?_⟩
 cases n with
 | zero=>simp [DataW.trod] at h
 | succ n =>
  simp only [DataW.trod,ht] at h
  split at h <;> rename_i h1 <;> try (cases h1; done)
  all_goals try (cases h; done)
  exact ⟨_,trivial,Rep.one rfl (.bool _)⟩
theorem Rd.str (ht : P.underlying t = some .string) : Rd P W t D.str (λs=>s.length <= maxLen):=by
 refine ⟨λn cs x h=>?_⟩
 cases n with
 | zero=>simp [DataW.trod] at h
 | succ n =>
  simp only [DataW.trod,ht] at h
  split at h <;> simp_all
  rename_i s
  exact ⟨s.data.toList,by simpa using h.1,Rep.one rfl (by have:=Fro.str (F:=Rq W) s.data.toList; simpa using this)⟩
theorem HE {a : Addr} {n : Nat} {cs : List Value} (h : W.cells? 0 a n = some cs) : cs.length = n /\ ∀ i,i < n -> W.cell? (a.add i) = cs[i]?:=by
 unfold World.cells? at h
 rw [if_pos (Nat.zero_le _)] at h
 have hl:=mapM_some_length h
 simp only [List.length_range] at hl
 exact ⟨hl,λi hi=>mapM_some_get h i i (by simp [hi])⟩
theorem Mt {a : Addr} {v : Value} (h : W.cell? a = some v) : a = ⟨a.block,a.off,none⟩:=by
 unfold World.cell? at h
 split at h
 ·split at h
  ·cases h
  ·rename_i hs
   obtain ⟨b,o,s⟩:=a
   cases s with
   | none=>rfl
   | some s=>simp at hs
 ·cases h
theorem Rd.slice {T : Type} [Inhabited T] {en : T -> D} {Q : T -> Prop} (ht : P.underlying t = some (.slice e)) (hs : 0 < P.cellsOf e) (hc : ∀ a,(cells (en a)).length = P.cellsOf e) (he : Rd P W e en Q) :
  Rd P W t (eL en) (λl=>l.length <= maxLen /\ ∀ x ∈ l,Q x):=by
 refine ⟨λn cs x h=>?_⟩
 rcases DataW.trod_slice ht h with ⟨rfl,_⟩ | ⟨a,len,cap,elems,rest,m,_,rfl,_,_,hl,hm,hlen,hel,_,_⟩
 ·exact ⟨[],⟨Nat.zero_le _,λx hx=>by cases hx⟩,Rep.one rfl (.sl0 none 0)⟩
 ·have each : ∀ i,∃ p : T × List Value,i < len -> W.cells? 0 (a.add (i * P.cellsOf e)) (P.cellsOf e) = some p.2 /\ Q p.1 /\ Rep W (cells (en p.1)) p.2:=by
   intro i
   by_cases hi : i < len
   ·have h1:=hel i hi
    have h2 : i < elems.length:=by omega
    rw [List.getElem?_eq_getElem h2,Option.bind_eq_some_iff] at h1
    obtain ⟨cs,h3,h4⟩:=h1
    obtain ⟨q,hq,hr⟩:=he.rd m cs _ h4
    exact ⟨(q,cs),λ_=>⟨h3,hq,hr⟩⟩
   ·exact ⟨(default,[]),λh=>absurd h hi⟩
  obtain ⟨f,hf⟩:=Classical.axiomOfChoice each
  have hes : ((List.range len).map λi=>(f i).1).length = len:=by simp
  refine ⟨(List.range len).map λi=>(f i).1,⟨by rw [hes]; omega,λx hx=>?_⟩,Rep.one rfl ?_⟩
  ·simp only [List.mem_map,List.mem_range] at hx
   obtain ⟨i,hi,rfl⟩:=hx
   exact (hf i hi).2.1
  ·by_cases h0 : len = 0
   ·subst h0
    exact .sl0 _ _
   ·have hget : ∀ (i j : Nat),i < len -> j < P.cellsOf e -> W.cell? ((a.add (i * P.cellsOf e)).add j) = (f i).2[j]?:=λi j hi hj=>(HE (hf i hi).1).2 j hj
    have hlenc : ∀ i,i < len -> (f i).2.length = P.cellsOf e:=λi hi=>(HE (hf i hi).1).1
    have ha : a = ⟨a.block,a.off,none⟩:=by
     have h1:=hget 0 0 (by omega) hs
     have h2 : 0 < (f 0).2.length:=by rw [hlenc 0 (by omega)]; exact hs
     rw [List.getElem?_eq_getElem h2] at h1
     simp only [Nat.zero_mul,Addr.add,if_true] at h1
     exact Mt h1
    generalize a.block = b at ha
    generalize a.off = o at ha
    subst ha
    have hidx : ∀ (i : Nat) x,(((List.range len).map λi=>(f i).1).map en)[i]? = some x -> i < len /\ x = en (f i).1:=by
     intro i x hx
     simp only [List.getElem?_map,Option.map_eq_some_iff] at hx
     obtain ⟨q,⟨r,hr,rfl⟩,rfl⟩:=hx
     obtain ⟨h1,h2⟩:=List.getElem?_eq_some_iff.1 hr
     simp only [List.getElem_range] at h2
     subst h2
     exact ⟨by simpa using h1,rfl⟩
    have key : ∀ (i j : Nat) x c,(((List.range len).map λi=>(f i).1).map en)[i]? = some x -> (cells x)[j]? = some c -> i < len /\ ∃ v,(f i).2[j]? = some v /\ Rq W b (o + i * P.cellsOf e + j) = some v /\ v.oneCell' = true /\ Fro (Rq W) c v:=by
     intro i j x c hx hj
     obtain ⟨hi,rfl⟩:=hidx i x hx
     obtain ⟨_,_,r1,r2,r3⟩:=hf i hi
     have hjl : j < (cells (en (f i).1)).length:=(List.getElem?_eq_some_iff.1 hj).1
     have hjl' : j < (f i).2.length:=by rw [<- r1]; exact hjl
     have hv:=List.getElem?_eq_getElem hjl'
     refine ⟨hi,_,hv,?_,r2 _ (List.getElem_mem hjl'),r3 j c _ hj hv⟩
     have:=hget i j hi (by rw [<- hc (f i).1]; exact hjl)
     rw [BH,BH,hv] at this
     exact this
    have:=Fro.sl (F:=Rq W) (((List.range len).map λi=>(f i).1).map en) b o cap (P.cellsOf e) (λi j=>(f i).2.getD j undef) (by simpa using hl)
     (λx hx=>by
      simp only [List.mem_map] at hx
      obtain ⟨q,_,rfl⟩:=hx
      exact hc q)
     (λi j x c hx hj=>by
      obtain ⟨_,v,h1,h2,_⟩:=key i j x c hx hj
      rw [h2,List.getD_eq_getElem?_getD,h1]; rfl)
     (λi j x c hx hj=>by
      obtain ⟨_,v,h1,_,h3,_⟩:=key i j x c hx hj
      rw [List.getD_eq_getElem?_getD,h1]; exact h3)
     (λi j x c hx hj=>by
      obtain ⟨_,v,h1,_,_,h4⟩:=key i j x c hx hj
      rw [List.getD_eq_getElem?_getD,h1]; exact h4)
    rw [List.length_map,hes] at this
    exact this
theorem Rep.append {ds ds' : List D} {cs cs' : List Value} (h : Rep W ds cs) (h' : Rep W ds' cs') : Rep W (ds ++ ds') (cs ++ cs'):=by
 obtain ⟨h1,h2,h3⟩:=h
 obtain ⟨k1,k2,k3⟩:=h'
 refine ⟨by simp [h1,k1],λv hv=>(List.mem_append.1 hv).elim (h2 v) (k2 v),λj c v hc hv=>?_⟩
 by_cases hj : j < ds.length
 ·rw [List.getElem?_append_left hj] at hc
  rw [List.getElem?_append_left (by omega)] at hv
  exact h3 j c v hc hv
 ·rw [List.getElem?_append_right (by omega)] at hc
  rw [List.getElem?_append_right (by omega),<- h1] at hv
  exact k3 _ c v hc hv
theorem Ft {α : Type} (l : List α) (a b : Nat) : (l.drop a).take b ++ l.drop (a + b) = l.drop a:=by
 rw [<- List.drop_drop,List.take_append_drop]
theorem Rd.Qw {T T0 : Type} {f0 : Field} {en : T -> D} {e0 : T0 -> D} {Q : T -> Prop} {Q0 : T0 -> Prop} (mk : T0 -> T) (ht : P.underlying t = some (.struct #[f0])) (o0 : f0.offset = 0) (hsz : P.cellsOf t = P.cellsOf f0.type)
  (h0 : Rd P W f0.type e0 Q0) (hmk : ∀ a,cells (en (mk a)) = cells (e0 a)) (hQ : ∀ a,Q0 a -> Q (mk a)) : Rd P W t en Q:=by
 refine ⟨λn cs x h=>?_⟩
 obtain ⟨y0,m,_,hl,k0⟩:=trod_struct1 ht h
 obtain ⟨a,q0,r0⟩:=h0.rd m _ _ k0
 refine ⟨mk a,hQ a q0,?_⟩
 rw [hmk]
 rw [o0,List.drop_zero,<- hsz,<- hl,List.take_length] at r0
 exact r0
theorem Rd.Qx {T T0 T1 : Type} {f0 f1 : Field} {en : T -> D} {e0 : T0 -> D} {e1 : T1 -> D} {Q : T -> Prop} {Q0 : T0 -> Prop} {Q1 : T1 -> Prop} (mk : T0 -> T1 -> T) (ht : P.underlying t = some (.struct #[f0,f1])) (o0 : f0.offset = 0) (o1 : f1.offset = P.cellsOf f0.type)
  (hsz : P.cellsOf t = P.cellsOf f0.type + P.cellsOf f1.type) (h0 : Rd P W f0.type e0 Q0) (h1 : Rd P W f1.type e1 Q1) (hmk : ∀ a b,cells (en (mk a b)) = cells (e0 a) ++ cells (e1 b)) (hQ : ∀ a b,Q0 a -> Q1 b -> Q (mk a b)) : Rd P W t en Q:=by
 refine ⟨λn cs x h=>?_⟩
 obtain ⟨y0,y1,m,_,hl,k0,k1⟩:=trod_struct2 ht h
 obtain ⟨a,q0,r0⟩:=h0.rd m _ _ k0
 obtain ⟨b,q1,r1⟩:=h1.rd m _ _ k1
 refine ⟨mk a b,hQ a b q0 q1,?_⟩
 rw [hmk]
 have:=r0.append r1
 have e1 : List.take (P.cellsOf f1.type) (List.drop (P.cellsOf f0.type) cs) = List.drop (P.cellsOf f0.type) cs:=List.take_of_length_le (by simp; omega)
 rw [o0,o1,e1,List.drop_zero,List.take_append_drop] at this
 exact this
theorem Rd.Qy {T T0 T1 T2 : Type} {f0 f1 f2 : Field} {en : T -> D} {e0 : T0 -> D} {e1 : T1 -> D} {e2 : T2 -> D} {Q : T -> Prop} {Q0 : T0 -> Prop} {Q1 : T1 -> Prop} {Q2 : T2 -> Prop} (mk : T0 -> T1 -> T2 -> T) (ht : P.underlying t = some (.struct #[f0,f1,f2]))
  (o0 : f0.offset = 0) (o1 : f1.offset = P.cellsOf f0.type) (o2 : f2.offset = P.cellsOf f0.type + P.cellsOf f1.type)
  (hsz : P.cellsOf t = P.cellsOf f0.type + P.cellsOf f1.type + P.cellsOf f2.type) (h0 : Rd P W f0.type e0 Q0) (h1 : Rd P W f1.type e1 Q1) (h2 : Rd P W f2.type e2 Q2)
  (hmk : ∀ a b c,cells (en (mk a b c)) = cells (e0 a) ++ (cells (e1 b) ++ cells (e2 c))) (hQ : ∀ a b c,Q0 a -> Q1 b -> Q2 c -> Q (mk a b c)) : Rd P W t en Q:=by
 refine ⟨λn cs x h=>?_⟩
 obtain ⟨y0,y1,y2,m,_,hl,k0,k1,k2⟩:=trod_struct3 ht h
 obtain ⟨a,q0,r0⟩:=h0.rd m _ _ k0
 obtain ⟨b,q1,r1⟩:=h1.rd m _ _ k1
 obtain ⟨c,q2,r2⟩:=h2.rd m _ _ k2
 refine ⟨mk a b c,hQ a b c q0 q1 q2,?_⟩
 rw [hmk]
 have:=r0.append (r1.append r2)
 have e2 : List.take (P.cellsOf f2.type) (List.drop (P.cellsOf f0.type + P.cellsOf f1.type) cs) = List.drop (P.cellsOf f0.type + P.cellsOf f1.type) cs:=List.take_of_length_le (by simp; omega)
 rw [o0,o1,o2,e2,Ft,List.drop_zero,List.take_append_drop] at this
 exact this
theorem Rd.arg {T : Type} {en : T -> D} {Q : T -> Prop} (h : Rd P W t en Q) (hagg : ∀ a,(match P.underlying t with | some (.struct _) | some (.array _ _)=>True | _=>False) -> ∃ cs,en a = .agg cs)
  (hone : ∀ a,¬ (match P.underlying t with | some (.struct _) | some (.array _ _)=>True | _=>False) -> cells (en a) = [en a])
  {H : Type} {enc : TypeId × Value -> H} {b0 : Nat} {v : Value} {d : DataW H} {p : List MemPlace} (hv : Value.okWide P W .any b0 t v) (hr : DataW.Trod enc P W 0 (λ_=>true) true t v d p) : ∃ a,Q a /\ Fro (Rq W) (en a) v:=by
 obtain ⟨n,hn⟩:=hr
 obtain ⟨a,hq,r1,r2,r3⟩:=h.rd n _ _ hn
 refine ⟨a,hq,?_⟩
 by_cases hs : (match P.underlying t with | some (.struct _) | some (.array _ _)=>True | _=>False)
 ·obtain ⟨cs,hcs⟩:=hagg a hs
  have hva : ∃ C,v = .agg C:=by
   unfold Value.okWide at hv
   split at hv
   ·obtain ⟨C,rfl,_⟩:=hv; exact ⟨C,rfl⟩
   ·obtain ⟨C,rfl,_⟩:=hv; exact ⟨C,rfl⟩
   ·rename_i h1 h2
    split at hs
    ·rename_i fs hu; exact absurd hu (h1 fs)
    ·rename_i m e hu; exact absurd hu (h2 m e)
    ·exact hs.elim
  obtain ⟨C,rfl⟩:=hva
  rw [hcs] at r1 r3 ⊢
  simp only [Value.cells] at r1 r2 r3
  have:=Fro.agg (F:=Rq W) cs C.toList r1 r2 r3
  simpa using this
 ·have h1:=hone a hs
  have hva : ∃ x,v.cells.toList = [x] /\ v = x:=by
   have hl : v.cells.toList.length = 1:=by rw [<- r1,h1]; rfl
   cases v with
   | agg C =>
    exfalso
    unfold Value.okWide at hv
    split at hv
    ·rename_i fs hu; exact hs (by rw [hu]; trivial)
    ·rename_i m e hu; exact hs (by rw [hu]; trivial)
    ·unfold Cell.okWide at hv
     split at hv <;> first | (rename_i h1 h2; cases h2) | skip
     unfold Cell.ok at hv
     split at hv <;> first | (rename_i h1 h2; cases h2) | exact hv
   | _=>exact ⟨_,rfl,rfl⟩
  obtain ⟨x,hx,rfl⟩:=hva
  rw [h1] at r3
  exact r3 0 _ _ rfl (by rw [hx]; rfl)
end
end Go.Dw
namespace Go.Dw
open Go.ChangeShapes Go.WideShapes Go.ChangeAt Go.RowKit
section
variable {H : Type} {enc : TypeId × Value -> H} {P : Program} {W W' : World}
theorem MJ (hb : ∀ b,b < W.heap.size -> W'.heap[b]? = W.heap[b]?) {a : Addr} (h : a.block < W.heap.size) : W'.cell? a = W.cell? a:=by
 unfold World.cell?
 rw [hb _ h]
theorem Li (hb : ∀ b,b < W.heap.size -> W'.heap[b]? = W.heap[b]?) {a : Addr} (h : a.block < W.heap.size) : W'.frozen? a = W.frozen? a:=by
 unfold World.frozen?
 rw [hb _ h]
theorem MX (hb : ∀ b,b < W.heap.size -> W'.heap[b]? = W.heap[b]?) {p : MemPlace} (h : p.block < W.heap.size) : W.sameAt W' p:=by
 cases p with
 | cell b off=>exact MJ hb h
 | map b=>exact hb b h
theorem FO {sp : Nat -> Bool} (K : Kids P (· < P.types.size)) (hz : ∀ t e,t < P.types.size -> P.underlying t = some (.slice e) -> 0 < P.cellsOf e) : ∀ {ts : List TypeId} {vs : List Value} {ds : List (DataW H)} {ps : List MemPlace},(∀ t ∈ ts,t < P.types.size) ->
  DataW.TrodAll enc P W 0 (λ_=>true) true ts vs ds ps -> (∀ p ∈ ps,W.sameAt W' p) -> (∀ p ∈ ps,sp p.block = true) -> DataW.TrodAll enc P W' 0 sp true ts vs ds ps
 | [],[],[],_,_,h,_,_=>h
 | _ :: _,_ :: _,_ :: _,_,hT,⟨p,q,⟨n,h1⟩,h2,e⟩,hs,hsp=>by
  subst e
  exact ⟨p,q,⟨n,DataW.trod_respare K hz n _ _ _ (hT _ (List.mem_cons.2 (Or.inl rfl))) (DataW.trod_carry n _ _ _ h1 (λx hx=>hs x (List.mem_append_left _ hx))) (λx hx=>hsp x (List.mem_append_left _ hx))⟩,
   FO K hz (λt ht=>hT t (List.mem_cons.2 (Or.inr ht))) h2 (λx hx=>hs x (List.mem_append_right _ hx)) (λx hx=>hsp x (List.mem_append_right _ hx)),rfl⟩
 | [],[],_ :: _,_,_,h,_,_=>h.elim
 | [],_ :: _,_,_,_,h,_,_=>h.elim
 | _ :: _,[],_,_,_,h,_,_=>h.elim
 | _ :: _,_ :: _,[],_,_,h,_,_=>h.elim
theorem IX {f : Func} {s : ChangeSpec} {apart fresh handsOn again : Bool} {args : Array Value} {v : Value} {ds gs : List (DataW H)} {before : List MemPlace}
  (hW : DataW.Whole enc P f.params.toList s.vars apart W args.toList ds gs before) (hvs : s.vars = []) (K : Kids P (· < P.types.size)) (hz : ∀ t e,t < P.types.size -> P.underlying t = some (.slice e) -> 0 < P.cellsOf e) (hts : ∀ t ∈ f.params.toList,t < P.types.size)
  (hres : ∀ (b : Nat) (sp : Nat -> Bool) (hd : Bool),DataW.TrodAll enc P W' b sp hd f.resultTypes.toList (v.resultList f.resultTypes.size) (s.fn H (ds ++ gs)).results [])
  (hargs : (s.fn H (ds ++ gs)).args = ds) (hvars : (s.fn H (ds ++ gs)).vars = []) (hos : W'.os = W.os) (hout : W'.output = W.output) (hb : ∀ b,b < W.heap.size -> W'.heap[b]? = W.heap[b]?)
  (hok : ∀ (j : Nat) (t : TypeId) (r : Value),f.resultTypes[j]? = some t -> (v.resultList f.resultTypes.size)[j]? = some r -> Value.okWide P W' .any 0 t r) :
  s.post enc P f apart fresh handsOn again W args v W':=by
 have hW':=hW
 obtain ⟨p,q,hA,hV,e,hzz,hn⟩:=hW
 rw [hvs] at hV
 obtain ⟨rfl,rfl⟩:=trodVars_none hV
 subst e
 simp only [List.append_nil] at hW' hn hzz
 have hlt : ∀ x ∈ p,x.block < W.heap.size:=hW'.lt
 have hargs' : ∀ sp : Nat -> Bool,(∀ x ∈ p,sp x.block = true) -> DataW.TrodAll enc P W' 0 sp true f.params.toList args.toList (s.fn H (ds ++ [])).args p:=by
  intro sp hsp
  rw [hargs]
  exact FO K hz hts hA (λx hx=>MX hb (hlt x hx)) hsp
 have hvars' : ∀ sp : Nat -> Bool,DataW.TrodVars enc P W' sp s.vars (s.fn H (ds ++ [])).vars []:=by
  intro sp
  rw [hvs,hvars]
  exact (rfl : ([] : List MemPlace) = [])
 have hold : ∀ x ∈ p,(λb=>decide (b < W.heap.size)) x.block = true:=λx hx=>by simpa using hlt x hx
 refine ⟨ds,[],p,[],p,[],hW',hres _ _ _,hargs' _ hold,hvars' _,⟨hos,hout,λi hi=>?_⟩,λ_=>?_⟩
 ·rw [hb i hi]
  cases W.heap[i]? with
  | none=>rfl
  | some o=>cases o <;> first | exact ⟨rfl,rfl,rfl,λ_ _=>rfl⟩ | exact .inr ⟨rfl,rfl⟩ | rfl
 ·refine ⟨hok,_,_,([] ++ p) ++ [],⟨[] ++ p,[],trodAll_append (hargs' _ (λ_ _=>rfl)) (hres _ _ _),hvars' _,rfl,?_,?_⟩,?_⟩
  ·intro b off hp
   have hp' : MemPlace.cell b off ∈ p:=by simpa using hp
   rw [Li hb (hlt _ hp')]
   exact hzz b off hp'
  ·intro ha
   have:=hn ha
   simpa using this
  ·intro x hp _
   simpa using hp
theorem Ta {k : Nat} {fn : Func} {A : Type} {enc0 : A -> List D} {dec0 : List D -> A} {f : A -> Option Bool} {encR : Bool -> D} {encE : Bool -> List D} (hspec : Lo P k (Av [] .ground enc0 dec0 f encR encE)) (hde : ∀ a,dec0 (enc0 a) = a) (hR : encR true = .bool true)
  {s : ChangeSpec} {apart fresh handsOn again : Bool} {args : Array Value} {ds gs : List (DataW H)} {before : List MemPlace} (hW : DataW.Whole enc P fn.params.toList s.vars apart W args.toList ds gs before) (hvs : s.vars = [])
  (hl : laidOutB P = true) (hm : mapsRowed P = true) (hz : ((List.range P.types.size).all λt=>match P.underlying t with | some (.slice e)=>decide (0 < P.cellsOf e) | _=>true) = true) (hts : fn.params.toList.all (λt=>decide (t < P.types.size)) = true)
  {tb : TypeId} (hrt : fn.resultTypes = #[tb]) (htb : P.underlying tb = some .bool) (hfn : ∀ ds : List (DataW H),ds.length = fn.params.size -> s.fn H ds = { results:=[.lit (.bool true)],args:=ds,vars:=[] }) (hlen : ds.length = fn.params.size)
  (hglob : Rx P (Rq W)) (hread : ∃ a,Cd (Rq W) W [] 0 (enc0 a) args.toList [] /\ f a = some true) :
  Calls P k args W λe W'=>∃ v,e = .returned v /\ s.post enc P fn apart fresh handsOn again W args v W':=by
 obtain ⟨a,hA,hfa⟩:=hread
 have hgs : gs = []:=by
  obtain ⟨p,q,_,hV,_⟩:=hW
  rw [hvs] at hV
  exact (trodVars_none hV).1
 subst hgs
 have hF : Fok (Rq W) W:=λb i x h=>h
 have hfin : ∀ b i x,Rq W b i = some x -> b < W.heap.size:=by
  intro b i x h
  simp only [Rq,World.cell?] at h
  split at h
  ·rename_i hb
   exact (Array.getElem?_eq_some_iff.1 hb).1
  ·cases h
 have h:=(hspec (Rq W) hglob).2.2.1 rfl rfl W (Rq W) (enc0 a) args.toList [] (Ai.refl _) hF hfin hA ⟨a,true,rfl,hfa⟩
 have e0 : args.toList.toArray = args:=by simp
 rw [e0] at h
 refine h.mono λe W' hq=>?_
 obtain ⟨v,F',_,_,rfl,_,_,hst,hres,_⟩:=hq
 have hv : v = .bool true:=by
  have h1 : Fro F' ((Av [] .ground enc0 dec0 f encR encE).res (enc0 a)) v:=hres
  rw [BP hde hfa,hR] at h1
  cases h1
  rfl
 subst hv
 refine ⟨_,rfl,IX hW hvs (kids_rows hl hm) (slices_full_of P hz) (λt ht=>by simpa using List.all_eq_true.1 hts t ht) ?_ ?_ ?_ hst.os hst.output (λb hb=>hst.block b hb (λ⟨_,hm,_⟩=>by cases hm)) ?_⟩
 ·intro b sp hd
  rw [List.append_nil,hfn ds hlen,hrt]
  exact trodAll_cons_mk (p:=[]) (p':=[]) (shut_bool htb true) trodAll_mk0
 ·rw [List.append_nil,hfn ds hlen]
 ·rw [List.append_nil,hfn ds hlen]
 ·exact ok_one hrt rfl (okWide_bool_mk htb true)
end
end Go.Dw
namespace Go.Dw
abbrev eR {α : Type} (s ty : Nat) (en : α -> D) (l : List α) : D:=.row s ty (l.map en)
def uR {α : Type} (u : D -> α) : D -> List α | .row _ _ es=>es.map u | _=>[]
@[simp] theorem QM {α : Type} {u : D -> α} {en : α -> D} (h : ∀ a,u (en a) = a) (s ty : Nat) (l : List α) : uR u (.row s ty (l.map en)) = l:=by
 simp only [uR,List.map_map]
 conv=>rhs; rw [<- List.map_id l]
 exact List.map_congr_left λa _=>h a
theorem PW {α : Type} {l : List α} {en : α -> D} (h : ∀ q,AF (en q) = true) : ∀ e ∈ l.map en,AF e = true:=λe he=>by
 obtain ⟨q,_,rfl⟩:=List.mem_map.1 he
 exact h q
section
variable {Γ : At} {X : Type} {K : KR X} {t : Option X} {e : List (Nat × D)} {o : List (Nat × Ae)} {n nv : Nat} {d : Bool} {acc : List CR}
 {r : List Az} {dst : Nat} {g : Option (Nat × Bool)} {af : List Nat} {α : Type}
variable {x y : Arg} {v w : D} {k k' : IntKind} {a b : Int} {s ty gi vi ii off m : Nat} {fz var : Bool} {es es' : List D} {z z' : D} {l l' : List α} {en : α -> D}
theorem EI {i : Nat} {c : Prop} {cs' : List D} {wo : List (Nat × Ae)} {rk : List Key} (hg : gOn e g = true) (hx : Ac e x = some (.optr gi vi i off)) (hy : Ac e y = some v) (hw : strip v = (true,v)) (ho : lkO o gi = some (vi,⟨false,var,s,ty,es⟩))
  (hr : (AQ var (cells v)).run ⟨e,o,n⟩ = (c,cs',wo)) (hrd : (AQ var (cells v)).rd ⟨e,o,n⟩ = rk) (hc : c) (hz : es[i]? = some z) (hk : known v = true) (hl : (cells v).length = m) (hb : Nat.ble (off + m) (cells z).length = true)
  (hes : es.set i (AE z off cs') = es') (hwo : wo.all (λx=>x.1 != gi) = true)
  (h : TrO Γ r (nv + 1) ⟨e,(gi,some (vi,⟨false,var,s,ty,es'⟩)) :: (wo ++ o),n⟩ d (acc ++ [(gK g ++ (rdK x ++ (rdK y ++ (.o gi :: rk))),.o gi :: wo.map (λx=>.o x.1),af)]) K t) (hrg : Ad gi = true:=by rfl) :
  TrO Γ (⟨none,.st m x y,g,af⟩ :: r) nv ⟨e,o,n⟩ d acc K t:=by
 have hb':=Nat.le_of_ble_eq_true hb
 obtain ⟨hi',rfl⟩:=List.getElem?_eq_some_iff.1 hz
 have hgd : es.getD i .top = es[i]:=by simp [hi']
 refine Am hg (c:=True) (we:=[]) (wo:=(gi,some (vi,⟨false,var,s,ty,es'⟩)) :: wo) (rd:=rdK x ++ (rdK y ++ (Key.o gi :: rk))) ?_ ?_ trivial (by simpa using h)
 ·simp only [evalOp,R.run_bind,Al,Option.getD_some,hx,hy,hw,CQ,R.AW,AB,ho,hrg,if_true,R.AJ,hr,hgd,hes]
  simp [hc,hi',hb',hk,hl,hwo]
 ·simp only [evalOp,R.AK,Al,AX,Option.getD_some,hx,hy,hw,CQ,R.Cg,AB,ho,hrg,if_true,R.Co,hrd,hr]
  simp
theorem Nd {i s0 ty0 : Nat} {es0 es0' : List D} (l : List α) (en : α -> D) (hg : gOn e g = true) (hx : Ac e x = some (.optr gi vi i off)) (ho : lkO o gi = some (vi,⟨false,var,s0,ty0,es0⟩)) (hz : es0[i]? = some z) (hb : Nat.ble (off + 1) (cells z).length = true)
  (hv : AZ (cells z) off 1 false = .row s ty (l.map en)) (hes : es0.set i (AE z off [.hole (4096 + dst) nv l.length]) = es0')
  (h : TrO Γ r (nv + 1) ⟨(dst,.osl (4096 + dst) nv 0 l.length) :: e,(4096 + dst,some (nv,⟨false,false,s,ty,l.map en⟩)) :: (gi,some (vi,⟨false,var,s0,ty0,es0'⟩)) :: o,n⟩ d (acc ++ [(gK g ++ (rdK x ++ [.o gi]),[.e dst,.o (4096 + dst),.o gi],af)]) K t)
  (hrg : Ad gi = true:=by rfl) (hne : Nat.beq gi (4096 + dst) = false:=by rfl) :
  TrO Γ (⟨some dst,.ld 1 false x,g,af⟩ :: r) nv ⟨e,o,n⟩ d acc K t:=by
 obtain ⟨hi,rfl⟩:=List.getElem?_eq_some_iff.1 hz
 have hb':=Nat.le_of_ble_eq_true hb
 have hgd : es0.getD i .top = es0[i]:=by simp [hi]
 have hne' : gi ≠ 4096 + dst:=λe=>by subst e; simp at hne
 refine Am hg (c:=True) (we:=[(dst,.osl (4096 + dst) nv 0 l.length)]) (wo:=[(4096 + dst,some (nv,⟨false,false,s,ty,l.map en⟩)),(gi,some (vi,⟨false,var,s0,ty0,es0'⟩))]) (rd:=rdK x ++ [Key.o gi]) ?_ ?_ trivial h
 ·simp only [evalOp,R.run_bind,Al,Option.getD_some,hx,strip,R.AW,AB,ho,Af,hgd,hv,hrg]
  simp [hi,hb',hne',hes]
 ·simp only [evalOp,R.AK,Al,AX,Option.getD_some,hx,strip,R.Cg,AB,ho,hgd,hv,hrg]
  simp
theorem Pv {i nm u q s0 ty0 : Nat} {es0 : List D} (hg : gOn e g = true) (hx : Ac e x = some (.optr gi vi i 0)) (ho : lkO o gi = some (vi,⟨false,var,s0,ty0,es0⟩)) (hz : es0[i]? = some (.hole nm u q))
  (h : TrO Γ r (nv + 1) ⟨(dst,.osl nm u 0 q) :: e,o,n⟩ d (acc ++ [(gK g ++ (rdK x ++ [.o gi]),[.e dst],af)]) K t) (hrg : Ad gi = true:=by rfl) :
  TrO Γ (⟨some dst,.ld 1 false x,g,af⟩ :: r) nv ⟨e,o,n⟩ d acc K t:=by
 obtain ⟨hi,he⟩:=List.getElem?_eq_some_iff.1 hz
 have hgd : es0.getD i .top = .hole nm u q:=by simp [hi,he]
 refine Am hg (c:=True) (we:=[(dst,.osl nm u 0 q)]) (wo:=[]) (rd:=rdK x ++ [Key.o gi]) ?_ ?_ trivial h
 ·simp only [evalOp,R.run_bind,Al,Option.getD_some,hx,strip,R.AW,AB,ho,Af,hgd,hrg]
  simp [hi,cells,AZ]
 ·simp only [evalOp,R.AK,Al,AX,Option.getD_some,hx,strip,R.Cg,AB,ho,hgd,hrg]
  simp [cells,AZ]
theorem Qc {i s0 ty0 : Nat} {l : List (List α)} {q : List α} (en : α -> D) (hg : gOn e g = true) (hx : Ac e x = some (.optr gi vi i 0)) (ho : lkO o gi = some (vi,⟨false,false,s0,ty0,l.map (eR s ty en)⟩)) (hi : l[i]? = some q)
  (h : TrO Γ r (nv + 1) ⟨(dst,.osl (4096 + dst) nv 0 q.length) :: e,(4096 + dst,some (nv,⟨false,false,s,ty,q.map en⟩)) :: (gi,some (vi,⟨false,false,s0,ty0,(l.map (eR s ty en)).set i (.hole (4096 + dst) nv q.length)⟩)) :: o,n⟩ d (acc ++ [(gK g ++ (rdK x ++ [.o gi]),[.e dst,.o (4096 + dst),.o gi],af)]) K t)
  (hrg : Ad gi = true:=by rfl) (hne : Nat.beq gi (4096 + dst) = false:=by rfl) :
  TrO Γ (⟨some dst,.ld 1 false x,g,af⟩ :: r) nv ⟨e,o,n⟩ d acc K t :=
 Nd (i:=i) (z:=eR s ty en q) q en hg hx ho (by simp [hi]) rfl rfl rfl h hrg hne
theorem Pu {q : Nat} {es : List D} (hq : es.length = q) (hg : gOn e g = true) (hx : Ac e x = some (.osl gi vi 0 q)) (hy : Ac e y = some (.int k a)) (ho : lkO o gi = some (vi,⟨fz,false,s,ty,es⟩)) (hi : 0 <= a /\ a < q)
  (h : TrO Γ r (nv + 1) ⟨(dst,.optr gi vi a.toNat 0) :: e,o,n⟩ d (acc ++ [(gK g ++ (rdK x ++ (rdK y ++ [.o gi])),[.e dst],af)]) K t) :
  TrO Γ (⟨some dst,.ixA s x y,g,af⟩ :: r) nv ⟨e,o,n⟩ d acc K t:=by
 subst hq
 refine Am hg (c:=True) (we:=[(dst,.optr gi vi a.toNat 0)]) (wo:=[]) (rd:=rdK x ++ (rdK y ++ [Key.o gi])) ?_ (by simp [evalOp,strip,R.Cg,AB,hx,hy,ho]) trivial h
 simp only [evalOp,R.run_bind,Al,Option.getD_some,hx,hy,strip,R.AW,AB,ho,R.AJ,Af]
 simp [hi.1,hi.2]
theorem Px {i g' v' m s0 ty0 : Nat} {l : List (List α)} {q q' : List α} {es : List D} {c : Prop} {cs' : List D} {wo : List (Nat × Ae)} {rk : List Key} (en : α -> D) (hg : gOn e g = true) (hx : Ac e x = some (.optr gi vi i 0)) (hy : Ac e y = some (.osl g' v' 0 m)) (ho : lkO o gi = some (vi,⟨false,false,s0,ty0,es⟩)) (hes : es = l.map (eR s ty en) \/ ∃ p u w,es = (l.map (eR s ty en)).set i (.hole p u w)) (hi : l[i]? = some q)
  (hr : (AQ false [.osl g' v' 0 m]).run ⟨e,o,n⟩ = (c,cs',wo)) (hrd : (AQ false [.osl g' v' 0 m]).rd ⟨e,o,n⟩ = rk) (hc : c) (hcs : cs' = [eR s ty en q']) (hwo : wo.all (λx=>x.1 != gi) = true)
  (h : TrO Γ r (nv + 1) ⟨e,(gi,some (vi,⟨false,false,s0,ty0,(l.set i q').map (eR s ty en)⟩)) :: (wo ++ o),n⟩ d (acc ++ [(gK g ++ (rdK x ++ (rdK y ++ (.o gi :: rk))),.o gi :: wo.map (λx=>.o x.1),af)]) K t) (hrg : Ad gi = true:=by rfl) :
  TrO Γ (⟨none,.st 1 x y,g,af⟩ :: r) nv ⟨e,o,n⟩ d acc K t:=by
 subst hcs
 obtain ⟨hl,_⟩:=List.getElem?_eq_some_iff.1 hi
 have hlen : i < es.length:=by rcases hes with rfl | ⟨p,u,w,rfl⟩ <;> simpa using hl
 have hset : es.set i (eR s ty en q') = (l.set i q').map (eR s ty en):=by
  rcases hes with rfl | ⟨p,u,w,rfl⟩ <;> simp [List.map_set]
 have hz : es[i]? = some es[i]:=by simp [hlen]
 have hc1 : (cells es[i]).length = 1 /\ AE es[i] 0 [eR s ty en q'] = eR s ty en q':=by
  rcases hes with rfl | ⟨p,u,w,rfl⟩
  ·simp [cells,AE]
  ·simp [cells,AE]
 exact EI (i:=i) (off:=0) (m:=1) (z:=es[i]) hg hx hy rfl ho hr hrd hc hz rfl rfl (by rw [hc1.1]; rfl) (by rw [hc1.2]; exact hset) hwo h hrg
theorem PZ {bytes : Nat} {c c' : Prop} {new old : List D} {wo : List (Nat × Ae)} {rk rk' : List Key} (l l' : List α) (en : α -> D) (hg : gOn e g = true) (hx : Ac e x = some v) (hy : Ac e y = some w) (hvw : strip v = (true,v)) (hww : strip w = (true,w))
  (hv : (view w).run ⟨e,o,n⟩ = (c,new)) (hvr : (view w).rd ⟨e,o,n⟩ = rk) (hc : c) (hn : new = l'.map en)
  (ht : (target s ty v).run ⟨e,o,n⟩ = (c',old,wo,true)) (htr : (target s ty v).rd ⟨e,o,n⟩ = rk') (hc' : c') (ho : old = l.map en)
  (hs : ∀ q,(cells (en q)).length = s) (hby : Nat.ble bytes 65536 = true) (hl : l.length + l'.length <= 16777216) (hpl : ∀ q,AF (en q) = true)
  (h : TrO Γ r (nv + 1) ⟨(dst,.osl (4096 + dst) nv 0 (l ++ l').length) :: e,(4096 + dst,some (nv,⟨false,false,s,ty,(l ++ l').map en⟩)) :: (wo ++ o),n⟩ d (acc ++ [(gK g ++ (rdK x ++ (rdK y ++ (rk ++ rk'))),[.e dst,.o (4096 + dst)] ++ wo.map (λx=>.o x.1),af)]) K t) :
  TrO Γ (⟨some dst,.app s ty bytes x y,g,af⟩ :: r) nv ⟨e,o,n⟩ d acc K t:=by
 have hb':=Nat.le_of_ble_eq_true hby
 subst hn; subst ho
 refine Am hg (c:=True) (we:=[(dst,.osl (4096 + dst) nv 0 (l ++ l').length)]) (wo:=(4096 + dst,some (nv,⟨false,false,s,ty,(l ++ l').map en⟩)) :: wo) (rd:=rdK x ++ (rdK y ++ (rk ++ rk'))) ?_ ?_ trivial (by simpa using h)
 ·simp only [evalOp,R.run_bind,Al,Option.getD_some,hx,hy,hvw,hww,source,hv,ht,R.run_pure,Af,CS,nmR,cond_true]
  have hall : ∀ q ∈ l.map en ++ l'.map en,AF q = true:=by
   intro q hq
   rcases List.mem_append.1 hq with hq | hq <;> (obtain ⟨p,_,rfl⟩:=List.mem_map.1 hq; exact hpl p)
  simp [hc,hc',hl,hb',hs]
  intro q hq
  rcases hq with ⟨p,_,rfl⟩ | ⟨p,_,rfl⟩ <;> exact hpl p
 ·simp only [evalOp,R.AK,Al,AX,Option.getD_some,hx,hy,hvw,hww,source,hv,hvr,htr,R.Bp]
  simp
theorem Gl {s' ty' q : Nat} (hg : gOn e g = true) (hx : Ac e x = some (.osl gi vi 0 q)) (ho : lkO o gi = some (ii,⟨false,var,s,ty,es⟩))
  (h : TrO Γ r (nv + 1) ⟨(dst,.osl gi vi 0 q) :: e,o,n⟩ d (acc ++ [(gK g ++ (rdK x ++ [.o gi]),[.e dst],af)]) K t) (hrg : Ad gi = true:=by rfl) :
  TrO Γ (⟨some dst,.asg x (some (s',ty')),g,af⟩ :: r) nv ⟨e,o,n⟩ d acc K t:=by
 refine Am hg (c:=True) (we:=[(dst,.osl gi vi 0 q)]) (wo:=[]) (rd:=rdK x ++ [Key.o gi]) ?_ ?_ trivial h
 ·simp only [evalOp,R.run_bind,BA,Option.getD_some,hx,R.AW,AB,ho,Bool.false_eq_true,if_false,R.AJ,hrg,if_true,Af]
 ·simp only [evalOp,R.AK,BA,Gd,Option.getD_some,hx,R.Cg,AB,ho,Bool.false_eq_true,if_false,hrg,if_true,R.Co]
theorem Pw {bytes : Nat} (hg : gOn e g = true) (hx : Ac e x = some (.int k a)) (hy : Ac e y = some (.int k' a)) (hl : 0 <= a /\ a <= 16777216) (hby : Nat.ble bytes 65536 = true)
  (h : TrO Γ r (nv + 1) ⟨(dst,.osl dst nv 0 (List.replicate a.toNat ([] : List α)).length) :: e,(dst,some (nv,⟨false,false,s,ty,(List.replicate a.toNat ([] : List α)).map (λ_=>.nils)⟩)) :: o,n⟩ d (acc ++ [(gK g ++ (rdK x ++ rdK y),[.e dst,.o dst],af)]) K t) :
  TrO Γ (⟨some dst,.mkS s ty bytes .nils x y,g,af⟩ :: r) nv ⟨e,o,n⟩ d acc K t:=by
 have:=Nat.le_of_ble_eq_true hby
 exact Am hg (c:=True) (we:=[(dst,.osl dst nv 0 (List.replicate a.toNat ([] : List α)).length)]) (wo:=[(dst,some (nv,⟨false,false,s,ty,(List.replicate a.toNat ([] : List α)).map (λ_=>.nils)⟩))]) (rd:=rdK x ++ rdK y) (by simp [evalOp,Af,AM,strip,hx,hy,hl,this]) (by simp [evalOp,strip,hx,hy]) trivial h
end
section
variable {e E : List (Nat × D)} {o O : List (Nat × Ae)} {n : Nat} {α : Type} {g v s ty : Nat} {var : Bool} {es es' : List D} {z : D}
theorem CH {τ : S} (hw : Rw ⟨e,o,n⟩ τ) (h : Has τ E O) : Has ⟨e,o,n⟩ E O:=h.imp λ_ h=>.rw hw h
theorem FY {i off g' v' m s' ty' : Nat} {l : List α} {en : α -> D} {c : D} (ho : lkO o g = some (v,⟨false,var,s,ty,es⟩)) (hz : es[i]? = some z) (hc : (cells z)[off]? = some c) (hh : c = .hole g' v' m \/ (c = .osl g' v' 0 m /\ var = true)) (ho' : lkO o g' = some (v',⟨false,false,s',ty',l.map en⟩))
  (hm : m = l.length) (hp : ∀ q,AF (en q) = true) (hes : es.set i (AE z off [.row s' ty' (l.map en)]) = es')
  (h : Has ⟨e,(g,some (v,⟨false,var,s,ty,es'⟩)) :: (g',none) :: o,n⟩ E O) (hrg : Ad g = true:=by rfl) (hne : Nat.beq g g' = false:=by rfl) : Has ⟨e,o,n⟩ E O:=by
 obtain ⟨hi,rfl⟩:=List.getElem?_eq_some_iff.1 hz
 have hgd : es.getD i .top = es[i]:=by simp [hi]
 have hne' : g ≠ g':=λe=>by subst e; simp at hne
 subst hm
 have:=Rw.close (σ:=⟨e,o,n⟩) g v i off g' v' l.length ⟨false,var,s,ty,es⟩ ⟨false,false,s',ty',l.map en⟩ c (by rw [AB]; exact ho) hrg rfl hi (by rw [hgd]; exact hc) hh (by rw [AB]; exact ho') rfl rfl (by simp) (.inr λe he=>by
  obtain ⟨q,_,rfl⟩:=List.mem_map.1 he
  exact hp q) hne'
 refine CH this ?_
 simp only [hgd,Dq,hes]
 exact h
theorem Ll {i g' v' m s' ty' : Nat} {l : List (List α)} {q q' : List α} {en : α -> D} (hi : l[i]? = some q) (ho : lkO o g = some (v,⟨false,false,s,ty,(l.map (eR s' ty' en)).set i (.hole g' v' m)⟩)) (ho' : lkO o g' = some (v',⟨false,false,s',ty',q'.map en⟩))
  (hm : m = q'.length) (hp : ∀ q,AF (en q) = true)
  (h : Has ⟨e,(g,some (v,⟨false,false,s,ty,(l.set i q').map (eR s' ty' en)⟩)) :: (g',none) :: o,n⟩ E O) (hrg : Ad g = true:=by rfl) (hne : Nat.beq g g' = false:=by rfl) : Has ⟨e,o,n⟩ E O:=by
 obtain ⟨hl,_⟩:=List.getElem?_eq_some_iff.1 hi
 refine FY (i:=i) (off:=0) (z:=.hole g' v' m) (c:=.hole g' v' m) ho (by simp [hl]) rfl (.inl rfl) ho' hm hp ?_ h hrg hne
 simp [AE,List.map_set]
theorem NL {i g' v' m s' ty' : Nat} {l : List (List α)} {q : List α} {en : α -> D} (hi : l[i]? = some q) (ho : lkO o g = some (v,⟨false,false,s,ty,(l.map (eR s' ty' en)).set i (.hole g' v' m)⟩)) (ho' : lkO o g' = some (v',⟨false,false,s',ty',q.map en⟩))
  (hm : m = q.length) (hp : ∀ q,AF (en q) = true)
  (h : Has ⟨e,(g,some (v,⟨false,false,s,ty,l.map (eR s' ty' en)⟩)) :: (g',none) :: o,n⟩ E O) (hrg : Ad g = true:=by rfl) (hne : Nat.beq g g' = false:=by rfl) : Has ⟨e,o,n⟩ E O:=by
 refine Ll hi ho ho' hm hp ?_ hrg hne
 obtain ⟨hl,he⟩:=List.getElem?_eq_some_iff.1 hi
 have : l.set i q = l:=by rw [<- he]; exact List.set_getElem_self hl
 rw [this]
 exact h
theorem Qs {off s' ty' : Nat} {z' : D} (t : Nat) (l : List α) (en : α -> D) (ho : lkO o g = some (v,⟨false,true,s,ty,[z]⟩)) (hc : (cells z)[off]? = some (.row s' ty' (l.map en))) (hz : AE z off [.osl (4096 + t) n 0 l.length] = z')
  (h : Has ⟨e,(4096 + t,some (n,⟨false,false,s',ty',l.map en⟩)) :: (g,some (v,⟨false,true,s,ty,[z']⟩)) :: o,n + 1⟩ E O) (hrg : Ad g = true:=by rfl) (hne : Nat.beq g (4096 + t) = false:=by rfl) : Has ⟨e,o,n⟩ E O:=by
 have hne' : g ≠ 4096 + t:=λe=>by subst e; simp at hne
 have:=Rw.opn (σ:=⟨e,o,n⟩) g v 0 off t s' ty' (l.map en) ⟨false,true,s,ty,[z]⟩ (by rw [AB]; exact ho) hrg rfl rfl (by simp) hc hne'
 refine CH this ?_
 simp only [List.length_map,List.getD_cons_zero,List.set_cons_zero,hz]
 exact h
theorem Ju {s' ty' i : Nat} {q : List α} (t : Nat) (en : α -> D) (ho : lkO o g = some (v,⟨false,false,s,ty,es⟩)) (hz : es[i]? = some (eR s' ty' en q))
  (h : Has ⟨e,(4096 + t,some (n,⟨false,false,s',ty',q.map en⟩)) :: (g,some (v,⟨false,false,s,ty,es.set i (.hole (4096 + t) n q.length)⟩)) :: o,n + 1⟩ E O) (hrg : Ad g = true:=by rfl) (hne : Nat.beq g (4096 + t) = false:=by rfl) : Has ⟨e,o,n⟩ E O:=by
 have hne' : g ≠ 4096 + t:=λe=>by subst e; simp at hne
 obtain ⟨hi,he⟩:=List.getElem?_eq_some_iff.1 hz
 have hgd : es.getD i .top = eR s' ty' en q:=by simp [hi,he]
 have:=Rw.opnr (σ:=⟨e,o,n⟩) g v i 0 t s' ty' (q.map en) ⟨false,false,s,ty,es⟩ (by rw [AB]; exact ho) hrg rfl rfl hi (by simp only [hgd]; rfl) hne'
 refine CH this ?_
 simp only [List.length_map,hgd]
 exact h
theorem PV {s' ty' i j t1 t2 : Nat} {l : List (List α)} {q1 q2 : List α} (en : α -> D) (ho : lkO o g = some (v,⟨false,false,s,ty,l.map (eR s' ty' en)⟩)) (h1 : l[i]? = some q1) (h2 : l[j]? = some q2) (hij : i ≠ j)
  (h : Has ⟨e,(4096 + t2,some (n + 1,⟨false,false,s',ty',q2.map en⟩)) :: (g,some (v,⟨false,false,s,ty,((l.map (eR s' ty' en)).set i (.hole (4096 + t1) n q1.length)).set j (.hole (4096 + t2) (n + 1) q2.length)⟩)) :: (4096 + t1,some (n,⟨false,false,s',ty',q1.map en⟩)) :: (g,some (v,⟨false,false,s,ty,(l.map (eR s' ty' en)).set i (.hole (4096 + t1) n q1.length)⟩)) :: o,n + 1 + 1⟩ E O)
  (hrg : Ad g = true:=by rfl) (hne1 : Nat.beq g (4096 + t1) = false:=by rfl) (hne2 : Nat.beq g (4096 + t2) = false:=by rfl) : Has ⟨e,o,n⟩ E O:=by
 refine Ju (s':=s') (ty':=ty') (i:=i) (q:=q1) t1 en ho (by simp [h1]) ?_ hrg hne1
 have hg1 : g ≠ 4096 + t1:=λe=>by subst e; simp at hne1
 refine Ju (s':=s') (ty':=ty') (i:=j) (q:=q2) t2 en (v:=v) (s:=s) (ty:=ty) (es:=(l.map (eR s' ty' en)).set i (.hole (4096 + t1) n q1.length)) ?_ ?_ h hrg hne2
 ·have hb : Nat.beq g (4096 + t1) = false:=hne1
  simp [lkO,Cf,hb]
 ·rw [List.getElem?_set_ne hij]; simp [h2]
theorem PG {i j g1 g2 u1 u2 m1 m2 s' ty' : Nat} {l : List (List α)} {q1 q2 q1' q2' : List α} {en : α -> D} (h1 : l[i]? = some q1) (h2 : l[j]? = some q2) (hij : i ≠ j)
  (ho : lkO o g = some (v,⟨false,false,s,ty,((l.map (eR s' ty' en)).set i (.hole g1 u1 m1)).set j (.hole g2 u2 m2)⟩)) (ho1 : lkO o g1 = some (u1,⟨false,false,s',ty',q1'.map en⟩)) (ho2 : lkO o g2 = some (u2,⟨false,false,s',ty',q2'.map en⟩))
  (hm1 : m1 = q1'.length) (hm2 : m2 = q2'.length) (hp : ∀ q,AF (en q) = true)
  (h : Has ⟨e,(g,some (v,⟨false,false,s,ty,((l.set i q1').set j q2').map (eR s' ty' en)⟩)) :: (g1,none) :: (g,some (v,⟨false,false,s,ty,((l.map (eR s' ty' en)).set i (.hole g1 u1 m1)).set j (eR s' ty' en q2')⟩)) :: (g2,none) :: o,n⟩ E O) (hrg : Ad g = true:=by rfl) (hne1 : Nat.beq g g1 = false:=by rfl) (hne2 : Nat.beq g g2 = false:=by rfl) (hne : Nat.beq g1 g2 = false:=by rfl) : Has ⟨e,o,n⟩ E O:=by
 obtain ⟨hi,_⟩:=List.getElem?_eq_some_iff.1 h1
 obtain ⟨hj,_⟩:=List.getElem?_eq_some_iff.1 h2
 have hb1 : Nat.beq g1 g = false:=by
  cases hb : Nat.beq g1 g
  ·rfl
  ·rw [Nat.eq_of_beq_eq_true hb] at hne1; simp at hne1
 refine FY (s':=s') (ty':=ty') (i:=j) (off:=0) (z:=.hole g2 u2 m2) (c:=.hole g2 u2 m2) (es':=((l.map (eR s' ty' en)).set i (.hole g1 u1 m1)).set j (eR s' ty' en q2')) ho (by simp [hj]) rfl (.inl rfl) ho2 hm2 hp (by simp [AE]) ?_ hrg hne2
 refine FY (s':=s') (ty':=ty') (i:=i) (off:=0) (z:=.hole g1 u1 m1) (c:=.hole g1 u1 m1) (v:=v) (s:=s) (ty:=ty) (es:=((l.map (eR s' ty' en)).set i (.hole g1 u1 m1)).set j (eR s' ty' en q2')) (l:=q1') (en:=en) ?_ ?_ rfl (.inl rfl) ?_ hm1 hp ?_ h hrg hne1
 ·simp [lkO,Cf]
 ·rw [List.getElem?_set_ne (λe=>hij e.symm)]; simp [hi]
 ·simp only [lkO,Cf,hb1,cond_false,hne]
  exact ho1
 ·rw [List.set_comm _ _ hij,List.set_set]
  simp only [AE]
  rw [List.set_comm _ _ (λe=>hij e.symm)]
  simp [List.map_set]
theorem PH {g2 : Nat} (ho : lkO o g = some (v,⟨false,var,s,ty,es⟩)) (hrg : Ad g = false) (hg2 : g2 = 4096 + g) (he : Each (Enr false) es es')
  (h : Has ⟨e.map (λp=>(p.1,ren g g2 p.2)),(g2,some (v,⟨false,var,s,ty,es'⟩)) :: (g,none) :: o,n⟩ E O) : Has ⟨e,o,n⟩ E O:=by
 have:=Rw.enrich (σ:=⟨e,o,n⟩) g g2 v ⟨false,var,s,ty,es⟩ es' (by rw [AB]; exact ho) rfl (.inr ⟨hrg,hg2⟩) (by rw [hrg]; exact he)
 refine CH this ?_
 have hb : Nat.beq g g2 = false:=by
  cases hb : Nat.beq g g2
  ·rfl
  ·have:=Nat.eq_of_beq_eq_true hb; omega
 rw [hb]
 exact h
theorem Pa (ho : lkO o g = some (v,⟨false,var,s,ty,es⟩)) (hrg : Ad g = true) (he : Each (Enr true) es es')
  (h : Has ⟨e.map (λp=>(p.1,ren g g p.2)),(g,some (v,⟨false,var,s,ty,es'⟩)) :: (g,some (v,⟨false,var,s,ty,es'⟩)) :: o,n⟩ E O) : Has ⟨e,o,n⟩ E O:=by
 have:=Rw.enrich (σ:=⟨e,o,n⟩) g g v ⟨false,var,s,ty,es⟩ es' (by rw [AB]; exact ho) rfl (.inl ⟨rfl,hrg⟩) (by rw [hrg]; exact he)
 refine CH this ?_
 simpa using h
theorem Qd {s' ty' : Nat} {l : List (List α)} (en : α -> D) (hs : 0 < s') (hl : ∀ q ∈ l,q = []) : Each (Enr false) (l.map λ_=>.nils) (l.map (eR s' ty' en)):=by
 refine ⟨by simp,λi e e' h1 h2=>?_⟩
 rw [List.getElem?_map,Option.map_eq_some_iff] at h1 h2
 obtain ⟨q,hq,rfl⟩:=h1
 obtain ⟨q',hq',rfl⟩:=h2
 rw [hq] at hq'; cases hq'
 have:=hl q (List.mem_of_getElem? hq)
 subst this
 refine ⟨rfl,λj c c' h1 h2=>?_⟩
 rcases j with _ | j
 ·simp only [cells,List.getElem?_cons_zero,Option.some.injEq] at h1 h2
  subst h1; subst h2
  exact .inr ⟨rfl,s',ty',hs,rfl⟩
 ·simp [cells] at h1
theorem PT (ho : lkO o g = some (v,⟨false,var,s,ty,es⟩)) (he : Each Frr es es') (h : Has ⟨e,(g,some (v,⟨false,var,s,ty,es'⟩)) :: o,n⟩ E O) (hrg : Ad g = true:=by rfl) : Has ⟨e,o,n⟩ E O:=by
 have:=Rw.frows (σ:=⟨e,o,n⟩) g v ⟨false,var,s,ty,es⟩ es' (by rw [AB]; exact ho) hrg rfl he
 exact CH this h
theorem Qf {s' ty' : Nat} {l : List (List α)} (en : α -> D) (hp : ∀ q,AF (en q) = true) : Each Frr (l.map (eR s' ty' en)) (l.map (eL en)):=by
 refine ⟨by simp,λi e e' h1 h2=>?_⟩
 rw [List.getElem?_map,Option.map_eq_some_iff] at h1 h2
 obtain ⟨q,hq,rfl⟩:=h1
 obtain ⟨q',hq',rfl⟩:=h2
 rw [hq] at hq'; cases hq'
 refine ⟨rfl,λj c c' h1 h2=>?_⟩
 rcases j with _ | j
 ·simp only [cells,List.getElem?_cons_zero,Option.some.injEq] at h1 h2
  subst h1; subst h2
  exact .inr ⟨s',ty',_,rfl,λe he=>by
   obtain ⟨p,_,rfl⟩:=List.mem_map.1 he
   exact hp p,rfl⟩
 ·simp [cells] at h1
theorem PU (ho : lkO o g = some (v,⟨false,false,s,ty,es⟩)) (he : es.map nrm = es') (h : Has ⟨e,(g,some (v,⟨false,false,s,ty,es'⟩)) :: o,n⟩ E O) (hrg : Ad g = false:=by rfl) : Has ⟨e,o,n⟩ E O:=by
 subst he
 have:=Rw.nilsl (σ:=⟨e,o,n⟩) g v ⟨false,false,s,ty,es⟩ (by rw [AB]; exact ho) hrg rfl rfl
 exact CH this h
theorem Qk {l : List (List α)} (en : α -> D) (hl : ∀ q ∈ l,q = []) : (l.map λ_=>D.nils).map nrm = l.map (eL en):=by
 rw [List.map_map]
 refine List.map_congr_left λq hq=>?_
 rw [hl q hq]
 rfl
theorem Qg (ho : lkO o g = some (v,⟨false,true,s,ty,[z]⟩)) (hc : (cells z).all Bu = true) (h : Has ⟨e.map (λp=>(p.1,frp g v z p.2)),(g,none) :: o.map (λp=>(p.1,frO g v z p.2)),n⟩ E O) : Has ⟨e,o,n⟩ E O:=by
 have:=Rw.fvar (σ:=⟨e,o,n⟩) g v ⟨false,true,s,ty,[z]⟩ z (by rw [AB]; exact ho) rfl rfl rfl hc
 exact CH this h
end
end Go.Dw
namespace Go.Dw
abbrev eA {α : Type} (en : α -> D) (l : List α) : D:=.agg (l.map en)
def uA {α : Type} (u : D -> α) : D -> List α | .agg cs=>cs.map u | _=>[]
@[simp] theorem QL {α : Type} {u : D -> α} {en : α -> D} (h : ∀ a,u (en a) = a) (l : List α) : uA u (.agg (l.map en)) = l:=by
 simp only [uA,List.map_map]
 conv=>rhs; rw [<- List.map_id l]
 exact List.map_congr_left λa _=>h a
def fpD : D -> D | .fptr e _=>e | _=>.top
def QI : D -> Nat -> D | .clo _ caps,j=>caps.getD j .top | _,_=>.top
theorem IK (cs : List D) (off : Nat) (d : D) : setAt cs off [d] = cs.set off d:=rfl
section
variable {Γ : At} {X : Type} {K : KR X} {t : Option X} {e : List (Nat × D)} {o : List (Nat × Ae)} {n nv : Nat} {d : Bool} {acc : List CR}
 {r : List Az} {dst : Nat} {g : Option (Nat × Bool)} {af : List Nat} {α : Type}
variable {x y : Arg} {v w : D} {k k' : IntKind} {a b : Int} {s ty gi vi ii off m : Nat} {fz var : Bool} {l : List α} {en : α -> D}
theorem Uo {i len : Nat} (hg : gOn e g = true) (hx : Ac e x = some (.optr gi vi i off)) (hy : Ac e y = some (.int k a)) (hi : 0 <= a /\ a < len)
  (h : TrO Γ r (nv + 1) ⟨(dst,.optr gi vi i (off + a.toNat * s)) :: e,o,n⟩ d (acc ++ [(gK g ++ (rdK x ++ rdK y),[.e dst],af)]) K t) :
  TrO Γ (⟨some dst,.ixP s len x y,g,af⟩ :: r) nv ⟨e,o,n⟩ d acc K t :=
 Am hg (c:=True) (we:=[(dst,.optr gi vi i (off + a.toNat * s))]) (wo:=[]) (rd:=rdK x ++ rdK y) (by simp [evalOp,Af,strip,hx,hy,hi.1,hi.2]) (by simp [evalOp,strip,hx,hy]) trivial h
theorem TD {q : α} {j : Nat} (hj : off = j) (hg : gOn e g = true) (hx : Ac e x = some (.optr gi vi 0 off)) (ho : lkO o gi = some (vi,⟨fz,var,s,ty,[.agg (l.map en)]⟩)) (hi : l[j]? = some q) (hpl : plain (en q) = true) (_hc : ∀ q,cells (en q) = [en q])
  (h : TrO Γ r (nv + 1) ⟨(dst,en q) :: e,o,n⟩ d (acc ++ [(gK g ++ (rdK x ++ [.o gi]),[.e dst],af)]) K t) :
  TrO Γ (⟨some dst,.ld 1 false x,g,af⟩ :: r) nv ⟨e,o,n⟩ d acc K t:=by
 subst hj
 have hl:=(List.getElem?_eq_some_iff.1 hi).1
 refine Fu (i:=0) (m:=1) (agg:=false) (off:=off) (z:=.agg (l.map en)) (v:=en q) hg hx ho rfl ?_ ?_ h (by simp [hpl])
 ·simp only [cells,List.length_map]
  exact Nat.ble_eq_true_of_le (by omega)
 ·simp only [AZ,cells,Bool.false_eq_true,if_false]
  simp [hi]
theorem PN {q q' : α} {j : Nat} {z' : D} (hj : off = j) (hg : gOn e g = true) (hx : Ac e x = some (.optr gi vi 0 off)) (hy : Ac e y = some (en q')) (hw : strip (en q') = (true,en q')) (ho : lkO o gi = some (vi,⟨false,true,s,ty,[.agg (l.map en)]⟩)) (hi : l[j]? = some q) (hk : known (en q') = true) (hc : cells (en q') = [en q']) (hz : D.agg ((l.set j q').map en) = z')
  (h : TrO Γ r (nv + 1) ⟨e,(gi,some (vi,⟨false,true,s,ty,[z']⟩)) :: o,n⟩ d (acc ++ [(gK g ++ (rdK x ++ (rdK y ++ [.o gi])),[.o gi],af)]) K t) (hrg : Ad gi = false:=by rfl) :
  TrO Γ (⟨none,.st 1 x y,g,af⟩ :: r) nv ⟨e,o,n⟩ d acc K t:=by
 subst hj
 subst hz
 have hl:=(List.getElem?_eq_some_iff.1 hi).1
 refine Fv (z:=.agg (l.map en)) (z':=.agg ((l.set off q').map en)) hg hx hy hw ho hk (by rw [hc]; rfl) ?_ ?_ h hrg
 ·simp only [cells,List.length_map]
  exact Nat.ble_eq_true_of_le (by omega)
 ·simp only [AE,hc,IK,List.map_set]
theorem NO {q q' : α} {j : Nat} {z' : D} (hj : off = j) (hg : gOn e g = true) (hx : Ac e x = some (.optr gi vi 0 off)) (hy : Ac e y = some (en q')) (hw : strip (en q') = (true,en q')) (ho : lkO o gi = some (vi,⟨false,true,s,ty,[.agg (l.map en)]⟩)) (hi : l[j]? = some q) (hk : known (en q') = true) (hc : cells (en q') = [en q']) (hz : D.agg ((l.set j q').map en) = z')
  (hcl : (AQ true [en q']).run ⟨e,o,n⟩ = (True /\ True /\ ([] : List (Nat × Ae)).all (λ_=>([] : List (Nat × Ae)).all λ_=>true) = true,[en q'],[])) (hrd : (AQ true [en q']).rd ⟨e,o,n⟩ = [])
  (h : TrO Γ r (nv + 1) ⟨e,(gi,some (vi,⟨false,true,s,ty,[z']⟩)) :: o,n⟩ d (acc ++ [(gK g ++ (rdK x ++ (rdK y ++ [.o gi])),[.o gi],af)]) K t) (hrg : Ad gi = true:=by rfl) :
  TrO Γ (⟨none,.st 1 x y,g,af⟩ :: r) nv ⟨e,o,n⟩ d acc K t:=by
 subst hj
 subst hz
 have hl:=(List.getElem?_eq_some_iff.1 hi).1
 refine EI (i:=0) (c:=True /\ True /\ ([] : List (Nat × Ae)).all (λ_=>([] : List (Nat × Ae)).all λ_=>true) = true) (z:=.agg (l.map en)) (es':=[.agg ((l.set off q').map en)]) (cs':=[en q']) (wo:=[]) (rk:=[]) hg hx hy hw ho (by rw [hc]; exact hcl) (by rw [hc]; exact hrd) ⟨trivial,trivial,rfl⟩ rfl hk (by rw [hc]; rfl) ?_ ?_ rfl h hrg
 ·simp only [cells,List.length_map]
  exact Nat.ble_eq_true_of_le (by omega)
 ·simp only [AE,IK,List.map_set,List.set_cons_zero]
theorem Qa {len : Nat} {z : D} (hg : gOn e g = true) (hx : Ac e x = some (.fptr z off)) (hy : Ac e y = some (.int k a)) (hi : 0 <= a /\ a < len)
  (h : TrO Γ r (nv + 1) ⟨(dst,.fptr z (off + a.toNat * s)) :: e,o,n⟩ d (acc ++ [(gK g ++ (rdK x ++ rdK y),[.e dst],af)]) K t) :
  TrO Γ (⟨some dst,.ixP s len x y,g,af⟩ :: r) nv ⟨e,o,n⟩ d acc K t :=
 Am hg (c:=True) (we:=[(dst,.fptr z (off + a.toNat * s))]) (wo:=[]) (rd:=rdK x ++ rdK y) (by simp [evalOp,Af,strip,hx,hy,hi.1,hi.2]) (by simp [evalOp,strip,hx,hy]) trivial h
theorem Sp {q : α} {j : Nat} (hj : off = j) (hg : gOn e g = true) (hx : Ac e x = some (.fptr (.agg (l.map en)) off)) (hi : l[j]? = some q) (_hc : ∀ q,cells (en q) = [en q])
  (h : TrO Γ r (nv + 1) ⟨(dst,en q) :: e,o,n⟩ d (acc ++ [(gK g ++ rdK x,[.e dst],af)]) K t) :
  TrO Γ (⟨some dst,.ld 1 false x,g,af⟩ :: r) nv ⟨e,o,n⟩ d acc K t:=by
 subst hj
 have hl:=(List.getElem?_eq_some_iff.1 hi).1
 refine Hv (m:=1) (agg:=false) (off:=off) (z:=.agg (l.map en)) (v:=en q) hg hx ?_ ?_ h
 ·simp only [cells,List.length_map]
  exact Nat.ble_eq_true_of_le (by omega)
 ·simp only [AZ,cells,Bool.false_eq_true,if_false]
  simp [hi]
theorem PM {q : α} {len : Nat} (hg : gOn e g = true) (hx : Ac e x = some (.agg (l.map en))) (hy : Ac e y = some (.int k a)) (hi : 0 <= a /\ a < len) (hl : len <= l.length) (hq : l[a.toNat]? = some q)
  (h : TrO Γ r (nv + 1) ⟨(dst,en q) :: e,o,n⟩ d (acc ++ [(gK g ++ (rdK x ++ rdK y),[.e dst],af)]) K t) :
  TrO Γ (⟨some dst,.ix 1 len false x y,g,af⟩ :: r) nv ⟨e,o,n⟩ d acc K t:=by
 refine Am hg (c:=True) (we:=[(dst,en q)]) (wo:=[]) (rd:=rdK x ++ rdK y) ?_ (by simp [evalOp,strip,hx,hy]) trivial h
 simp [evalOp,Af,strip,hx,hy,hi.1,hi.2,hl,AZ,hq]
end
end Go.Dw
namespace Go.Dw
section
variable {Γ Γ' : At} {X ι γ : Type} {K : X -> Ay -> S -> Prop} {t : Option X} {e E : List (Nat × D)} {o O : List (Nat × Ae)} {n nv N : Nat} {acc : List CR}
 {r : List Az} {dst : Option Nat} {g : Option (Nat × Bool)} {af : List Nat}
theorem Qj {σ : S} {E1 : List (Nat × D)} {O1 : List (Nat × Ae)} (h : Has σ E1 O1) (k : ∀ n,Has ⟨E1,O1,n⟩ E O) : Has σ E O :=
 h.elim λn h=>(k n).imp λ_ k=>h.trans k
theorem Qh (rn : Nat -> Nat) (hn : Ef rn (o.map Prod.fst) = true) (h : Has ⟨e.map (λp=>(p.1,rnm rn p.2)),o.map (λp=>(rn p.1,rnO rn p.2)),n⟩ E O) : Has ⟨e,o,n⟩ E O :=
 CH (Rw.nams (σ:=⟨e,o,n⟩) rn hn) h
def TrC (Γ : At) (op : Az) (r : List Az) (K : X -> Ay -> S -> Prop) (σ : S) (t : Option X) : Prop:=∀ x,t = some x -> Ie Γ op σ (Wk (λτ=>wpS Γ r τ.n τ (K x .normal)))
theorem QA {op : Az} {E : γ -> List (Nat × D)} {O : γ -> List (Nat × Ae)} (g0 : γ) (hh : Has ⟨e,o,nv⟩ (E g0) (O g0)) (h : ∀ g nn,TrC Γ op r K ⟨E g,O g,nn⟩ t) : TrO Γ (op :: r) nv ⟨e,o,n⟩ false acc (Ek N K) t:=by
 intro x hx
 refine ⟨λ_=>.inr (.inl ?_),λhd=>by cases hd⟩
 obtain ⟨m,hm⟩:=hh
 exact ⟨_,hm,h g0 m x hx⟩
def MN (Γ : At) (r : List Az) (dst : Option Nat) (rs : List Bb) (e : List (Nat × D)) (K : X -> Ay -> S -> Prop) : X -> Ay -> S -> Prop:=λx =>
 JB rs e (λd τ=>Wk (λτ=>wpS Γ r τ.n τ (K x .normal)) ⟨Af dst d ++ τ.e,τ.o,τ.n⟩)
def Ln (dst : Option Nat) (rs : List Bb) (e : List (Nat × D)) (E : ι -> γ -> List (Nat × D)) (O : ι -> γ -> List (Nat × Ae)) (j : ι -> Option X) : X -> Ay -> S -> Prop:=λx =>
 JB rs e (λd τ=>∃ s g,j s = some x /\ Has ⟨Af dst d ++ τ.e,τ.o,τ.n⟩ (E s g) (O s g))
theorem JO {fa : Arg} {args : List Arg} {k np : Nat} {caps ds : List D} {rs : List Bb} {dc : AV} {KK : X -> Ay -> S -> Prop} (hg : gOn e g = true) (hf : Ac e fa = some (.clo k caps)) (hds : Aq e args = ds) (hw : ds.all (λd=>(match d with | .when ..=>false | _=>true)) = true) (hkb : Nat.blt k 4096 = true)
  (hΓ : Γ (k + 4096 * AR ds) = some (JC Γ' np rs dc)) (hnp : (ds ++ caps).length = np) (hE : Eh 0 (ds ++ caps) = E) (hK : ∀ x ex τ,KK x ex τ -> MN Γ r dst rs e K x ex τ) (h : Tr Γ' dc KK ⟨E,o,n⟩ t) :
  TrC Γ ⟨dst,.call fa args,g,af⟩ r K ⟨e,o,n⟩ t:=by
 intro x hx
 have hrd : (AU args).run ⟨e,o,n⟩ = ds:=by rw [<- hds]; exact BE args
 have hraw : (raw fa).run ⟨e,o,n⟩ = .clo k caps:=by simp [hf]
 have hon : onG g ⟨e,o,n⟩:=by
  cases g with
  | none=>trivial
  | some p =>
   obtain ⟨tt,want⟩:=p
   show (guardOf ((S.mk e o n).ge tt) want).1 /\ (guardOf ((S.mk e o n).ge tt) want).2 = true
   simp only [gOn,BW] at hg
   simp only [S.ge]
   generalize (look e tt).getD .top = dd at *
   cases dd <;> simp_all [guardOf]
   rename_i p dd
   cases dd <;> simp_all
 refine ⟨hon,fa,args,k,caps,JC Γ' np rs dc,MQ Γ' np rs dc,Wk (λτ=>wpS Γ r τ.n τ (K x .normal)),λτ hτ=>hτ,rfl,hraw,hkb,?_,rfl,?_,?_⟩
 ·show Γ (k + 4096 * AR ((AU args).run ⟨e,o,n⟩)) = _
  rw [hrd]; exact hΓ
 ·show ((AU args).run ⟨e,o,n⟩).all _ = true
  rw [hrd]; exact hw
 ·show MQ Γ' np rs dc ((AU args).run ⟨e,o,n⟩ ++ caps) ⟨e,o,n⟩ _
  rw [hrd]
  refine ⟨hnp,_,.refl _,?_⟩
  show DWp Γ' dc _ ⟨Eh 0 (ds ++ caps),o,n⟩
  rw [hE]
  exact BG dc _ _ _ (λex τ hq=>hK x ex τ hq) (h x hx)
theorem Qm {fa : Arg} {args : List Arg} {k np : Nat} {caps ds : List D} {rs : List Bb} {dc : AV} (hg : gOn e g = true) (hf : Ac e fa = some (.clo k caps)) (hds : Aq e args = ds) (hw : ds.all (λd=>(match d with | .when ..=>false | _=>true)) = true) (hkb : Nat.blt k 4096 = true)
  (hΓ : Γ (k + 4096 * AR ds) = some (JC Γ' np rs dc)) (hnp : (ds ++ caps).length = np) (hE : Eh 0 (ds ++ caps) = E) (h : Tr Γ' dc (MN Γ r dst rs e K) ⟨E,o,n⟩ t) :
  TrC Γ ⟨dst,.call fa args,g,af⟩ r K ⟨e,o,n⟩ t:=JO hg hf hds hw hkb hΓ hnp hE (λ_ _ _ h=>h) h
theorem Mm {rs : List Bb} {K1 K2 : D -> S -> Prop} (h : ∀ d τ,K1 d τ -> K2 d τ) {ex : Ay} {τ : S} (hq : JB rs e K1 ex τ) : JB rs e K2 ex τ:=by
 cases ex with
 | exit id=>exact hq
 | normal=>exact Wk.mono (λτ h'=>⟨h'.1,h _ _ h'.2⟩) hq
 | ret=>exact Wk.mono (λτ h'=>⟨h'.1,h _ _ h'.2⟩) hq
theorem Qz {fa : Arg} {args : List Arg} {k np : Nat} {caps ds : List D} {rs : List Bb} {dc : AV} {ES : ι -> γ -> List (Nat × D)} {OS : ι -> γ -> List (Nat × Ae)} {j : ι -> Option X} (hg : gOn e g = true) (hf : Ac e fa = some (.clo k caps)) (hds : Aq e args = ds) (hw : ds.all (λd=>(match d with | .when ..=>false | _=>true)) = true) (hkb : Nat.blt k 4096 = true)
  (hΓ : Γ (k + 4096 * AR ds) = some (JC Γ' np rs dc)) (hnp : (ds ++ caps).length = np) (hE : Eh 0 (ds ++ caps) = E) (h : Tr Γ' dc (Ln dst rs e ES OS j) ⟨E,o,n⟩ t) (h2 : ∀ s g nn,TrO Γ r nn ⟨ES s g,OS s g,nn⟩ false [] (Ek 0 K) (j s)) :
  TrC Γ ⟨dst,.call fa args,g,af⟩ r K ⟨e,o,n⟩ t:=by
 refine JO (KK:=Ln dst rs e ES OS j) hg hf hds hw hkb hΓ hnp hE (λx ex τ hq=>?_) h
 refine Mm (λd τ hq=>?_) hq
 obtain ⟨s,g,hj,m,hm⟩:=hq
 exact ⟨_,hm,(h2 s g m x hj).1 rfl⟩
theorem QD {rs : List Bb} {d : D} {ex : Ay} {e' : List (Nat × D)} {o' : List (Nat × Ae)} {n' : Nat} (hex : (match ex with | .exit _=>false | _=>true) = true) (hr : (BZ rs ⟨e',o',n'⟩).1) (hd : (BZ rs ⟨e',o',n'⟩).2 = d) (hh : Has ⟨Af dst d ++ e,o',n'⟩ E O)
  (h : ∀ nn,TrO Γ r nn ⟨E,O,nn⟩ false [] (Ek 0 K) t) : TrX ex (MN Γ r dst rs e K) ⟨e',o',n'⟩ t:=by
 intro x hx
 subst hd
 have key : Wk (λτ=>(BZ rs τ).1 /\ (λ(d : D) (τ : S)=>Wk (λτ=>wpS Γ r τ.n τ (K x .normal)) ⟨Af dst d ++ τ.e,τ.o,τ.n⟩) (BZ rs τ).2 ⟨e,τ.o,τ.n⟩) ⟨e',o',n'⟩:=by
  refine ⟨_,.refl _,?_⟩
  obtain ⟨m,hm⟩:=hh
  exact ⟨hr,_,hm,(h m x hx).1 rfl⟩
 cases ex with
 | exit id=>cases hex
 | normal=>exact key
 | ret=>exact key
theorem Qq {rs : List Bb} {d : D} {ex : Ay} {e' : List (Nat × D)} {o' : List (Nat × Ae)} {n' : Nat} {ES : ι -> γ -> List (Nat × D)} {OS : ι -> γ -> List (Nat × Ae)} {j : ι -> Option X} {s : ι} (g : γ) (hex : (match ex with | .exit _=>false | _=>true) = true) (hr : (BZ rs ⟨e',o',n'⟩).1) (hd : (BZ rs ⟨e',o',n'⟩).2 = d)
  (hh : Has ⟨Af dst d ++ e,o',n'⟩ (ES s g) (OS s g)) : TrX ex (Ln dst rs e ES OS j) ⟨e',o',n'⟩ (j s):=by
 intro x hx
 subst hd
 have key : Wk (λτ=>(BZ rs τ).1 /\ (λ(d : D) (τ : S)=>∃ s g,j s = some x /\ Has ⟨Af dst d ++ τ.e,τ.o,τ.n⟩ (ES s g) (OS s g)) (BZ rs τ).2 ⟨e,τ.o,τ.n⟩) ⟨e',o',n'⟩:=by
  refine ⟨_,.refl _,hr,s,g,hx,hh⟩
 cases ex with
 | exit id=>cases hex
 | normal=>exact key
 | ret=>exact key
theorem QE {α : Type} {σ : S} {c : AV} {m : Option α} {k : α -> Option X} (h : ∀ x,m = some x -> Tr Γ c K σ (k x)) : Tr Γ c K σ (m.bind k):=by
 intro r hr
 obtain ⟨x,hx,hk⟩:=Option.bind_eq_some_iff.1 hr
 exact h x hx r hk
theorem QG {σ : S} {c : AV} {p : Prop} [Decidable p] (h : p -> Tr Γ c K σ t) : Tr Γ c K σ (chk p t):=by
 intro r hr
 obtain ⟨hp,ht⟩:=Jk hr
 exact h hp r ht
theorem Qt {α : Type} {l : List α} {f : α -> D} {i j : Nat} {q : α} {u v : D} (h : l[i]? = some q) (hij : i ≠ j) : (((l.map f).set i u).set j v)[i]? = some u:=by
 have:=(List.getElem?_eq_some_iff.1 h).1
 rw [List.getElem?_set_ne (λe=>hij e.symm)]; simp [this]
theorem Qu {α : Type} {l : List α} {f : α -> D} {i j : Nat} {q : α} {u v : D} (h : l[j]? = some q) : (((l.map f).set i u).set j v)[j]? = some v:=by
 have:=(List.getElem?_eq_some_iff.1 h).1
 simp [this]
theorem OH {α : Type} {KK : KR X} {d : Bool} {x y : Arg} {s ty gi vi : Nat} {l : List α} {en : α -> D} {i : Nat} {q q' : α} {c : Prop} {rk : List Key} (hg : gOn e g = true) (hx : Ac e x = some (.optr gi vi i 0)) (hy : Ac e y = some (en q')) (hw : strip (en q') = (true,en q'))
  (ho : lkO o gi = some (vi,⟨false,false,s,ty,l.map en⟩)) (hi : l[i]? = some q) (hk : known (en q') = true) (hc : ∀ q,cells (en q) = [en q])
  (hz : AE (en q) 0 [en q'] = en q') (hcl : (AQ false [en q']).run ⟨e,o,n⟩ = (c,[en q'],[])) (hrd : (AQ false [en q']).rd ⟨e,o,n⟩ = rk) (hcc : c)
  (h : TrO Γ r (nv + 1) ⟨e,(gi,some (vi,⟨false,false,s,ty,(l.set i q').map en⟩)) :: o,n⟩ d (acc ++ [(gK g ++ (rdK x ++ (rdK y ++ (.o gi :: rk))),[.o gi],af)]) KK t) (hrg : Ad gi = true:=by rfl) :
  TrO Γ (⟨none,.st 1 x y,g,af⟩ :: r) nv ⟨e,o,n⟩ d acc KK t:=by
 have hl:=(List.getElem?_eq_some_iff.1 hi).1
 refine EI (i:=i) (off:=0) (m:=1) (z:=en q) (es':=(l.set i q').map en) (cs':=[en q']) (wo:=[]) (rk:=rk) hg hx hy hw ho (by rw [hc]; exact hcl) (by rw [hc]; exact hrd) hcc (by simp [hi]) hk (by rw [hc]; rfl) (by rw [hc]; rfl) ?_ rfl h hrg
 rw [hz,List.map_set]
end
end Go.Dw
namespace Go.Dw
def Sj {α : Type} (z : α) (n : Int) : List (Int × α) -> α
 | []=>z
 | (k,u) :: r=>if k = n then u else Sj z n r
def Sk {α : Type} (n : Int) (u : α) : List (Int × α) -> List (Int × α)
 | []=>[(n,u)]
 | (k,u') :: r=>if k = n then (k,u) :: r else (k,u') :: Sk n u r
def RR {α : Type} (n : Int) : List (Int × α) -> List (Int × α)
 | []=>[]
 | (k,u) :: r=>if k = n then r else (k,u) :: RR n r
def Cl {α : Type} (en : α -> D) (p : Int × α) : D:=.agg [.int .i64 p.1,en p.2]
theorem IG {α : Type} (en : α -> D) (z : α) (n : Int) : ∀ l : List (Int × α),Dn (en z) n (l.map (Cl en)) = en (Sj z n l)
 | []=>rfl
 | (k,u) :: r=>by
  simp only [List.map_cons,Cl,Dn,Sj]
  split
  ·rfl
  ·exact IG en z n r
theorem IH {α : Type} (en : α -> D) (u : α) (n : Int) : ∀ l : List (Int × α),Dp n (en u) (l.map (Cl en)) = (Sk n u l).map (Cl en)
 | []=>rfl
 | (k,u') :: r=>by
  simp only [List.map_cons,Cl,Dp,Sk]
  split
  ·rfl
  ·have:=IH en u n r
   simp only [List.map_cons,Cl] at this ⊢
   rw [<- this]
theorem Gb {α : Type} (en : α -> D) (n : Int) : ∀ l : List (Int × α),Dm n (l.map (Cl en)) = (RR n l).map (Cl en)
 | []=>rfl
 | (k,u') :: r=>by
  simp only [List.map_cons,Cl,Dm,RR]
  split
  ·rfl
  ·have:=Gb en n r
   simp only [List.map_cons,Cl] at this ⊢
   rw [<- this]
def itE (p : List UInt8 × Nat) : List D:=[.str p.1,.int .i64 (.ofNat p.2)]
def itN (p : List UInt8 × Nat) : List UInt8 × Nat:=(p.1,p.2 + (RA p.1 p.2).2)
theorem Gk {α : Type} (l : List α) (en : α -> D) (k : Nat) : List.take (l.length - k) (List.drop k (l.map en)) = (l.drop k).map en:=by
 rw [<- List.map_drop]
 exact List.take_of_length_le (by simp)
section
variable {Γ : At} {X α : Type} {K : KR X} {t : Option X} {e E : List (Nat × D)} {o O : List (Nat × Ae)} {n nv : Nat} {acc : List CR} {d : Bool}
 {r : List Az} {dst : Nat} {g : Option (Nat × Bool)} {af : List Nat} {x y i : Arg} {gi vi ty : Nat} {m : Int} {en : α -> D} {l : List (Int × α)} {z : D}
theorem Bl (g v : Nat) : strip (.mref g v) = (true,.mref g v):=rfl
theorem Bk (k : IntKind) (n : Int) : strip (.int k n) = (true,.int k n):=rfl
theorem QC {K : X -> Ay -> S -> Prop} {N : Nat} 
  (h : ∀ nn,TrO Γ r (nn + 1) ⟨(dst,.mref dst nn) :: e,(dst,some (nn,⟨true,false,0,0,[]⟩)) :: o,nn + 1⟩ false [] (Ek N K) t) :
  TrO Γ (⟨some dst,.mkm,none,af⟩ :: r) nv ⟨e,o,n⟩ false acc (Ek N K) t:=by
 intro q hq
 refine ⟨λ_=>.inr (.inr ?_),λhd=>by cases hd⟩
 exact ⟨_,.refl _,rfl,dst,rfl,0,[],⟨rfl,rfl⟩,_,.refl _,(h nv q hq).1 rfl⟩
theorem PY (s : List UInt8) : strip (.str s) = (true,.str s):=rfl
theorem Uq {K : X -> Ay -> S -> Prop} {N : Nat} {s : List UInt8} (hx : Ac e x = some (.str s))
  (h : ∀ nn,TrO Γ r (nn + 1) ⟨(dst,.mref dst nn) :: e,(dst,some (nn,⟨true,false,0,1,itE (s,0)⟩)) :: o,nn + 1⟩ false [] (Ek N K) t) :
  TrO Γ (⟨some dst,.rng x,none,af⟩ :: r) nv ⟨e,o,n⟩ false acc (Ek N K) t:=by
 intro q hq
 refine ⟨λ_=>.inr (.inr ?_),λhd=>by cases hd⟩
 exact ⟨_,.refl _,rfl,dst,rfl,1,_,⟨s,by rw [Al,hx]; rfl,rfl,rfl⟩,_,.refl _,(h nv q hq).1 rfl⟩
theorem Up {p : List UInt8 × Nat} {t' : Option X} (hg : gOn e g = true) (hx : Ac e x = some (.mref gi vi)) (ho : lkO o gi = some (vi,⟨true,false,0,1,itE p⟩))
  (h : p.2 < p.1.length -> TrO Γ r (nv + 1) ⟨(dst,.tup [.bool true,.int .i64 p.2,.int .i32 (RA p.1 p.2).1]) :: e,(gi,some (vi,⟨true,false,0,1,itE (itN p)⟩)) :: o,n⟩ d (acc ++ [(gK g ++ (rdK x ++ [.o gi]),[.e dst,.o gi],af)]) K t)
  (h' : ¬ p.2 < p.1.length -> TrO Γ r (nv + 1) ⟨(dst,.tup [.bool false]) :: e,o,n⟩ d (acc ++ [(gK g ++ (rdK x ++ [.o gi]),[.e dst],af)]) K t') :
  TrO Γ (⟨some dst,.nxt x,g,af⟩ :: r) nv ⟨e,o,n⟩ d acc K (bif Nat.blt p.2 p.1.length then t else t'):=by
 obtain ⟨s,q⟩:=p
 simp only [itE,itN] at ho h h' ⊢
 by_cases hq : q < s.length
 ·have e1 : Nat.blt q s.length = true:=by simpa [Nat.blt_eq] using hq
  rw [e1]
  simp only [cond_true]
  refine Am hg (c:=True /\ vi = vi /\ 0 = 0 /\ 1 = 1) (we:=[(dst,.tup [.bool true,.int .i64 q,.int .i32 (RA s q).1])]) (wo:=[(gi,some (vi,⟨true,false,0,1,[.str s,.int .i64 (.ofNat (q + (RA s q).2))]⟩))]) (rd:=rdK x ++ [Key.o gi]) ?_ ?_ ⟨trivial,rfl,rfl,rfl⟩ (h hq)
  ·simp only [evalOp,R.run_bind,Al,Option.getD_some,hx,Bl,Dx,R.AW,AB,ho,R.AJ,R.run_pure,if_pos hq,Af]
  ·simp only [evalOp,R.AK,Al,AX,Option.getD_some,hx,Bl,Dx,R.Cg,R.AW,AB,ho,R.Co,R.AJ,R.Bp,if_pos hq,List.append_nil]
 ·have e1 : Nat.blt q s.length = false:=by
   cases hb : Nat.blt q s.length with
   | false=>rfl
   | true=>exact absurd (by simpa [Nat.blt_eq] using hb) hq
  rw [e1]
  simp only [cond_false]
  refine Am hg (c:=True /\ vi = vi /\ 0 = 0 /\ 1 = 1) (we:=[(dst,.tup [.bool false])]) (wo:=[]) (rd:=rdK x ++ [Key.o gi]) ?_ ?_ ⟨trivial,rfl,rfl,rfl⟩ (h' hq)
  ·simp only [evalOp,R.run_bind,Al,Option.getD_some,hx,Bl,Dx,R.AW,AB,ho,R.AJ,R.run_pure,if_neg hq,Af]
  ·simp only [evalOp,R.AK,Al,AX,Option.getD_some,hx,Bl,Dx,R.Cg,R.AW,AB,ho,R.Co,R.AJ,R.Bp,if_neg hq,List.append_nil]
theorem Qi {v gg off tt s tyy ss : Nat} {zz z' : D} (ho : lkO o gg = some (v,⟨false,true,ss,ty,[zz]⟩)) (hc : (cells zz)[off]? = some .nils) (hs : Nat.blt 0 s = true) (hz : AE zz off [.osl tt n 0 0] = z')
  (h : Has ⟨e,(gg,some (v,⟨false,true,ss,ty,[z']⟩)) :: (tt,some (n,⟨false,false,s,tyy,[]⟩)) :: o,n + 1⟩ E O) (hr : Ad gg = false:=by rfl) (hne : Nat.beq gg tt = false:=by rfl) : Has ⟨e,o,n⟩ E O:=by
 subst hz
 have hs' : 0 < s:=by simpa [Nat.blt_eq] using hs
 have hne' : gg ≠ tt:=λe=>by subst e; simp at hne
 have:=Rw.nilv (σ:=⟨e,o,n⟩) gg v 0 off tt s tyy ⟨false,true,ss,ty,[zz]⟩ (by rw [AB]; exact ho) hr rfl rfl (by simp) hc hs' hne'
 exact CH this h
theorem PI {v vw gw off gg s tyy ss tw k : Nat} {β : Type} {l : List β} {en : β -> D} {zz z' : D} (how : lkO o gw = some (vw,⟨false,true,ss,tw,[zz]⟩)) (hc : (cells zz)[off]? = some (.osl gg v 0 k)) (ho : lkO o gg = some (v,⟨false,false,s,tyy,l.map en⟩)) (hk : k <= l.length)
  (hz : AE zz off [.osl gg v 0 (l.take k).length] = z')
  (h : Has ⟨e,(gw,some (vw,⟨false,true,ss,tw,[z']⟩)) :: (gg,some (v,⟨false,false,s,tyy,(l.take k).map en⟩)) :: o,n⟩ E O) (hrw : Ad gw = false:=by rfl) (hr : Ad gg = false:=by rfl) (hne : Nat.beq gw gg = false:=by rfl) : Has ⟨e,o,n⟩ E O:=by
 subst hz
 have hne' : gw ≠ gg:=λe=>by subst e; simp at hne
 have:=Rw.shrink (σ:=⟨e,o,n⟩) gw vw 0 off gg v k ⟨false,true,ss,tw,[zz]⟩ ⟨false,false,s,tyy,l.map en⟩ (by rw [AB]; exact how) hrw rfl rfl (by simp) hc (by rw [AB]; exact ho) hr rfl rfl (by simpa using hk) hne'
 refine CH this ?_
 have e1 : ((l.map en).take k).length = (l.take k).length:=by simp
 have e2 : (l.map en).take k = (l.take k).map en:=List.map_take.symm
 simp only [List.getD_cons_zero,List.set_cons_zero]
 rw [e2,List.length_map]
 exact h
theorem Qo (hg : gOn e g = true) (hx : Ac e x = some (.mref gi vi)) (hi : Ac e i = some (.int .i64 m)) (ho : lkO o gi = some (vi,⟨true,false,0,0,l.map (Cl en)⟩)) (zz : α) (hz : z = en zz)
  (h : TrO Γ r (nv + 1) ⟨(dst,en (Sj zz m l)) :: e,o,n⟩ d (acc ++ [(gK g ++ (rdK x ++ (rdK i ++ [.o gi])),[.e dst],af)]) K t) :
  TrO Γ (⟨some dst,.mget z x i,g,af⟩ :: r) nv ⟨e,o,n⟩ d acc K t:=by
 subst hz
 refine Am hg (c:=True) (we:=[(dst,en (Sj zz m l))]) (wo:=[]) (rd:=rdK x ++ (rdK i ++ [Key.o gi])) ?_ ?_ trivial h
 ·simp only [evalOp,R.run_bind,Al,Option.getD_some,hx,hi,Bl,Bk,Cb,R.AW,AB,ho,R.AJ,R.run_pure,Af,IG]
  simp
 ·simp only [evalOp,R.AK,Al,AX,Option.getD_some,hx,hi,Bl,Bk,Cb,R.Cg,AB,ho,R.Co,R.Bp,List.append_nil]
theorem Qp (hg : gOn e g = true) (hx : Ac e x = some (.mref gi vi)) (hi : Ac e i = some (.int .i64 m)) (u : α) (hy : Ac e y = some (en u)) (hw : strip (en u) = (true,en u)) (hgr : Bo (en u) = true) (ho : lkO o gi = some (vi,⟨true,false,0,0,l.map (Cl en)⟩))
  (h : TrO Γ r (nv + 1) ⟨e,(gi,some (vi,⟨true,false,0,0,(Sk m u l).map (Cl en)⟩)) :: o,n⟩ d (acc ++ [(gK g ++ (rdK x ++ (rdK i ++ (rdK y ++ [.o gi]))),[.o gi],af)]) K t) :
  TrO Γ (⟨none,.mset x i y,g,af⟩ :: r) nv ⟨e,o,n⟩ d acc K t:=by
 refine Am hg (c:=True) (we:=[]) (wo:=[(gi,some (vi,⟨true,false,0,0,(Sk m u l).map (Cl en)⟩))]) (rd:=rdK x ++ (rdK i ++ (rdK y ++ [Key.o gi]))) ?_ ?_ trivial h
 ·simp only [evalOp,R.run_bind,Al,Option.getD_some,hx,hi,hy,hw,Bl,Bk,Cb,R.AW,AB,ho,R.AJ,R.run_pure,IH,hgr]
  simp
 ·simp only [evalOp,R.AK,Al,AX,Option.getD_some,hx,hi,hy,hw,Bl,Bk,Cb,R.Cg,AB,ho,R.Co,R.Bp,List.append_nil]
theorem Qn (hg : gOn e g = true) (hx : Ac e x = some (.mref gi vi)) (hi : Ac e i = some (.int .i64 m)) (ho : lkO o gi = some (vi,⟨true,false,0,0,l.map (Cl en)⟩))
  (h : TrO Γ r (nv + 1) ⟨(dst,.tup []) :: e,(gi,some (vi,⟨true,false,0,0,(RR m l).map (Cl en)⟩)) :: o,n⟩ d (acc ++ [(gK g ++ (rdK x ++ (rdK i ++ [.o gi])),[.e dst,.o gi],af)]) K t) :
  TrO Γ (⟨some dst,.mdel x i,g,af⟩ :: r) nv ⟨e,o,n⟩ d acc K t:=by
 refine Am hg (c:=True) (we:=[(dst,.tup [])]) (wo:=[(gi,some (vi,⟨true,false,0,0,(RR m l).map (Cl en)⟩))]) (rd:=rdK x ++ (rdK i ++ [Key.o gi])) ?_ ?_ trivial h
 ·simp only [evalOp,R.run_bind,Al,Option.getD_some,hx,hi,Bl,Bk,Cb,R.AW,AB,ho,R.AJ,R.run_pure,Af,Gb]
  simp
 ·simp only [evalOp,R.AK,Al,AX,Option.getD_some,hx,hi,Bl,Bk,Cb,R.Cg,AB,ho,R.Co,R.Bp,List.append_nil]
theorem Qb (hg : gOn e g = true) (hx : Ac e x = some (.mref gi vi)) (hi : Ac e i = some (.int .i64 m)) (ho : lkO o gi = some (vi,⟨true,false,0,0,l.map (Cl en)⟩))
  (h : TrO Γ r (nv + 1) ⟨e,(gi,some (vi,⟨true,false,0,0,(RR m l).map (Cl en)⟩)) :: o,n⟩ d (acc ++ [(gK g ++ (rdK x ++ (rdK i ++ [.o gi])),[.o gi],af)]) K t) :
  TrO Γ (⟨none,.mdel x i,g,af⟩ :: r) nv ⟨e,o,n⟩ d acc K t:=by
 refine Am hg (c:=True) (we:=[]) (wo:=[(gi,some (vi,⟨true,false,0,0,(RR m l).map (Cl en)⟩))]) (rd:=rdK x ++ (rdK i ++ [Key.o gi])) ?_ ?_ trivial h
 ·simp only [evalOp,R.run_bind,Al,Option.getD_some,hx,hi,Bl,Bk,Cb,R.AW,AB,ho,R.AJ,R.run_pure,Af,Gb]
  simp
 ·simp only [evalOp,R.AK,Al,AX,Option.getD_some,hx,hi,Bl,Bk,Cb,R.Cg,AB,ho,R.Co,R.Bp,List.append_nil]
end
theorem nbq (a b : Nat) : Nat.beq a b = decide (a = b):=by
 by_cases h : a = b
 ·simp [h]
 ·rw [decide_eq_false h]
  exact Bool.eq_false_iff.2 λh'=>h (Nat.eq_of_beq_eq_true h')
end Go.Dw
namespace Go.Dw
class TyE (ty : Nat) {α : outParam Type} (en : outParam (α -> D)) : Prop
def noE {B : Type} (_ : B) : List D:=[]
class Rn {A : Type} (enc : A -> List D) (dec : outParam (List D -> A)) : Prop where
 ok : ∀ a,dec (enc a) = a
def EvL (l l' : List D) : Prop:=l = l'
theorem EvL.nil {l : List D} (h : l = []) : EvL l []:=h
theorem EvL.cons {l t t' : List D} {a : D} (h : l = a :: t) (ht : EvL t t') : EvL l (a :: t'):=by
 cases ht; exact h
def EvP (l l' : List (Nat × Nat × D)) : Prop:=l = l'
theorem EvP.nil {l : List (Nat × Nat × D)} (h : l = []) : EvP l []:=h
theorem EvP.cons {e : List (Nat × D)} {a b : Nat} {x : Arg} {r : List (Nat × Nat × Arg)} {d : D} {r' : List (Nat × Nat × D)} (h : Ac e x = some d) (ht : EvP (CJ e r) r') : EvP (CJ e ((a,b,x) :: r)) ((a,b,d) :: r'):=by
 cases ht; simp [EvP,CJ,h]
section
variable {Γ : At} {X : Type} {K : KR X} {t : Option X} {e : List (Nat × D)} {o : List (Nat × Ae)} {n nv : Nat} {d : Bool} {acc : List CR}
 {r : List Az} {dst : Nat} {g : Option (Nat × Bool)} {af : List Nat} {α : Type}
 {x y : Arg} {v v' w : D} {k k' : IntKind} {a b : Int} {s ty gi vi ii off m : Nat} {fz var : Bool} {es cs : List D} {z z' : D} {l l' : List α} {en : α -> D}
theorem Gz {i : Nat} (hg : gOn e g = true) (hx : Ac e x = some (.optr gi vi i off)) (ho : lkO o gi = some (vi,⟨fz,var,s,ty,es⟩)) (hz : es[i]? = some z) (hv : (cells z)[off]? = some v)
  (h : TrO Γ r (nv + 1) ⟨(dst,v) :: e,o,n⟩ d (acc ++ [(gK g ++ (rdK x ++ [.o gi]),[.e dst],af)]) K t) (hpl : (plain v || !Ad gi) = true:=by rfl) :
  TrO Γ (⟨some dst,.ld 1 false x,g,af⟩ :: r) nv ⟨e,o,n⟩ d acc K t :=
 Fu hg hx ho hz (Nat.ble_eq_true_of_le (List.getElem?_eq_some_iff.1 hv).1) (by simp [AZ,hv]) h hpl
theorem GA {i : Nat} (hg : gOn e g = true) (hx : Ac e x = some (.optr gi vi i off)) (ho : lkO o gi = some (vi,⟨fz,var,s,ty,es⟩)) (hz : es[i]? = some z) (hb : Nat.ble (off + m) (cells z).length = true) (hv : EvL (((cells z).drop off).take m) cs)
  (h : TrO Γ r (nv + 1) ⟨(dst,.agg cs) :: e,o,n⟩ d (acc ++ [(gK g ++ (rdK x ++ [.o gi]),[.e dst],af)]) K t) :
  TrO Γ (⟨some dst,.ld m true x,g,af⟩ :: r) nv ⟨e,o,n⟩ d acc K t :=
 Fu hg hx ho hz hb (by cases hv; rfl) h (by rfl)
theorem Kd (hg : gOn e g = true) (hx : Ac e x = some (.fptr z off)) (hv : (cells z)[off]? = some v)
  (h : TrO Γ r (nv + 1) ⟨(dst,v) :: e,o,n⟩ d (acc ++ [(gK g ++ rdK x,[.e dst],af)]) K t) :
  TrO Γ (⟨some dst,.ld 1 false x,g,af⟩ :: r) nv ⟨e,o,n⟩ d acc K t :=
 Hv hg hx (Nat.ble_eq_true_of_le (List.getElem?_eq_some_iff.1 hv).1) (by simp [AZ,hv]) h
theorem Ke (hg : gOn e g = true) (hx : Ac e x = some (.fptr z off)) (hb : Nat.ble (off + m) (cells z).length = true) (hv : EvL (((cells z).drop off).take m) cs)
  (h : TrO Γ r (nv + 1) ⟨(dst,.agg cs) :: e,o,n⟩ d (acc ++ [(gK g ++ rdK x,[.e dst],af)]) K t) :
  TrO Γ (⟨some dst,.ld m true x,g,af⟩ :: r) nv ⟨e,o,n⟩ d acc K t :=
 Hv hg hx hb (by cases hv; rfl) h
theorem Nn (hg : gOn e g = true) (hx : Ac e x = some (.optr gi vi 0 0)) (hy : Ac e y = some v) (hw : strip v = (true,v)) (ho : lkO o gi = some (vi,⟨false,true,s,ty,[z]⟩)) (hk : known v = true) (hl : cells v = [v'])
  (hb : Nat.ble 1 (cells z).length = true) (hz : (match z with | .agg _=>false | _=>true) = true)
  (h : TrO Γ r (nv + 1) ⟨e,(gi,some (vi,⟨false,true,s,ty,[v']⟩)) :: o,n⟩ d (acc ++ [(gK g ++ (rdK x ++ (rdK y ++ [.o gi])),[.o gi],af)]) K t) (hrg : Ad gi = false:=by rfl) :
  TrO Γ (⟨none,.st 1 x y,g,af⟩ :: r) nv ⟨e,o,n⟩ d acc K t :=
 Fv hg hx hy hw ho hk (by rw [hl]; rfl) hb (by rw [hl]; cases z <;> first | rfl | cases hz) h hrg
theorem Np {zs : List D} (hg : gOn e g = true) (hx : Ac e x = some (.optr gi vi 0 off)) (hy : Ac e y = some v) (hw : strip v = (true,v)) (ho : lkO o gi = some (vi,⟨false,true,s,ty,[z]⟩)) (hk : known v = true) (hl : (cells v).length = m)
  (hzz : z = .agg zs) (hb : Nat.ble (off + m) zs.length = true) (hz : EvL (setAt zs off (cells v)) cs)
  (h : TrO Γ r (nv + 1) ⟨e,(gi,some (vi,⟨false,true,s,ty,[.agg cs]⟩)) :: o,n⟩ d (acc ++ [(gK g ++ (rdK x ++ (rdK y ++ [.o gi])),[.o gi],af)]) K t) (hrg : Ad gi = false:=by rfl) :
  TrO Γ (⟨none,.st m x y,g,af⟩ :: r) nv ⟨e,o,n⟩ d acc K t:=by
 subst hzz; cases hz
 exact Fv hg hx hy hw ho hk hl hb rfl h hrg
theorem Nl {zs : List D} {parts : List (Nat × Nat × Arg)} {ps : List (Nat × Nat × D)} (hg : gOn e g = true) (hp : EvP (CJ e parts) ps) (hf : ER zs.length ps = true) (hz : EvL (DE zs ps) cs)
  (h : TrO Γ r (nv + 1) ⟨(dst,.agg cs) :: e,o,n⟩ d (acc ++ [(gK g ++ Dz parts,[.e dst],af)]) K t) :
  TrO Γ (⟨some dst,.bld zs parts,g,af⟩ :: r) nv ⟨e,o,n⟩ d acc K t:=OB hg hp hf hz h
theorem LG (hg : gOn e g = true) (hx : Ac e x = some (.agg cs)) (hv : cs[off]? = some v)
  (h : TrO Γ r (nv + 1) ⟨(dst,v) :: e,o,n⟩ d (acc ++ [(gK g ++ rdK x,[.e dst],af)]) K t) :
  TrO Γ (⟨some dst,.fld off 1 false x,g,af⟩ :: r) nv ⟨e,o,n⟩ d acc K t :=
 KM hg hx (Nat.ble_eq_true_of_le (List.getElem?_eq_some_iff.1 hv).1) (by simp [AZ,hv]) h
theorem LH {cs' : List D} (hg : gOn e g = true) (hx : Ac e x = some (.agg cs)) (hb : Nat.ble (off + m) cs.length = true) (hv : EvL ((cs.drop off).take m) cs')
  (h : TrO Γ r (nv + 1) ⟨(dst,.agg cs') :: e,o,n⟩ d (acc ++ [(gK g ++ rdK x,[.e dst],af)]) K t) :
  TrO Γ (⟨some dst,.fld off m true x,g,af⟩ :: r) nv ⟨e,o,n⟩ d acc K t :=
 KM hg hx hb (by cases hv; rfl) h
theorem Iw (_ : TyE ty en) (hg : gOn e g = true) (hx : Ac e x = some .nils) (h : TrO Γ r (nv + 1) ⟨(dst,.osl dst nv 0 ([] : List α).length) :: e,(dst,some (nv,⟨false,false,s,ty,([] : List α).map en⟩)) :: o,n⟩ d (acc ++ [(gK g ++ rdK x,[.e dst,.o dst],af)]) K t) :
  TrO Γ (⟨some dst,.asg x (some (s,ty)),g,af⟩ :: r) nv ⟨e,o,n⟩ d acc K t:=JY hg en hx h
theorem Nm {bytes : Nat} {q : α} (_ : TyE ty en) (hz : z = en q) (hg : gOn e g = true) (hx : Ac e x = some (.int k a)) (hy : Ac e y = some (.int k' a)) (hl : 0 <= a /\ a <= 16777216) (hby : Nat.ble bytes 65536 = true)
  (h : TrO Γ r (nv + 1) ⟨(dst,.osl dst nv 0 (List.replicate a.toNat q).length) :: e,(dst,some (nv,⟨false,false,s,ty,(List.replicate a.toNat q).map en⟩)) :: o,n⟩ d (acc ++ [(gK g ++ (rdK x ++ rdK y),[.e dst,.o dst],af)]) K t) :
  TrO Γ (⟨some dst,.mkS s ty bytes z x y,g,af⟩ :: r) nv ⟨e,o,n⟩ d acc K t:=OC en hg hx hy hz hl hby h
theorem Ka {c : Prop} {parts : List (Nat × Arg)} {i : Nat} {p : D} {rk : List Key} {q : α} (_ : TyE ty en) (hg : gOn e g = true) (hr : (AY parts).run ⟨e,o,n⟩ = (c,[(i,p)],[])) (hk : (AY parts).rd ⟨e,o,n⟩ = rk) (hc : c) (hq : p = en q)
  (hp : Jp s 1 [(i,p)] = true) (hes : CM [z] [(i,en q)] = [en q])
  (h : TrO Γ r (nv + 1) ⟨(dst,.osl dst nv 0 [q].length) :: e,(dst,some (nv,⟨false,false,s,ty,[q].map en⟩)) :: o,n⟩ d (acc ++ [(gK g ++ rk,[.e dst,.o dst],af)]) K t) :
  TrO Γ (⟨some dst,.bldS s ty z 1 parts,g,af⟩ :: r) nv ⟨e,o,n⟩ d acc K t:=by
 subst hq
 exact Ti [q] en hg hr hk hc hp hes rfl (by simpa using h)
theorem Kc {p q : Bool} (hg : gOn e g = true) (hx : Ac e x = some (.bool p)) (hy : Ac e y = some (.bool q))
  (h : TrO Γ r (nv + 1) ⟨(dst,.bool (!(p == q))) :: e,o,n⟩ d (acc ++ [(gK g ++ (rdK x ++ rdK y),[.e dst],af)]) K t) :
  TrO Γ (⟨some dst,.eqB true x y,g,af⟩ :: r) nv ⟨e,o,n⟩ d acc K t:=KJ hg hx hy h
theorem Kb {p q : Bool} (hg : gOn e g = true) (hx : Ac e x = some (.bool p)) (hy : Ac e y = some (.bool q))
  (h : TrO Γ r (nv + 1) ⟨(dst,.bool (p == q)) :: e,o,n⟩ d (acc ++ [(gK g ++ (rdK x ++ rdK y),[.e dst],af)]) K t) :
  TrO Γ (⟨some dst,.eqB false x y,g,af⟩ :: r) nv ⟨e,o,n⟩ d acc K t:=KJ hg hx hy h
theorem NQ {ops : List Az} {x : Nat} {wt : Bool} {b : Bool} {dt : Option Nat} {op : DOp} {t1 t2 : Option X} (hx : Cf e x = some (.bool b))
  (h1 : TrO Γ (⟨dt,op,some (x,wt),af⟩ :: ops) nv ⟨Em e x (.bool true),o,n⟩ d acc K t1) (h2 : TrO Γ (⟨dt,op,some (x,wt),af⟩ :: ops) nv ⟨Em e x (.bool false),o,n⟩ d acc K t2) :
  TrO Γ (⟨dt,op,some (x,wt),af⟩ :: ops) nv ⟨e,o,n⟩ d acc K (bif b then t1 else t2):=Mx x hx h1 h2
end
section
variable {Γ : At} {X A B : Type} {K : KR X} {e : List (Nat × D)} {o : List (Nat × Ae)} {n nv : Nat} {d : Bool} {acc : List CR}
 {r : List Az} {dst : Nat} {g : Option (Nat × Bool)} {af : List Nat} {α : Type}
 {ptr : List (Nat × (Nat × Nat))} {kind : Kind} {enc : A -> List D} {dec : List D -> A} {f : A -> Option B} {encR : B -> D} {encE : B -> List D} {m : Option B} {kt : B -> Option X}
 {fa : Arg} {args : List Arg} {caps : List D} {k : Nat} {c : Prop} {ds : List D} {w : List (Nat × Ae)} {ps : List (Nat × Nat × Own)} {rk : List Key} {s ty : Nat}
theorem Hz (hg : gOn e g = true) (hf : Ac e fa = some (.clo k caps)) (hΓ : Γ (k + 4096 * AR (Aq e args)) = some (Av ptr .val enc dec f encR encE)) [hde : Rn enc dec] (hr : (Ag ptr 0 (Aq e args ++ caps)).run ⟨e,o,n⟩ = (c,ds,w,ps))
  (hk : (Ag ptr 0 (Aq e args ++ caps)).rd ⟨e,o,n⟩ = rk) (hc : c) (ha : ∃ a,f a = m /\ ds = enc a)
  (h : ∀ b,m = some b -> TrO Γ r (nv + 1) ⟨(dst,encR b) :: e,(Aj ps (encE b) ++ w) ++ o,n⟩ d (acc ++ [(gK g ++ (rdK fa ++ (Bw args ++ rk)),.e dst :: (Aj ps (encE b) ++ w).map (λx=>.o x.1),af)]) K (kt b)) (hkb : Nat.blt k 4096 = true:=by rfl) :
  TrO Γ (⟨some dst,.call fa args,g,af⟩ :: r) nv ⟨e,o,n⟩ d acc K (m.bind kt) :=
 QP λb hb=>ha.elim λa ha=>Gp a hg hf hΓ hde.ok hr hk hc ha.2 (ha.1.trans hb) (h b hb) hkb
theorem GD (hg : gOn e g = true) (hf : Ac e fa = some (.clo k caps)) (hΓ : Γ (k + 4096 * AR (Aq e args)) = some (Av ptr .val enc dec f encR encE)) [hde : Rn enc dec] (hr : (Ag ptr 0 (Aq e args ++ caps)).run ⟨e,o,n⟩ = (c,ds,w,ps))
  (hk : (Ag ptr 0 (Aq e args ++ caps)).rd ⟨e,o,n⟩ = rk) (hc : c) (ha : ∃ a,f a = m /\ ds = enc a)
  (h : ∀ b,m = some b -> TrO Γ r (nv + 1) ⟨e,(Aj ps (encE b) ++ w) ++ o,n⟩ d (acc ++ [(gK g ++ (rdK fa ++ (Bw args ++ rk)),(Aj ps (encE b) ++ w).map (λx=>.o x.1),af)]) K (kt b)) (hkb : Nat.blt k 4096 = true:=by rfl) :
  TrO Γ (⟨none,.call fa args,g,af⟩ :: r) nv ⟨e,o,n⟩ d acc K (m.bind kt) :=
 QP λb hb=>ha.elim λa ha=>FH a hg hf hΓ hde.ok hr hk hc ha.2 (ha.1.trans hb) (h b hb) hkb
theorem FB (hg : gOn e g = true) (hf : Ac e fa = some (.clo k caps)) (hΓ : Γ (k + 4096 * AR (Aq e args)) = some (Av [] .ground enc dec f encR encE)) [hde : Rn enc dec] (hr : (Ag [] 0 (Aq e args ++ caps)).run ⟨e,o,n⟩ = (c,ds,w,ps))
  (hk : (Ag [] 0 (Aq e args ++ caps)).rd ⟨e,o,n⟩ = rk) (hc : c) (ha : ∃ a,f a = m /\ ds = enc a) (hgr : ∀ b,isGround (encR b) = true)
  (h : ∀ b,m = some b -> TrO Γ r (nv + 1) ⟨(dst,encR b) :: e,o,n⟩ d (acc ++ [(gK g ++ (rdK fa ++ (Bw args ++ rk)),[.e dst],af)]) K (kt b)) (hkb : Nat.blt k 4096 = true:=by rfl) :
  TrO Γ (⟨some dst,.call fa args,g,af⟩ :: r) nv ⟨e,o,n⟩ d acc K (m.bind kt) :=
 QP λb hb=>ha.elim λa ha=>EB a hg hf hΓ hde.ok hr hk hc ha.2 (ha.1.trans hb) (hgr b) (h b hb) hkb
theorem Hy {lf : B -> List α} {en : α -> D} (hg : gOn e g = true) (hf : Ac e fa = some (.clo k caps)) (hΓ : Γ (k + 4096 * AR (Aq e args)) = some (Av ptr (.row s ty) enc dec f encR encE)) [hde : Rn enc dec] (hr : (Ag ptr 0 (Aq e args ++ caps)).run ⟨e,o,n⟩ = (c,ds,w,ps))
  (hk : (Ag ptr 0 (Aq e args ++ caps)).rd ⟨e,o,n⟩ = rk) (hc : c) (ha : ∃ a,f a = m /\ ds = enc a) (hl : ∀ b,encR b = .sl ((lf b).map en))
  (h : ∀ b,m = some b -> TrO Γ r (nv + 1) ⟨(dst,.osl dst nv 0 (lf b).length) :: e,((dst,some (nv,⟨false,false,s,ty,(lf b).map en⟩)) :: (Aj ps (encE b) ++ w)) ++ o,n⟩ d (acc ++ [(gK g ++ (rdK fa ++ (Bw args ++ rk)),.e dst :: .o dst :: (Aj ps (encE b) ++ w).map (λx=>.o x.1),af)]) K (kt b)) (hkb : Nat.blt k 4096 = true:=by rfl) :
  TrO Γ (⟨some dst,.call fa args,g,af⟩ :: r) nv ⟨e,o,n⟩ d acc K (m.bind kt) :=
 QP λb hb=>ha.elim λa ha=>Gn a hg hf hΓ hde.ok hr hk hc ha.2 (ha.1.trans hb) (hl b) (h b hb) hkb
theorem Hx (hg : gOn e g = true) (hf : Ac e fa = some (.clo k caps)) (hΓ : Γ (k + 4096 * AR (Aq e args)) = some (Av ptr (.ptr s ty) enc dec f encR encE)) [hde : Rn enc dec] (hr : (Ag ptr 0 (Aq e args ++ caps)).run ⟨e,o,n⟩ = (c,ds,w,ps))
  (hk : (Ag ptr 0 (Aq e args ++ caps)).rd ⟨e,o,n⟩ = rk) (hc : c) (ha : ∃ a,f a = m /\ ds = enc a)
  (h : ∀ b,m = some b -> TrO Γ r (nv + 1) ⟨(dst,.optr dst nv 0 0) :: e,((dst,some (nv,⟨false,true,s,ty,[encR b]⟩)) :: (Aj ps (encE b) ++ w)) ++ o,n⟩ d (acc ++ [(gK g ++ (rdK fa ++ (Bw args ++ rk)),.e dst :: .o dst :: (Aj ps (encE b) ++ w).map (λx=>.o x.1),af)]) K (kt b)) (hkb : Nat.blt k 4096 = true:=by rfl) :
  TrO Γ (⟨some dst,.call fa args,g,af⟩ :: r) nv ⟨e,o,n⟩ d acc K (m.bind kt) :=
 QP λb hb=>ha.elim λa ha=>Gm a hg hf hΓ hde.ok hr hk hc ha.2 (ha.1.trans hb) (h b hb) hkb
variable {b : B} {t : Option X}
theorem HC (hg : gOn e g = true) (hf : Ac e fa = some (.clo k caps)) (hΓ : Γ (k + 4096 * AR (Aq e args)) = some (Av ptr .val enc dec f encR encE)) [hde : Rn enc dec] (hr : (Ag ptr 0 (Aq e args ++ caps)).run ⟨e,o,n⟩ = (c,ds,w,ps))
  (hk : (Ag ptr 0 (Aq e args ++ caps)).rd ⟨e,o,n⟩ = rk) (hm : m = some b) (hc : c) (ha : ∃ a,f a = m /\ ds = enc a)
  (h : TrO Γ r (nv + 1) ⟨(dst,encR b) :: e,(Aj ps (encE b) ++ w) ++ o,n⟩ d (acc ++ [(gK g ++ (rdK fa ++ (Bw args ++ rk)),.e dst :: (Aj ps (encE b) ++ w).map (λx=>.o x.1),af)]) K t) (hkb : Nat.blt k 4096 = true:=by rfl) :
  TrO Γ (⟨some dst,.call fa args,g,af⟩ :: r) nv ⟨e,o,n⟩ d acc K t :=
 ha.elim λa ha=>Gp a hg hf hΓ hde.ok hr hk hc ha.2 (ha.1.trans hm) h hkb
theorem GF (hg : gOn e g = true) (hf : Ac e fa = some (.clo k caps)) (hΓ : Γ (k + 4096 * AR (Aq e args)) = some (Av ptr .val enc dec f encR encE)) [hde : Rn enc dec] (hr : (Ag ptr 0 (Aq e args ++ caps)).run ⟨e,o,n⟩ = (c,ds,w,ps))
  (hk : (Ag ptr 0 (Aq e args ++ caps)).rd ⟨e,o,n⟩ = rk) (hm : m = some b) (hc : c) (ha : ∃ a,f a = m /\ ds = enc a)
  (h : TrO Γ r (nv + 1) ⟨e,(Aj ps (encE b) ++ w) ++ o,n⟩ d (acc ++ [(gK g ++ (rdK fa ++ (Bw args ++ rk)),(Aj ps (encE b) ++ w).map (λx=>.o x.1),af)]) K t) (hkb : Nat.blt k 4096 = true:=by rfl) :
  TrO Γ (⟨none,.call fa args,g,af⟩ :: r) nv ⟨e,o,n⟩ d acc K t :=
 ha.elim λa ha=>FH a hg hf hΓ hde.ok hr hk hc ha.2 (ha.1.trans hm) h hkb
theorem FC (hg : gOn e g = true) (hf : Ac e fa = some (.clo k caps)) (hΓ : Γ (k + 4096 * AR (Aq e args)) = some (Av [] .ground enc dec f encR encE)) [hde : Rn enc dec] (hr : (Ag [] 0 (Aq e args ++ caps)).run ⟨e,o,n⟩ = (c,ds,w,ps))
  (hk : (Ag [] 0 (Aq e args ++ caps)).rd ⟨e,o,n⟩ = rk) (hm : m = some b) (hc : c) (ha : ∃ a,f a = m /\ ds = enc a) (hgr : isGround (encR b) = true)
  (h : TrO Γ r (nv + 1) ⟨(dst,encR b) :: e,o,n⟩ d (acc ++ [(gK g ++ (rdK fa ++ (Bw args ++ rk)),[.e dst],af)]) K t) (hkb : Nat.blt k 4096 = true:=by rfl) :
  TrO Γ (⟨some dst,.call fa args,g,af⟩ :: r) nv ⟨e,o,n⟩ d acc K t :=
 ha.elim λa ha=>EB a hg hf hΓ hde.ok hr hk hc ha.2 (ha.1.trans hm) hgr h hkb
theorem HB {l : List α} {en : α -> D} (hg : gOn e g = true) (hf : Ac e fa = some (.clo k caps)) (hΓ : Γ (k + 4096 * AR (Aq e args)) = some (Av ptr (.row s ty) enc dec f encR encE)) [hde : Rn enc dec] (hr : (Ag ptr 0 (Aq e args ++ caps)).run ⟨e,o,n⟩ = (c,ds,w,ps))
  (hk : (Ag ptr 0 (Aq e args ++ caps)).rd ⟨e,o,n⟩ = rk) (hm : m = some b) (hc : c) (ha : ∃ a,f a = m /\ ds = enc a) (hl : encR b = .sl (l.map en))
  (h : TrO Γ r (nv + 1) ⟨(dst,.osl dst nv 0 l.length) :: e,((dst,some (nv,⟨false,false,s,ty,l.map en⟩)) :: (Aj ps (encE b) ++ w)) ++ o,n⟩ d (acc ++ [(gK g ++ (rdK fa ++ (Bw args ++ rk)),.e dst :: .o dst :: (Aj ps (encE b) ++ w).map (λx=>.o x.1),af)]) K t) (hkb : Nat.blt k 4096 = true:=by rfl) :
  TrO Γ (⟨some dst,.call fa args,g,af⟩ :: r) nv ⟨e,o,n⟩ d acc K t :=
 ha.elim λa ha=>Gn a hg hf hΓ hde.ok hr hk hc ha.2 (ha.1.trans hm) hl h hkb
theorem HA (hg : gOn e g = true) (hf : Ac e fa = some (.clo k caps)) (hΓ : Γ (k + 4096 * AR (Aq e args)) = some (Av ptr (.ptr s ty) enc dec f encR encE)) [hde : Rn enc dec] (hr : (Ag ptr 0 (Aq e args ++ caps)).run ⟨e,o,n⟩ = (c,ds,w,ps))
  (hk : (Ag ptr 0 (Aq e args ++ caps)).rd ⟨e,o,n⟩ = rk) (hm : m = some b) (hc : c) (ha : ∃ a,f a = m /\ ds = enc a)
  (h : TrO Γ r (nv + 1) ⟨(dst,.optr dst nv 0 0) :: e,((dst,some (nv,⟨false,true,s,ty,[encR b]⟩)) :: (Aj ps (encE b) ++ w)) ++ o,n⟩ d (acc ++ [(gK g ++ (rdK fa ++ (Bw args ++ rk)),.e dst :: .o dst :: (Aj ps (encE b) ++ w).map (λx=>.o x.1),af)]) K t) (hkb : Nat.blt k 4096 = true:=by rfl) :
  TrO Γ (⟨some dst,.call fa args,g,af⟩ :: r) nv ⟨e,o,n⟩ d acc K t :=
 ha.elim λa ha=>Gm a hg hf hΓ hde.ok hr hk hc ha.2 (ha.1.trans hm) h hkb
end
def Io (o : List (Nat × Ae)) : List Nat -> List (Nat × Ae)
 | []=>[]
 | g :: r=>(g,(lkO o g).map λx=>(x.1,{ x.2 with fz:=true })) :: Io o r
theorem LP {o : List (Nat × Ae)} : ∀ {gs : List Nat},(gs.all λg=>match lkO o g with | some (_,p)=>!p.var | none=>false) = true -> FzB o (Io o gs)
 | [],_=>trivial
 | g :: r,h=>by
  simp only [List.all_cons,Bool.and_eq_true] at h
  refine ⟨?_,LP h.2⟩
  cases hg : lkO o g with
  | none=>rw [hg] at h; cases h.1
  | some x =>
   rw [hg] at h
   exact ⟨x.1,x.2,rfl,by simpa using h.1,rfl⟩
theorem OJ {e E : List (Nat × D)} {o O : List (Nat × Ae)} {n : Nat} (gs : List Nat) (hw : (gs.all λg=>match lkO o g with | some (_,p)=>!p.var | none=>false) = true) (hE : IZ e o n (Io o gs) E) (hO : Ja e o n (Io o gs) O) : Has ⟨e,o,n⟩ E O:=ML _ (LP hw) hE hO
section
variable {Γ : At} {R ι γ : Type} {K : R -> Ay -> S -> Prop} {τ : S} {t : Option R} {E : ι -> γ -> List (Nat × D)} {O : ι -> γ -> List (Nat × Ae)} {j : ι -> Option R}
theorem PC (h : ∃ s g,j s = t /\ Has τ (E s g) (O s g)) : TrX .normal (Jy E O j K) τ t:=by
 obtain ⟨s,g,rfl,h⟩:=h; exact OD g h
theorem IU {id : Nat} (h : ∃ s g,j s = t /\ Has τ (E s g) (O s g)) : TrX .normal (DI id E O j K) τ t:=by
 obtain ⟨s,g,rfl,h⟩:=h; exact Ib g h
theorem JT {id : Nat} (h : ∃ s g,j s = t /\ Has τ (E s g) (O s g)) : TrX (.exit id) (DI id E O j K) τ t:=by
 obtain ⟨s,g,rfl,h⟩:=h; exact IY g h
theorem OK {s : ι} (h : ∃ g,Has τ (E s g) (O s g)) : TrX .normal (HL E O K) τ (cnt s):=by
 obtain ⟨g,h⟩:=h; exact Nf g h
theorem exU {p : Unit -> Prop} (h : p ()) : ∃ s,p s:=⟨_,h⟩
theorem exP {α β : Type} {p : α × β -> Prop} (h : ∃ a b,p (a,b)) : ∃ s,p s:=h.elim λa h=>h.elim λb h=>⟨(a,b),h⟩
end
section
variable {A B : Type} {ptr : List (Nat × (Nat × Nat))} {kind : Kind} {enc : A -> List D} {dec : List D -> A} {f : A -> Option B} {encR : B -> D} {encE : B -> List D}
theorem fn2 {P : Program} {Γ : At} {k : Nat} {fn : Func} {dc : AV} {rs : List Bb} [hde : Rn enc dec] (np : Nat) (hΓ : ∀ k sp,Γ k = some sp -> Lo P (k % 4096) sp) (hf : P.funcs[k]? = some fn)
  (hT : ∀ a,Tr Γ dc (BJ ptr kind rs encR encE) ⟨DG ptr 0 (enc a),CO ptr 0 (enc a),262144⟩ (f a))
  (hc : (fn.body.bind (BF P fn.ntmps)) = some dc:=by conv=>lhs; cbv) (hr : fn.results.toList.mapM (Ei P) = some rs:=by conv=>lhs; cbv)
  (hname : (fn.name == "runtime.NumGoroutine") = false:=by decide) (hnp : np <= fn.ntmps:=by decide) (hlen : ∀ a,(enc a).length = np:=by exact λ_=>rfl) (hkeys : ∀ a,BR ptr 0 (enc a) = ptr.map Prod.fst:=by exact λ_=>rfl) (hptr : Fp ptr = true:=by decide)
  (hni : Cm kind = none:=by rfl) (hno : Ey kind = none:=by rfl) : Lo P k (Av ptr kind enc dec f encR encE) :=
 PD hΓ hf hname hc hr hnp hde.ok hlen hkeys hptr (λa=>Pp (hT a)) hni hno
end
structure Ct (n : Nat) : Prop
theorem Ct.dec {n : Nat} (_ : Ct (n + 1)) : Ct n:=⟨⟩
end Go.Dw
