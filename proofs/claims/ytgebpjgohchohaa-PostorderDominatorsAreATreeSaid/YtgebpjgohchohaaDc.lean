/-
  THE LAYER: symbolic semantics of compiled code, and programs on typed data.
-/
import Derived.Test.YtgebpjgohchohaaDb
import Derived.KernelRfl
import Derived.ProofKit
import Derived.OpenShut
import Derived.Deep.Strs
namespace Go.Dw
section
variable {N : Nat} {w0 : World} {F0 : Fz} {M : Nat -> Prop} {B0 : Bt} {P : Program}
theorem JV {σ : S} {d : D} (hd : ((AH d).run σ).1) : cells d = [d] /\ cells ((AH d).run σ).2.1 = [((AH d).run σ).2.1]:=by
 cases d <;> first | exact hd.elim | exact ⟨rfl,rfl⟩ | skip
 refine ⟨rfl,?_⟩
 simp only [AH,R.run] at hd ⊢
 split <;> simp_all <;> rfl
theorem Ea.get {σ : S} {ws : List (Nat × Ac)} : ∀ {cs cs' : List D},Ea σ ws cs cs' -> cs'.length = cs.length /\ ∀ (j : Nat) c',cs'[j]? = some c' -> ∃ c,cs[j]? = some c /\ Dg σ ws c c'
 | [],[],_=>⟨rfl,λj c' h=>by simp at h⟩
 | c :: r,c' :: r',h=>by
  obtain ⟨h1,h2⟩:=h
  obtain ⟨l,g⟩:=Ea.get h2
  refine ⟨by simp [l],λj x hx=>?_⟩
  cases j with
  | zero=>simp at hx; subst hx; exact ⟨c,by simp,h1⟩
  | succ j=>simp at hx; simpa using g j x hx
 | [],_ :: _,h=>h.elim
 | _ :: _,[],h=>h.elim
theorem Conv.cells {σ : S} {ws : List (Nat × Ac)} {z z' : D} (h : Conv σ ws z z') : (Dw.cells z').length = (Dw.cells z).length /\ ∀ (j : Nat) c',(Dw.cells z')[j]? = some c' -> ∃ c,(Dw.cells z)[j]? = some c /\ Dg σ ws c c':=by
 rcases h with (rfl | ⟨h1,rfl,h3⟩) | ⟨cs,cs',rfl,rfl,h⟩
 ·exact ⟨rfl,λj c' hc=>⟨c',hc,.inl rfl⟩⟩
 ·obtain ⟨e1,e2⟩:=JV h1
  rw [e1,e2]
  refine ⟨rfl,λj c' hc=>?_⟩
  rcases j with _ | j
  ·simp at hc; subst hc; exact ⟨z,by simp,.inr ⟨h1,rfl,h3⟩⟩
  ·simp at hc
 ·exact h.get
theorem Sim.Dx {σ τ : S} {ws : List (Nat × Ac)} {F : Fz} {β : Bt} {a : Act} {w : World} (h : Sim N w0 F0 M B0 σ F β a w) (hw : La ws σ τ) : ∃ F',Sim N w0 F0 M B0 τ F' β a w:=by
 obtain ⟨F',hsub,hS,_⟩:=h.freeze hw.fz
 refine ⟨F',?_⟩
 have hcel : ∀ c c' v,Dg σ ws c c' -> Cel F β c v -> Cel F' β c' v:=by
  rintro c c' v (rfl | ⟨h1,rfl,h3⟩) hv
  ·exact hv.mono hsub (At.refl _)
  ·exact Cel.Ag ((En h c hv h1).2 ws F' hw.fz h3 hsub hS)
 have hval : ∀ d d' x,Conv σ ws d d' -> Env F β d x -> Env F' β d' x:=by
  rintro d d' x ((rfl | ⟨h1,rfl,h3⟩) | ⟨cs,cs',rfl,rfl,hc⟩) hv
  ·exact hv.mono hsub (At.refl _)
  ·have hc : Cel F β d x:=by cases d <;> first | exact h1.elim | exact hv
   exact Env.Ag ((En h d hc h1).2 ws F' hw.fz h3 hsub hS)
  ·obtain ⟨vs,rfl,hl,h1,hc1⟩:=hv
   obtain ⟨l,g⟩:=hc.get
   refine ⟨vs,rfl,by rw [l,hl],h1,λj c' v hc' hv'=>?_⟩
   obtain ⟨c,k1,k2⟩:=g j c' hc'
   exact hcel c c' v k2 (hc1 j c v k1 hv')
 have hgo : ∀ g v o,τ.go g = some (v,o) -> (S.mk σ.e (ws ++ σ.o) σ.n).go g = some (v,o) \/ ∃ o' z z',(S.mk σ.e (ws ++ σ.o) σ.n).go g = some (v,o') /\ o'.var = true /\ o'.es = [z] /\ o = { o' with es:=[z'] } /\ Conv σ ws z z':=by
  intro g v o hg
  simp only [S.go] at hg
  cases hl : look τ.o g with
  | none=>rw [hl] at hg; cases hg
  | some y =>
   rw [hl] at hg
   simp only [Option.getD_some] at hg
   subst hg
   rcases hw.o _ (Ba hl) with h1 | ⟨v',o',z,z',h1,h2,h3,h4,h5⟩
   ·exact .inl h1
   ·simp only [Option.some.injEq,Prod.mk.injEq] at h4
    obtain ⟨rfl,rfl⟩:=h4
    exact .inr ⟨o',z,z',h1,h2,h3,rfl,h5⟩
 have hgo' : ∀ g v o,τ.go g = some (v,o) -> ∃ o',(S.mk σ.e (ws ++ σ.o) σ.n).go g = some (v,o') /\ o'.fz = o.fz /\ o'.var = o.var:=by
  intro g v o hg
  rcases hgo g v o hg with h1 | ⟨o',z,z',h1,h2,h3,rfl,h5⟩
  ·exact ⟨o,h1,rfl,rfl⟩
  ·exact ⟨o',h1,rfl,rfl⟩
 refine { nam:=hS.nam,size:=hS.size,defers:=hS.defers,env:=λt=>?_,own:=λg v o hg=>?_,dist:=λg g' v v' o o' L L' b hg hg' hf hf'=>?_,sep:=λg v o L b hg hf=>?_,Ab:=?_,frz:=hS.frz,fin:=hS.fin,step:=hS.step }
 ·simp only [S.ge]
  cases hl : look τ.e t with
  | none=>exact Env.top _
  | some d =>
   simp only [Option.getD_some]
   exact hval _ _ _ (hw.e _ (Ba hl)) (h.env t)
 ·rcases hgo g v o hg with h1 | ⟨o',z,z',h1,h2,h3,rfl,h5⟩
  ·exact hS.own g v o h1
  ·rcases hw.fz.go g with ⟨v2,o2,k1,k2,_,k4⟩ | ⟨_,k2⟩
   ·rw [k4] at h1
    cases h1
    simp only at h2
    rw [k2] at h2; cases h2
   ·rw [k2] at h1
    obtain ⟨L,hL,hz,hk⟩:=h.own g v o' h1
    refine ⟨L,hL,λhfz=>?_,λhfz=>?_⟩
    ·have:=(hz hfz).var
     rw [h2] at this; cases this
    ·obtain ⟨e1,e2,e3,e4,e5,e6⟩:=hk hfz
     obtain ⟨l,gg⟩:=h5.cells
     refine ⟨e1,e2,by simpa [h3] using e3,e4,λe he=>?_,?_⟩
     ·simp only [List.mem_singleton] at he
      subst he
      rw [l]; exact e5 z (by rw [h3]; simp)
     ·cases hb : L.b with
      | none=>rw [hb] at e6; exact e6
      | some b =>
       rw [hb] at e6
       obtain ⟨C,hC,hs,hx⟩:=e6
       refine ⟨C,hC,hs,λi j e d he hd=>?_⟩
       rcases i with _ | i
       ·simp only [List.getElem?_cons_zero,Option.some.injEq] at he
        subst he
        obtain ⟨c,q1,q2⟩:=gg j d hd
        obtain ⟨x,x1,x2,x3⟩:=hx 0 j z c (by rw [h3]; rfl) q1
        refine ⟨x,x1,x2,?_⟩
        rw [if_pos h2] at x3
        simp only [h2,if_true]
        exact hcel c d x q2 x3
       ·simp at he
 ·obtain ⟨o1,q1,q2,q3⟩:=hgo' g v o hg
  obtain ⟨o2,r1,r2,r3⟩:=hgo' g' v' o' hg'
  exact hS.dist g g' v v' o1 o2 L L' b q1 r1 (q2.trans hf) (r2.trans hf')
 ·obtain ⟨o1,q1,q2,q3⟩:=hgo' g v o hg
  have:=hS.sep g v o1 L b q1 (q2.trans hf)
  exact this
 ·obtain ⟨φ,hφ⟩:=hS.Ab
  refine ⟨φ,hφ.OV (Af.refl _) (At.refl _) (Nat.le_refl _) (λ_ _ _ _ _ _=>rfl) (λ_ _ _ _ _=>rfl) (λg v o hg=>?_) (λg v o hr hg hf=>.inl ?_) (λg i j b g' v' o' L' hb hg hf hL=>?_)⟩
  ·obtain ⟨L,hL,_⟩:=hS.own g v o hg
   exact ⟨L,hL⟩
  ·rcases hgo g v o hg with h1 | ⟨o',z,z',h1,h2,h3,rfl,h5⟩
   ·exact ⟨o,h1,hf,rfl,rfl,λi j e c he hj _=>⟨⟨e,he,hj⟩,λL b C x _ _ hC hx=>⟨C,hC,hx⟩⟩⟩
   ·refine ⟨o',h1,hf,rfl,rfl,λi j e c he hj hp=>⟨⟨z,?_⟩,λL b C x _ _ hC hx=>⟨C,hC,hx⟩⟩⟩
    rcases i with _ | i
    ·simp only [List.getElem?_cons_zero,Option.some.injEq] at he
     subst he
     obtain ⟨_,gg⟩:=h5.cells
     obtain ⟨c0,q1,q2⟩:=gg j c hj
     refine ⟨by rw [h3]; rfl,?_⟩
     rcases q2 with rfl | ⟨k1,k2,_⟩
     ·exact q1
     ·have hrr:=Gr (σ:=σ) k1
      cases c <;> first | (cases hp; done) | skip
      ·have:=hrr.1 _ _ _ k2; subst this; exact q1
      ·have:=hrr.2 _ _ _ k2; subst this; exact q1
    ·simp at he
  ·obtain ⟨o1,q1,q2,_⟩:=hgo' g' v' o' hg
   exact hφ.sep g i j b g' v' o1 L' hb q1 (q2.trans hf) hL
theorem Sim.chg {σ τ : S} {F : Fz} {β : Bt} {a : Act} {w : World} (h : Sim N w0 F0 M B0 σ F β a w) (hf : ∀ v,σ.n <= v -> β v = none) (hw : Chg σ τ) : ∃ F' β',Sim N w0 F0 M B0 τ F' β' a w /\ ∀ v,τ.n <= v -> β' v = none:=by
 induction hw generalizing F β with
 | refl=>exact ⟨F,β,h,hf⟩
 | Dx ws hw _ ih =>
  obtain ⟨F',h'⟩:=h.Dx hw
  exact ih h' λv hv=>hf v (Nat.le_trans hw.n hv)
 | rw hw _ ih =>
  obtain ⟨F',β',h',hf'⟩:=h.rw hf hw
  exact ih h' hf'
theorem CB.CT {w1 : World} {F1 : Fz} {M1 : Nat -> Prop} {B1 : Bt} {σ τ : S} {F' : Fz} {β' : Bt} {a : Act} {w : World} (h : CB w0 M w1 F1 M1 B1 σ w) (hS : Sim N w1 F1 M1 B1 τ F' β' a w) (hgo : ∀ g v o,τ.go g = some (v,o) -> o.fz = true -> σ.go g = some (v,o)) : CB w0 M w1 F1 M1 B1 τ w :=
 h.sub λg v o hg h0=>hgo g v o hg (by
  cases hf : o.fz with
  | true=>rfl
  | false=>exact (hS.GM hg hf h0).elim)
theorem AZ {σ : S} {e : List (Nat × D)} {n k : Nat} {x : Ac} {o' : List (Nat × Ac)} (hx : ∀ u q,x = some (u,q) -> q.fz = true -> σ.go k = some (u,q)) (hr : ∀ g u q,(S.mk e o' n).go g = some (u,q) -> q.fz = true -> σ.go g = some (u,q)) :
  ∀ g u q,(S.mk e ((k,x) :: o') n).go g = some (u,q) -> q.fz = true -> σ.go g = some (u,q):=by
 intro g u q hg hq
 simp only [S.go,look] at hg
 split at hg
 ·rename_i e; subst e
  simp only [Option.getD_some] at hg
  exact hx u q hg hq
 ·exact hr g u q hg hq
theorem Ca {v : Nat} {o : Own} {σ : S} {k : Nat} (h : o.fz = false) : ∀ u q,some (v,o) = some (u,q) -> q.fz = true -> σ.go k = some (u,q):=λu q e hq=>by cases e; rw [h] at hq; cases hq
theorem Gk {σ : S} {k : Nat} : ∀ u q,(none : Ac) = some (u,q) -> q.fz = true -> σ.go k = some (u,q):=λ_ _ e=>by cases e
theorem CN {σ : S} {e : List (Nat × D)} {n : Nat} : ∀ g u q,(S.mk e σ.o n).go g = some (u,q) -> q.fz = true -> σ.go g = some (u,q):=λ_ _ _ h _=>h
theorem AB.rw {σ τ : S} {F : Fz} {β : Bt} {a : Act} {w : World} (h : AB N w0 F0 M B0 σ F β a w) (hf : ∀ v,σ.n <= v -> β v = none) (hw : Rw σ τ) : ∃ F' β',AB N w0 F0 M B0 τ F' β' a w /\ ∀ v,τ.n <= v -> β' v = none:=by
 obtain ⟨w1,F1,M1,B1,hb,hS,hm⟩:=h
 obtain ⟨F',β',hS',hf'⟩:=hS.rw hf hw
 refine ⟨F',β',⟨w1,F1,M1,B1,hb,hS',?_⟩,hf'⟩
 cases hw with
 | close g v i off g' v' m og o' c hg hr hfz hi hc hh hg' hfz' hvar hmm hp hne=>exact hm.CT hS' (AZ (Ca hfz) (AZ Gk CN))
 | enrich g g2 v o es' hg hfz hn he =>
  refine hm.CT hS' (AZ (Ca hfz) (AZ ?_ CN))
  cases Nat.beq g g2
  ·exact Gk
  ·exact Ca hfz
 | frows g v o es' hg hr hfz he=>exact hm.CT hS' (AZ (Ca hfz) CN)
 | nilsl g v o hg hr hfz hvar=>exact hm.CT hS' (AZ (Ca hfz) CN)
 | fvar g v o z hg hfz hvar hz hc =>
  refine hm.CT hS' (AZ Gk λk u q hk hq=>?_)
  rw [Km] at hk
  cases hx : σ.go k with
  | none =>
   have : (S.mk (σ.e.map λp=>(p.1,frp g v z p.2)) σ.o σ.n).go k = none:=hx
   rw [this] at hk; cases hk
  | some p =>
   obtain ⟨u0,q0⟩:=p
   have : (S.mk (σ.e.map λp=>(p.1,frp g v z p.2)) σ.o σ.n).go k = some (u0,q0):=hx
   rw [this] at hk
   cases hk
   obtain ⟨L,_,hz',_⟩:=hS.own k _ q0 hx
   have:=(hz' hq).var
   cases q0
   simp only at this
   subst this
   rfl
 | nams rn hn =>
  constructor
  ·intro k u q hk hq
   obtain ⟨g,o,_,_,hgo,rfl⟩:=Ci hn hk
   obtain ⟨r1,b,r2,r3,r4,r5,r6,r7⟩:=hm.at_ g u o hgo hq
   obtain ⟨L,_,hz,_⟩:=hS.own g u o hgo
   have hv:=(hz r1).var
   exact ⟨r1,b,r2,r3,r4,r5,by rw [hv]; exact r6,r7⟩
  ·intro k k' u u' q q' b hk hk' hq hq' e1 e2
   obtain ⟨g,o,_,rfl,hgo,rfl⟩:=Ci hn hk
   obtain ⟨g',o',_,rfl,hgo',rfl⟩:=Ci hn hk'
   rw [hm.dis g g' u u' o o' b hgo hgo' hq hq' e1 e2]
 | opn g v i off t s ty es o hg hr hfz hvar hi hrow hne=>exact hm.CT hS' (AZ (Ca rfl) (AZ (Ca hfz) CN))
 | shrink gw vw i off g v k ow o hgw hrw hfzw hvarw hi hc hg hr hfz hvar hk hne=>exact hm.CT hS' (AZ (Ca hfzw) (AZ (Ca hfz) CN))
 | nilv g v i off t s ty o hg hr hfz hvar hi hc hs hne=>exact hm.CT hS' (AZ (Ca hfz) (AZ (Ca rfl) CN))
 | opnr g v i off t s ty es o hg hr hfz hvar hi hrow hne=>exact hm.CT hS' (AZ (Ca rfl) (AZ (Ca hfz) CN))
theorem AB.Dx {σ τ : S} {ws : List (Nat × Ac)} {F : Fz} {β : Bt} {a : Act} {w : World} (h : AB N w0 F0 M B0 σ F β a w) (hw : La ws σ τ) : ∃ F',AB N w0 F0 M B0 τ F' β a w:=by
 obtain ⟨w1,F1,M1,B1,hb,hS,hm⟩:=h
 obtain ⟨F',hS'⟩:=hS.Dx hw
 refine ⟨F',w1,F1,M1,B1,hb,hS',hm.sub λg v o hg h0=>?_⟩
 have hfz : o.fz = true:=by
  cases hf : o.fz with
  | true=>rfl
  | false=>exact (hS'.GM hg hf h0).elim
 have hl : look τ.o g = some (some (v,o)):=by
  unfold S.go at hg
  cases hx : look τ.o g with
  | none=>rw [hx] at hg; cases hg
  | some x=>rw [hx] at hg; simp only [Option.getD_some] at hg; rw [hg]
 have hz:=hw.o _ (Ba hl)
 simp only at hz
 have key : ∀ q,σ.gof ws g = some (v,q) -> q.s = 0 -> q.fz = true -> σ.go g = some (v,q):=by
  intro q hq hs hqf
  rcases hw.fz.go g with ⟨v2,o2,k1,k2,_,k4⟩ | ⟨_,k2⟩
  ·have : σ.gof ws g = some (v2,{ o2 with fz:=true }):=k4
   rw [this] at hq
   cases hq
   have:=(hm.at_ g _ o2 k1 hs).1
   rw [k1]
   cases o2
   simp only at this
   subst this
   rfl
  ·have : σ.gof ws g = σ.go g:=k2
   rw [<- this]; exact hq
 rcases hz with hz | ⟨v',q,z,z',h1,h2,h3,h4,_⟩
 ·exact key o hz h0 hfz
 ·cases h4
  have:=key q h1 h0 hfz
  obtain ⟨L,_,hz,_⟩:=hS.own g _ q this
  have hv:=(hz hfz).var
  rw [h2] at hv; cases hv
theorem AB.chg {σ τ : S} {F : Fz} {β : Bt} {a : Act} {w : World} (h : AB N w0 F0 M B0 σ F β a w) (hf : ∀ v,σ.n <= v -> β v = none) (hw : Chg σ τ) : ∃ F' β',AB N w0 F0 M B0 τ F' β' a w /\ ∀ v,τ.n <= v -> β' v = none:=by
 induction hw generalizing F β with
 | refl=>exact ⟨F,β,h,hf⟩
 | Dx ws hw _ ih =>
  obtain ⟨F',h'⟩:=h.Dx hw
  exact ih h' λv hv=>hf v (Nat.le_trans hw.n hv)
 | rw hw _ ih =>
  obtain ⟨F',β',h',hf'⟩:=h.rw hf hw
  exact ih h' hf'
theorem KC {σ : S} {F : Fz} {β : Bt} {a : Act} {w : World} (h : AB N w0 F0 M B0 σ F β a w) (hf : ∀ v,σ.n <= v -> β v = none) {ops : Array Oper} {i : Nat} {o : Oper} {o' : Aw} (hop : CH P N ops false i o = some o')
  {KS : S -> Prop} (hx : JT o' σ KS) (K : Act -> World -> Prop) (Q : Exit -> Act -> World -> Prop)
  (hK : ∀ a' w' F' β' τ,AB N w0 F0 M B0 τ F' β' a' w' -> (∀ v,τ.n <= v -> β' v = none) -> KS τ -> K a' w') :
  if Region.wanted o (yielded ops a.tmps) then o.wp P a w K Q else K (a.put o.dst undef) w:=by
 obtain ⟨hm,hgd,t,hdt,hk⟩:=hx
 unfold CH at hop
 simp only [Option.bind_eq_some_iff] at hop
 obtain ⟨dop,hdop,g,hg,he⟩:=hop
 split at he
 ·rename_i hcond
  simp only [Bool.and_eq_true] at hcond
  obtain ⟨hdst,_⟩:=hcond
  cases he
  simp only at hm hgd hdt
  subst hm
  have hwant : Region.wanted o (yielded ops a.tmps) = true:=by
   cases hgd' : o.guard with
   | none=>simp [Region.wanted,hgd']
   | some p =>
    exfalso
    obtain ⟨j,want⟩:=p
    rw [hgd'] at hg
    simp only [EW,Option.bind_eq_some_iff] at hg
    obtain ⟨oj,hoj,t',ht',hg⟩:=hg
    cases hg
    cases hgd
  rw [if_pos hwant]
  obtain ⟨β',hS,hfr⟩:=h.Nn hf (GG hdst t hdt)
  have hopm : ∃ ty,o.op = .makeMap ty none:=by
   cases ho : o.op with
   | makeMap ty r =>
    cases r
    ·exact ⟨ty,rfl⟩
    ·rw [ho] at hdop; cases hdop
   | lookup ty x ix b =>
    exfalso
    rw [ho] at hdop
    cases b <;> simp only [cOp,Option.bind_eq_bind,Option.bind_eq_some_iff] at hdop
    ·obtain ⟨_,_,_,_,_,_,he⟩:=hdop; cases he
    ·cases hdop
   | mapUpdate ty x ix y =>
    exfalso
    rw [ho] at hdop
    simp only [cOp,Option.bind_eq_bind,Option.bind_eq_some_iff] at hdop
    obtain ⟨_,_,_,_,_,_,_,_,he⟩:=hdop; cases he
   | call c =>
    exfalso
    rw [ho] at hdop
    simp only [cOp,GC] at hdop
    revert hdop
    (repeat' split) <;> simp [Option.bind_eq_some_iff]
   | _ =>
    exfalso
    have : Dl .mkm = false:=Hz hdop (by rw [ho]; exact λ_ _ e=>by cases e) (by rw [ho]; exact λ_ _ _ _ e=>by cases e) (by rw [ho]; exact λ_ _ _ _ e=>by cases e) (by rw [ho]; exact λ_ e=>by cases e)
    cases this
  obtain ⟨ty,hopm⟩:=hopm
  have hrun : (execOp a.eval o).run P w = .ok (.value (.map (some w.heap.size))) (w.alloc (.map #[] 0)):=by
   unfold execOp; rw [hopm]
   have : (Instr.makeMap ty none).run P w = .ok (.map (some w.heap.size)) (w.alloc (.map #[] 0)):=rfl
   simp [this]
  unfold Oper.wp
  rw [hrun]
  simp only [Oper.upon]
  rw [hdt]
  exact hK _ _ _ β' _ hS hfr hk
 ·cases he
def QR (N : Nat) (w0 : World) (F0 : Fz) (M : Nat -> Prop) (B0 : Bt) (Q : Au -> S -> Prop) : Exit -> Act -> World -> Prop:=λe a w =>
 ∃ τ F β,AB N w0 F0 M B0 τ F β a w /\ (∀ v,τ.n <= v -> β v = none) /\ match e with
  | .normal=>Q .normal τ
  | .exit id=>Q (.exit id) τ
  | .ret=>Q .ret τ
  | _=>False
theorem Ki {type : TypeId} {op : Op} {fa : Arg} {args : List Arg} (h : cOp P type op = some (.call fa args)) :
  ∃ cf cas cts,op = .call { callee:=.value cf,args:=cas,argTypes:=cts } /\ An cf = some fa /\ Dh cas.toList = some args:=by
 by_cases hop : ∃ c,op = .call c
 ·obtain ⟨c,rfl⟩:=hop
  simp only [cOp,GC] at h
  split at h
  ·rename_i f h1
   simp only [Option.bind_eq_bind,Option.bind_eq_some_iff] at h
   obtain ⟨x,hx,y,hy,he⟩:=h
   cases he
   cases c with
   | mk callee cargs argTypes =>
    simp only at h1
    subst h1
    exact ⟨f,cargs,argTypes,rfl,hx,hy⟩
  ·exfalso; revert h; split <;> simp [Option.bind_eq_some_iff]
  ·exfalso; revert h; split <;> simp [Option.bind_eq_some_iff]
  ·exfalso; revert h; split <;> simp [Option.bind_eq_some_iff]
  ·exfalso; revert h; (repeat' split) <;> simp [Option.bind_eq_some_iff]
  ·exfalso; revert h; simp [Option.bind_eq_some_iff]
  ·exfalso; revert h; simp [Option.bind_eq_some_iff]
  ·cases h
 ·exfalso
  unfold cOp at h
  split at h
  all_goals first
   | (exact hop ⟨_,rfl⟩)
   | (revert h; simp [Option.bind_eq_some_iff]; done)
   | (revert h; (repeat' split) <;> simp [Option.bind_eq_some_iff]; done)
   | (simp only [Option.bind_eq_bind,Option.bind_eq_some_iff] at h; obtain ⟨z,_,h⟩:=h; revert h; (repeat' split) <;> simp [Option.bind_eq_some_iff]; done)
   | (split at h <;> first | (simp only [Option.bind_eq_bind,Option.bind_eq_some_iff] at h; obtain ⟨z,_,h⟩:=h; revert h; (repeat' split) <;> simp [Option.bind_eq_some_iff]; done) | (cases h; done))
theorem II {Γ : Ar} (hΓ : ∀ k sp,Γ k = some sp -> BA P F0 (k % 4096) sp) {σ : S} {F : Fz} {β : Bt} {a : Act} {w : World} (h : AB N w0 F0 M B0 σ F β a w) (hf : ∀ v,σ.n <= v -> β v = none) {ops : Array Oper} {i : Nat} {o : Oper} {o' : Aw} (hop : CH P N ops false i o = some o')
  {KS : S -> Prop} (hx : He Γ o' σ KS) (K : Act -> World -> Prop) (Q : Exit -> Act -> World -> Prop)
  (hK : ∀ a' w' F' β' τ,AB N w0 F0 M B0 τ F' β' a' w' -> (∀ v,τ.n <= v -> β' v = none) -> KS τ -> K a' w') :
  if Region.wanted o (yielded ops a.tmps) then o.wp P a w K Q else K (a.put o.dst undef) w:=by
 obtain ⟨hon,fa,args,f,caps,sp,φ,K0,hK0,hcall,hclo,hblt,hG,hopn,hall,hφ⟩:=hx
 unfold CH at hop
 simp only [Option.bind_eq_some_iff] at hop
 obtain ⟨dop,hdop,g,hg,he⟩:=hop
 split at he
 ·rename_i hcond
  simp only [Bool.and_eq_true] at hcond
  obtain ⟨hdst,_⟩:=hcond
  cases he
  simp only at hcall hφ hon
  subst hcall
  have hwant : Region.wanted o (yielded ops a.tmps) = true:=by
   cases hgd : o.guard with
   | none=>simp [Region.wanted,hgd]
   | some p =>
    obtain ⟨j,want⟩:=p
    rw [hgd] at hg
    simp only [EW,Option.bind_eq_some_iff] at hg
    obtain ⟨oj,hoj,t,ht,hg⟩:=hg
    cases hg
    obtain ⟨h1,h2⟩:=hon
    have hy : yielded ops a.tmps j = match a.tmps[t]? with | some (.bool b)=>some b | _=>none:=by
     simp only [yielded,hoj,Option.bind_some,ht]
     rcases a.tmps[t]? with _ | v
     ·rfl
     ·cases v <;> rfl
    have hget : ∀ b : Bool,a.tmps.getD t undef = .bool b -> a.tmps[t]? = some (.bool b):=by
     intro b hb
     rw [Array.getD_eq_getD_getElem?] at hb
     cases hh : a.tmps[t]? with
     | none=>rw [hh] at hb; cases hb
     | some v=>rw [hh] at hb; simp only [Option.getD_some] at hb; rw [hb]
    have henv:=h.sim.env t
    generalize σ.ge t = gd at *
    have fin : ∀ b : Bool,a.tmps.getD t undef = .bool b -> (b == want) = true -> Region.wanted o (yielded ops a.tmps) = true:=by
     intro b hb hbw
     simp only [Region.wanted,hgd,hy,hget b hb]
     simpa using hbw
    cases gd with
    | bool b=>exact fin b (BK (β:=β) (F:=F) henv) h2
    | when p d =>
     cases d with
     | bool b =>
      simp only [guardOf,Bool.and_eq_true] at h2
      exact fin b (BK (β:=β) (F:=F) (henv.1 h2.1)) h2.2
     | _=>exact h1.elim
    | _=>exact h1.elim
  rw [if_pos hwant]
  obtain ⟨cf,cas,cts,hoo,hfa,hys⟩:=Ki hdop
  have hfe:=CD h.sim hfa
  rw [hclo] at hfe
  obtain ⟨vs,hvs,hvl,hvr⟩:=hfe
  obtain ⟨l,r⟩:=Eb h.sim hys
  have hsp:=hΓ _ sp hG
  have hkm : (f + 4096 * AN ((AO args).run σ)) % 4096 = f:=by
   have : f < 4096:=by simpa [Nat.blt_eq] using hblt
   omega
  rw [hkm] at hsp
  obtain ⟨fn,hfn,hnm,hbd⟩:=hsp.1
  have hrun : (execOp a.eval o).run P w = .ok (.enter f (cas.toList.map a.eval ++ vs).toArray) w:=by
   unfold execOp
   simp only [hoo]
   have e1 : (cas.map a.eval ++ vs.toArray) = (cas.toList.map a.eval ++ vs).toArray:=by
    apply Array.ext'
    simp
   have hnm' : ¬ fn.name = "runtime.NumGoroutine":=by simpa using hnm
   have hbd' : ¬ fn.body = none:=by intro e; rw [e] at hbd; cases hbd
   rw [<- e1]
   simp [resolve,Deferred.ofValue,hvs,invoke,callFunc,hfn,hnm',hbd']
  have hvals : ∀ (q : Nat) d x,((AO args).run σ ++ caps)[q]? = some d -> (cas.toList.map a.eval ++ vs)[q]? = some x -> Val F β d x:=by
   intro q d x hq hx
   by_cases hlt : q < cas.toList.length
   ·rw [List.getElem?_append_left (by rw [l]; exact hlt)] at hq
    rw [List.getElem?_append_left (by simpa using hlt)] at hx
    have henv:=r q d x hq hx
    have hnw:=List.all_eq_true.1 hall d (List.mem_of_getElem? hq)
    cases d <;> first | exact henv | cases hnw
   ·rw [List.getElem?_append_right (by rw [l]; omega),l] at hq
    rw [List.getElem?_append_right (by simp at hlt ⊢; omega)] at hx
    simp only [List.length_map] at hx
    exact Val.Aq (Cel.CF (hvr _ d x hq hx))
  have hcall:=hsp.2.2.2 φ hopn F0 (Af.refl _) N w0 M B0 σ F β a w ((AO args).run σ ++ caps) (cas.toList.map a.eval ++ vs) _ h hf (by simp [l,hvl]) hvals hφ
  unfold Oper.wp
  rw [hrun]
  simp only [Oper.upon]
  refine hcall.mono ?_
  rintro e w' ⟨v,d,o',n',F',β',rfl,hS,hfr,hv,hk⟩
  have hd : ∀ t,o.dst = some t -> t < N:=by
   intro t ht
   simp only [CI,ht,Bool.and_eq_true,decide_eq_true_eq] at hdst
   exact hdst.1
  have hS':=hS.put (c:=True) (dst:=o.dst) (d:=d) (v:=v) hd (Env.Ak hv) (w':=w') rfl rfl rfl rfl
  exact hK _ _ F' β' _ hS' hfr (hK0 _ hk)
 ·cases he
theorem Dn {Γ : Ar} (hΓ : ∀ k sp,Γ k = some sp -> BA P F0 (k % 4096) sp) {ops : Array Oper} {Q : Exit -> Act -> World -> Prop} {KD : S -> Prop} : ∀ (l : List Oper) (i : Nat) (ds : List Aw),Cg P N ops false i l = some ds ->
  ∀ (σ : S) (F : Fz) (β : Bt) (a : Act) (w : World) (nv : Nat),AB N w0 F0 M B0 σ F β a w -> (∀ v,nv <= v -> β v = none) -> wpS Γ ds nv σ KD ->
  (∀ τ F' β' a' w',AB N w0 F0 M B0 τ F' β' a' w' -> (∀ v,τ.n <= v -> β' v = none) -> KD τ -> Q .normal a' w') -> wpList P ops Q l a w
 | [],i,ds,hds,σ,F,β,a,w,nv,h,hf,hw,hQ=>by
  simp only [Cg,Option.some.injEq] at hds
  subst hds
  exact wpList_nil (hQ { σ with n:=nv } F β a w (h.congr λk=>by cases k <;> rfl) hf hw)
 | o :: l,i,ds,hds,σ,F,β,a,w,nv,h,hf,hw,hQ=>by
  simp only [Cg,Option.bind_eq_bind,Option.bind_eq_some_iff] at hds
  obtain ⟨o',ho',r,hr,he⟩:=hds
  cases he
  refine wpList_step λK hK=>?_
  rcases hw with ⟨hc,hw'⟩ | ⟨σ1,hchg1,hx⟩ | ⟨σ1,hchg1,hx⟩
  ·refine DW hΓ h ho' (hf nv (Nat.le_refl _)) hc K Q λa' w' F' β' hS hb1 hb2=>hK a' w' ?_
   refine Dn hΓ l (i + 1) r hr _ F' β' a' w' (nv + 1) hS (λv hv=>?_) hw' hQ
   rw [hb2 v (by omega)]
   exact hf v (by omega)
  ·obtain ⟨F1,β1,h1,hf1⟩:=AB.chg (σ:={ σ with n:=nv }) (h.congr λk=>by cases k <;> rfl) hf hchg1
   refine II hΓ h1 hf1 ho' hx K Q λa' w' F' β' τ hS hfr hk=>hK a' w' ?_
   obtain ⟨τ2,hchg,hk⟩:=hk
   obtain ⟨F2,β2,hS2,hfr2⟩:=hS.chg hfr hchg
   exact Dn hΓ l (i + 1) r hr τ2 F2 β2 a' w' τ2.n hS2 hfr2 hk hQ
  ·obtain ⟨F1,β1,h1,hf1⟩:=AB.chg (σ:={ σ with n:=nv }) (h.congr λk=>by cases k <;> rfl) hf hchg1
   refine KC h1 hf1 ho' hx K Q λa' w' F' β' τ hS hfr hk=>hK a' w' ?_
   obtain ⟨τ2,hchg,hk⟩:=hk
   obtain ⟨F2,β2,hS2,hfr2⟩:=hS.chg hfr hchg
   exact Dn hΓ l (i + 1) r hr τ2 F2 β2 a' w' τ2.n hS2 hfr2 hk hQ
theorem BM {Γ : Ar} (hΓ : ∀ k sp,Γ k = some sp -> BA P F0 (k % 4096) sp) : ∀ (c : Code) (d : Pf),PD P N c = some d -> ∀ (Q : Au -> S -> Prop) (σ : S) (F : Fz) (β : Bt) (a : Act) (w : World),
  AB N w0 F0 M B0 σ F β a w -> (∀ v,σ.n <= v -> β v = none) -> DWp Γ d Q σ -> c.wp P (QR N w0 F0 M B0 Q) a w
 | .skip,d,hd,Q,σ,F,β,a,w,h,hf,hw=>by
  simp only [PD,Option.some.injEq] at hd
  subst hd
  exact wp_skip ⟨σ,F,β,h,hf,hw⟩
 | .ret,d,hd,Q,σ,F,β,a,w,h,hf,hw=>by
  simp only [PD,Option.some.injEq] at hd
  subst hd
  exact wp_ret ⟨σ,F,β,h,hf,hw⟩
 | .exit id,d,hd,Q,σ,F,β,a,w,h,hf,hw=>by
  simp only [PD,Option.some.injEq] at hd
  subst hd
  exact wp_exit ⟨σ,F,β,h,hf,hw⟩
 | .region id ops draw,d,hd,Q,σ,F,β,a,w,h,hf,hw=>by
  simp only [PD] at hd
  split at hd
  ·cases hd
  ·rename_i hdr
   simp only [Option.bind_eq_bind,Option.bind_eq_some_iff] at hd
   obtain ⟨ds,hds,he⟩:=hd
   cases he
   obtain ⟨σ0,hchg0,hw⟩:=hw
   obtain ⟨F,β,h,hf⟩:=h.chg hf hchg0
   cases draw with
   | false =>
    rw [if_neg (by simp)] at hw
    refine wp_region_list ?_
    exact Dn (w0:=w0) (F0:=F0) (M:=M) (B0:=B0) hΓ ops.toList 0 ds hds σ0 F β a w σ0.n h hf hw (λτ F' β' a' w' hS hf' hk=>⟨τ,F',β',hS,hf',hk⟩)
   | true =>
    rw [if_pos rfl] at hw
    obtain ⟨hw1,hw2⟩:=hw
    have hm : P.follows .mixedOrders = true:=by simpa using hdr
    have h' : AB N w0 F0 M B0 σ0 F β a { w with drawn:=w.drawn + 1 }:=by
     have:=h.put (c:=True) (dst:=none) (d:=.top) (v:=undef) (λt e=>by cases e) (Env.top _) (w':={ w with drawn:=w.drawn + 1 }) rfl rfl rfl rfl
     exact this
    refine wp_region_any hm ?_
    have hid : ∀ (us : List Out) (i : Nat),Be (λi=>(Array.replicate ops.size false).getD i true) us i σ = Be (λi=>(Array.replicate ops.size false).getD i true) us i σ:=λ_ _=>rfl
    obtain ⟨hlen,_⟩:=Et ops.toList 0 ds hds
    simp only [Array.length_toList] at hlen
    have hol:=(DS Γ ds σ0.n σ0 0 (λ_=>true) (λ_=>rfl)).1
    refine Kg (w0:=w0) (F0:=F0) (M:=M) (B0:=B0) hΓ hds hw1 hw2 (λτ F' β' a' w' hS hf' hk=>?_) ops.size (Array.replicate ops.size false) F β a _ (by simp) ?_ ?_ ?_ ?_
    ·obtain ⟨τ',hk1,hk2⟩:=hk
     exact ⟨{ τ' with n:=σ0.n + ds.length },F',β',hS.congr (λk=>(by cases k <;> rfl : ({ τ' with n:=σ0.n + ds.length } : S).get k = τ'.get k).trans (hk2 k)),hf',hk1⟩
    ·rw [List.countP_eq_length.2]
     ·simp
     ·intro i hi
      simp only [List.mem_range] at hi
      simp [hi]
    ·intro j o ho hl
     have hj : j < ops.size:=(Array.getElem?_eq_some_iff.1 ho).1
     simp [hj] at hl
    ·intro v hv hb
     exact absurd (hf v hv) hb
    ·have hnone : ∀ (us : List Out) (i : Nat) (τ : S),i + us.length <= ops.size -> Be (λi=>(Array.replicate ops.size false).getD i true) us i τ = τ:=by
      intro us
      induction us with
      | nil=>intro i τ _; rfl
      | cons u us ih =>
       intro i τ hle
       simp only [List.length_cons] at hle
       have hi : i < ops.size:=by omega
       simp only [Be]
       have hne : ¬ ((Array.replicate ops.size false).getD i true = true):=by simp [hi]
       rw [if_neg hne]
       exact ih (i + 1) τ (by omega)
     rw [hnone _ 0 σ0 (by rw [hol,hlen]; omega)]
     exact h'
 | .seq x y,d,hd,Q,σ,F,β,a,w,h,hf,hw=>by
  simp only [PD,Option.bind_eq_bind,Option.bind_eq_some_iff] at hd
  obtain ⟨dx,hx,dy,hy,he⟩:=hd
  cases he
  refine wp_seq (wp_mono (BM hΓ x dx hx _ σ F β a w h hf hw) λe a' w' hq=>?_)
  obtain ⟨τ,F',β',h1,h2,h3⟩:=hq
  cases e with
  | normal =>
   obtain ⟨τ',hwk,h3⟩:=h3
   obtain ⟨F2,β2,h1',h2'⟩:=h1.chg h2 hwk
   exact BM hΓ y dy hy Q τ' F2 β2 a' w' h1' h2' h3
  | exit id=>exact ⟨τ,F',β',h1,h2,h3⟩
  | ret=>exact ⟨τ,F',β',h1,h2,h3⟩
  | goto l=>exact h3.elim
  | panic ch=>exact h3.elim
  | outgrown=>exact h3.elim
 | .cond c x y,d,hd,Q,σ,F,β,a,w,h,hf,hw=>by
  simp only [PD,Option.bind_eq_bind,Option.bind_eq_some_iff] at hd
  obtain ⟨dc,hc,dx,hx,dy,hy,he⟩:=hd
  cases he
  have henv:=CD h.sim hc
  have hev : (raw dc).run σ = Di σ dc:=by cases dc <;> rfl
  rw [hev] at henv
  simp only [DWp] at hw
  generalize Di σ dc = dv at *
  cases dv <;> try exact hw.elim
  case bool t =>
   have e1:=BK (β:=β) (F:=F) henv
   exact wp_cond_split e1 (λht=>BM hΓ x dx hx Q σ F β a w h hf (hw.1 ht)) (λht=>BM hΓ y dy hy Q σ F β a w h hf (hw.2 ht))
 | .block id b,d,hd,Q,σ,F,β,a,w,h,hf,hw=>by
  simp only [PD,Option.bind_eq_bind,Option.bind_eq_some_iff] at hd
  obtain ⟨db,hb,he⟩:=hd
  cases he
  refine wp_block (wp_mono (BM hΓ b db hb _ σ F β a w h hf hw) λe a' w' hq=>?_)
  obtain ⟨τ,F',β',h1,h2,h3⟩:=hq
  cases e with
  | normal=>exact ⟨τ,F',β',h1,h2,h3⟩
  | exit id' =>
   simp only [Au.inBlock] at h3
   simp only [Exit.inBlock]
   split
   ·rename_i e
    rw [if_pos e] at h3
    obtain ⟨τ',hwk,h3⟩:=h3
    obtain ⟨F2,β2,h1',h2'⟩:=h1.chg h2 hwk
    exact ⟨τ',F2,β2,h1',h2',h3⟩
   ·rename_i e; rw [if_neg e] at h3; exact ⟨τ,F',β',h1,h2,h3⟩
  | ret=>exact ⟨τ,F',β',h1,h2,h3⟩
  | goto l=>exact h3.elim
  | panic ch=>exact h3.elim
  | outgrown=>exact h3.elim
 | .loop b,d,hd,Q,σ,F,β,a,w,h,hf,hw=>by
  simp only [PD,Option.bind_eq_bind,Option.bind_eq_some_iff] at hd
  obtain ⟨db,hb,he⟩:=hd
  cases he
  obtain ⟨ι,St,μ,i₀,hwk,hround⟩:=hw
  obtain ⟨F2,β2,hS2,hf2⟩:=h.chg hf hwk
  refine wp_loop_ghost (λk a w=>∃ i F β,μ i = k /\ AB N w0 F0 M B0 (St i) F β a w /\ ∀ v,(St i).n <= v -> β v = none) (μ i₀) ⟨i₀,F2,β2,rfl,hS2,hf2⟩ ?_
  rintro k a w ⟨i,F,β,rfl,h,hf⟩
  refine wp_mono (BM hΓ b db hb _ (St i) F β a w h hf (hround i)) λe a' w' hq=>?_
  obtain ⟨τ,F',β',h1,h2,h3⟩:=hq
  cases e with
  | normal =>
   obtain ⟨i',hlt,hwk'⟩:=h3
   obtain ⟨F3,β3,hS3,hf3⟩:=h1.chg h2 hwk'
   exact ⟨μ i',hlt,i',F3,β3,rfl,hS3,hf3⟩
  | exit id=>exact ⟨τ,F',β',h1,h2,h3⟩
  | ret=>exact ⟨τ,F',β',h1,h2,h3⟩
  | goto l=>exact h3.elim
  | panic ch=>exact h3.elim
  | outgrown=>exact h3.elim
 | .rangeFunc ..,d,hd,_,_,_,_,_,_,_,_,_=>by cases hd
 | .scope ..,d,hd,_,_,_,_,_,_,_,_,_=>by cases hd
 | .label ..,d,hd,_,_,_,_,_,_,_,_,_=>by cases hd
 | .goto ..,d,hd,_,_,_,_,_,_,_,_,_=>by cases hd
 | .refuse ..,d,hd,_,_,_,_,_,_,_,_,_=>by cases hd
end
end Go.Dw
namespace Go.Dw
inductive AS where
 | t (n : Nat)
 | c (a n : Nat) (agg : Bool)
def RJ (P : Program) : ResultVar -> Option AS
 | .tmp t=>some (.t t)
 | .cell a ty=>if Cl P ty then some (.c a (P.cellsOf ty) true) else if (P.underlying ty).isSome then some (.c a 1 false) else none
def OO : AS -> R (Prop × D)
 | .t n=>do
  let (p,d) <- rdA (.t n)
  pure (p = true,d)
 | .c a n agg=>do
  let (p,d) <- rdA (.t a)
  let (c,e,off) <- OT d
  pure (p = true /\ c /\ off + n <= (cells e).length,OR (cells e) off n agg)
def DY (r : AS) : R (Prop × D × List (Nat × Ac)):=do
 let (c,d) <- OO r
 let (c',d',w) <- res d
 pure (c /\ c',d',w)
def Cf (s ty : Nat) (d : D) : R (Prop × D × List (Nat × Ac) × Nat) :=
 match d with
 | .optr g v i off=>.go g fun
  | some (v',o)=>do
   let (c,e',w) <- res (o.es.getD 0 .top)
   pure ((v = v' /\ i = 0 /\ off = 0 /\ o.fz = false /\ o.var = true /\ o.es.length = 1 /\ o.s = s /\ o.ty = ty) /\ c,e',w,g)
  | none=>.ret (False,.top,[],0)
 | _=>.ret (False,.top,[],0)
def Ho (s ty : Nat) (d : D) : R (Prop × D × List (Nat × Ac)) :=
 match d with
 | .optr g v i off=>.go g fun
  | some (v',o)=>do
   let (c,e',w) <- pas (Ab g) (o.es.getD 0 .top)
   pure ((v = v' /\ i = 0 /\ off = 0 /\ o.fz = false /\ o.var = true /\ o.es.length = 1 /\ o.s = s /\ o.ty = ty) /\ c,e',w)
  | none=>.ret (False,.top,[])
 | _=>.ret (False,.top,[])
def DX (r : Bool) (s ty : Nat) (d : D) : R (Prop × D × Nat) :=
 match d with
 | .osl g v i n=>.go g fun
  | some (v',o)=>.ret (v = v' /\ i = 0 /\ n <= o.es.length /\ o.fz = false /\ o.var = false /\ o.s = s /\ o.ty = ty /\ Ab g = r /\ (r = true -> ∀ e ∈ o.es,∀ c ∈ cells e,∀ nm u m,c ≠ .hole nm u m),.sl (o.es.take n),g)
  | none=>.ret (False,.top,0)
 | _=>.ret (False,.top,0)
def AG : List AS -> R (Prop × List D × List (Nat × Ac))
 | []=>.ret (True,[],[])
 | r :: rs=>do
  let (c,d,w) <- DY r
  let (c',ds,w') <- AG rs
  pure (c /\ c',d :: ds,w ++ w')
def BG : List (Nat × (Nat × Nat)) -> R (Prop × List D × List (Nat × Ac))
 | []=>.ret (True,[],[])
 | (j,(s,ty)) :: r=>do
  let (c,e,w) <- Ho s ty (.optr (8192 + j) j 0 0)
  let (c',es,w') <- BG r
  pure (c /\ c',e :: es,w ++ w')
def Ee (ptr : List (Nat × (Nat × Nat))) : Nat -> List D -> List Nat
 | _,[]=>[]
 | j,_ :: r=>(match look ptr j with | some _=>[j] | none=>[]) ++ Ee ptr (j + 1) r
def BE (ptr : List (Nat × (Nat × Nat))) : Nat -> List D -> List Nat
 | _,[]=>[]
 | j,d :: r=>(match look ptr j with | some _=>[j] | none=>match d with | .clo _ caps=>Ee ptr (64 * (j + 1)) caps | _=>[]) ++ BE ptr (j + 1) r
def DA (ptr : List (Nat × (Nat × Nat))) : Nat -> List D -> List D
 | _,[]=>[]
 | j,d :: r=>(match look ptr j with | some _=>.optr (8192 + j) j 0 0 | none=>d) :: DA ptr (j + 1) r
def FF (ptr : List (Nat × (Nat × Nat))) (j : Nat) (d : D) : D :=
 match look ptr j with
 | some _=>.optr (8192 + j) j 0 0
 | none=>match d with | .clo f caps=>.clo f (DA ptr (64 * (j + 1)) caps) | d=>d
def Dk (ptr : List (Nat × (Nat × Nat))) : Nat -> List D -> List (Nat × D)
 | _,[]=>[]
 | j,d :: r=>(j,FF ptr j d) :: Dk ptr (j + 1) r
def Gf (ptr : List (Nat × (Nat × Nat))) : Nat -> List D -> List (Nat × Ac)
 | _,[]=>[]
 | j,d :: r=>(match look ptr j with | some (s,ty)=>[(8192 + j,some (j,⟨false,true,s,ty,[d]⟩))] | none=>[]) ++ Gf ptr (j + 1) r
def Cv (ptr : List (Nat × (Nat × Nat))) : Nat -> List D -> List (Nat × Ac)
 | _,[]=>[]
 | j,d :: r=>(match look ptr j with | some (s,ty)=>[(8192 + j,some (j,⟨false,true,s,ty,[d]⟩))] | none=>match d with | .clo _ caps=>Gf ptr (64 * (j + 1)) caps | _=>[]) ++ Cv ptr (j + 1) r
def DB (sp : Spec) (ds : List D) : S:=⟨Dk sp.ptr 0 ds,Cv sp.ptr 0 ds,262144⟩
def EA (ptr : List (Nat × (Nat × Nat))) : Bool:=(ptr.map Prod.fst).all (λk=>Nat.blt k 262144) && decide (ptr.map Prod.fst).Nodup
def Cj (sp : Spec) (rs : List AS) (ds : List D) (τ : S) : Prop :=
 ((BG sp.ptr).run τ).1 /\ ((BG sp.ptr).run τ).2.1 = sp.eff ds /\
 match sp.kind,rs with
 | .val,[r] | .ground,[r]=>((DY r).run τ).1 /\ ((DY r).run τ).2.1 = sp.res ds
 | .val,rs | .ground,rs=>((AG rs).run τ).1 /\ .tup ((AG rs).run τ).2.1 = sp.res ds /\ rs.length ≠ 1
 | .row s ty,[r]=>((OO r).run τ).1 /\ ((DX false s ty ((OO r).run τ).2).run τ).1 /\ ((DX false s ty ((OO r).run τ).2).run τ).2.1 = sp.res ds /\ ((BG sp.ptr).run τ).2.2.all (λx=>x.1 != ((DX false s ty ((OO r).run τ).2).run τ).2.2) = true
 | .mat s ty,[r]=>((OO r).run τ).1 /\ ((DX true s ty ((OO r).run τ).2).run τ).1 /\ ((DX true s ty ((OO r).run τ).2).run τ).2.1 = sp.res ds /\ sp.ptr = []
 | .ptr s ty,[r]=>((OO r).run τ).1 /\ ((Cf s ty ((OO r).run τ).2).run τ).1 /\ ((Cf s ty ((OO r).run τ).2).run τ).2.1 = sp.res ds /\ Ab ((Cf s ty ((OO r).run τ).2).run τ).2.2.2 = false
 | .tupPtr q s ty,rs=>q < rs.length /\ rs.length ≠ 1 /\ sp.ptr = [] /\ ((AG (rs.take q)).run τ).1 /\ ((AG (rs.drop (q + 1))).run τ).1 /\ ((OO (rs.getD q (.t 0))).run τ).1 /\ ((Cf s ty ((OO (rs.getD q (.t 0))).run τ).2).run τ).1 /\
   .tup (((AG (rs.take q)).run τ).2.1 ++ ((Cf s ty ((OO (rs.getD q (.t 0))).run τ).2).run τ).2.1 :: ((AG (rs.drop (q + 1))).run τ).2.1) = sp.res ds
 | _,_=>False
def LF (Γ : Ar) (sp : Spec) (np : Nat) (rs : List AS) (c : Pf) : Prop :=
 ∀ ds,sp.pre ds -> ds.length = np /\ BE sp.ptr 0 ds = sp.ptr.map Prod.fst -> Wk (DWp Γ c (λe τ=>match e with | .exit _=>False | _=>Wk (Cj sp rs ds) τ)) (DB sp ds)
section
variable {N : Nat} {w0 : World} {F0 : Fz} {M : Nat -> Prop} {B0 : Bt} {P : Program} {σ : S} {F : Fz} {β : Bt} {a : Act} {w : World}
theorem MH (h : Sim N w0 F0 M B0 σ F β a w) {rv : ResultVar} {r : AS} (hr : RJ P rv = some r) (hc : ((OO r).run σ).1) :
  ∃ v,(match rv with | .tmp t=>(pure (a.tmps.getD t undef) : Sem Value) | .cell c t=>(do loadVar t (<- asAddr (a.tmps.getD c undef)) : Sem Value)).run P w = .ok v w /\ Val F β ((OO r).run σ).2 v:=by
 cases rv with
 | tmp t =>
  simp only [RJ,Option.some.injEq] at hr
  subst hr
  simp only [OO,R.run_bind,R.run_pure] at hc ⊢
  refine ⟨_,rfl,?_⟩
  have:=(h.env t).strip (by simpa [rdA,raw] using hc)
  simpa [rdA,raw] using this
 | cell c ty =>
  simp only [RJ] at hr
  have key : ∀ (n : Nat) (agg : Bool),r = .c c n agg -> Cl P ty = agg -> (P.underlying ty).isSome = true -> (agg = true -> P.info? ty ≠ none /\ n = P.cellsOf ty) -> (agg = false -> n = 1) -> ∃ v,(do loadVar ty (<- asAddr (a.tmps.getD c undef)) : Sem Value).run P w = .ok v w /\ Val F β ((OO r).run σ).2 v:=by
   rintro n agg rfl h1 h2 h3 h4
   simp only [OO,R.run_bind,R.run_pure,rdA,raw,R.run] at hc ⊢
   obtain ⟨q1,q2,q3⟩:=hc
   have hv:=(h.env c).strip q1
   obtain ⟨v,r1,r2⟩:=Jb (P:=P) h hv q2 ty n agg h1 h2 h3 h4 q3
   obtain ⟨b,o,hx,_⟩:=HT h hv q2
   refine ⟨v,?_,r2⟩
   rw [hx] at r1 ⊢
   simpa [Instr.loadAt,Instr.sureAddr,asAddr] using r1
  split at hr
  ·rename_i hagg
   cases hr
   have hu:=DN hagg
   obtain ⟨td,htd⟩:=Option.isSome_iff_exists.1 hu
   exact key _ _ rfl hagg hu (λ_=>⟨Dv htd,rfl⟩) (λe=>by cases e)
  ·rename_i hagg
   split at hr
   ·rename_i hu
    cases hr
    exact key _ _ rfl (by simpa using hagg) hu (λe=>by cases e) (λ_=>rfl)
   ·cases hr
end
end Go.Dw
namespace Go.Dw
section
variable {N : Nat} {w0 : World} {F0 : Fz} {M : Nat -> Prop} {B0 : Bt} {P : Program} {σ : S} {F : Fz} {β : Bt} {a : Act} {w : World}
def GR (a : Act) : ResultVar -> Sem Value
 | .tmp t=>pure (a.tmps.getD t undef)
 | .cell c t=>do loadVar t (<- asAddr (a.tmps.getD c undef))
theorem Lq (h : Sim N w0 F0 M B0 σ F β a w) {rv : ResultVar} {r : AS} (hr : RJ P rv = some r) (hc : ((OO r).run σ).1) :
  ∃ v,(GR a rv).run P w = .ok v w /\ Val F β ((OO r).run σ).2 v:=by
 have:=MH (P:=P) h hr hc
 cases rv <;> exact this
theorem Fi (h : Sim N w0 F0 M B0 σ F β a w) : ∀ (rvs : List ResultVar) (rs : List AS),rvs.mapM (RJ P) = some rs -> (∀ r ∈ rs,((OO r).run σ).1) ->
  ∃ vs : List Value,(rvs.mapM (GR a)).run P w = .ok vs w /\ vs.length = rs.length /\ rvs.length = rs.length /\ ∀ (i : Nat) r v,rs[i]? = some r -> vs[i]? = some v -> Val F β ((OO r).run σ).2 v
 | [],rs,hm,_=>by
  simp at hm
  subst hm
  exact ⟨[],rfl,rfl,rfl,λi r v hi=>by simp at hi⟩
 | rv :: rvs,rs,hm,hc=>by
  simp only [List.mapM_cons,Option.bind_eq_bind,Option.bind_eq_some_iff] at hm
  obtain ⟨r,hr,rs',hrs,he⟩:=hm
  cases he
  obtain ⟨v,v1,v2⟩:=Lq (P:=P) h hr (hc r (by simp))
  obtain ⟨vs,k1,k2,k3,k4⟩:=Fi h rvs rs' hrs (λr hr=>hc r (by simp [hr]))
  refine ⟨v :: vs,by simp [List.mapM_cons,v1,k1],by simp [k2],by simp [k3],λi r' v' hi hv=>?_⟩
  rcases i with _ | i
  ·simp only [List.getElem?_cons_zero,Option.some.injEq] at hi hv
   subst hi; subst hv
   exact v2
  ·simp only [List.getElem?_cons_succ] at hi hv
   exact k4 i r' v' hi hv
theorem BU (h : Sim N w0 F0 M B0 σ F β a w) {fn : Func} {rs : List AS} (hm : fn.results.toList.mapM (RJ P) = some rs) (hc : ∀ r ∈ rs,((OO r).run σ).1) :
  ∃ vs : List Value,(results fn a.tmps).run P w = .ok (if h : vs.length = 1 then vs[0] else .tuple vs.toArray) w /\ vs.length = rs.length /\ ∀ (i : Nat) r v,rs[i]? = some r -> vs[i]? = some v -> Val F β ((OO r).run σ).2 v:=by
 obtain ⟨vs,k1,k2,_,k4⟩:=Fi (P:=P) h _ rs hm hc
 refine ⟨vs,?_,k2,k4⟩
 have hmap : (fn.results.mapM (GR a)).run P w = .ok vs.toArray w:=by
  rw [Array.mapM_eq_mapM_toList]
  simp [k1]
 have e : results fn a.tmps = (do let vs <- fn.results.mapM (GR a); pure (if h : vs.size = 1 then vs[0] else .tuple vs)):=by
  unfold results
  have : (fun
   | .tmp t=>pure (a.tmps.getD t undef)
   | .cell b t=>do loadVar t (<- asAddr (a.tmps.getD b undef)) : ResultVar -> Sem Value) = GR a:=by
   funext rv; cases rv <;> rfl
  rw [<- this]
  rfl
 rw [e]
 simp only [Sem.run_bind]
 rw [hmap]
 simp only [Result.andThen_ok,Sem.run_pure]
 congr 1
theorem Jk (h : Sim N w0 F0 M B0 σ F β a w) (hdr : w0.heap.size <= w0.drawn) {s ty : Nat} {d : D} {x : Value} (hx : Val F β d x) (hc : ((Cf s ty d).run σ).1) :
  Ao σ ((Cf s ty d).run σ).2.2.1 /\ ∃ g v o b,((Cf s ty d).run σ).2.2.2 = g /\ σ.go g = some (v,o) /\ o.fz = false /\ o.var = true /\ β v = some ⟨some b,1,s⟩ /\ x = .pointer (some ⟨b,0,none⟩) /\
   ∀ (ws : List (Nat × Ac)) F',Ao σ ws -> (∀ p ∈ ((Cf s ty d).run σ).2.2.1,p ∈ ws) -> Af F F' -> Sim N w0 F0 M B0 ⟨σ.e,ws ++ σ.o,σ.n⟩ F' β a w -> HN F' w b s ty ((Cf s ty d).run σ).2.1 /\ (∀ i,F' b i = none) /\ b < w.heap.size /\ (w0.heap.size <= b \/ (M b /\ Ab g = true)) /\ ∃ v' o',(S.mk σ.e (ws ++ σ.o) σ.n).go g = some (v',o') /\ o'.fz = false /\ β v' = some ⟨some b,1,s⟩:=by
 cases d <;> try exact hc.elim
 case optr g v i off =>
  simp only [Cf,R.run] at hc ⊢
  cases hg : σ.go g with
  | none=>rw [hg] at hc; exact hc.elim
  | some p =>
   obtain ⟨v',o⟩:=p
   rw [hg] at hc
   simp only [R.run_bind,R.run_pure] at hc ⊢
   obtain ⟨⟨rfl,rfl,rfl,hfz,hvar,hlen,rfl,rfl⟩,hc1⟩:=hc
   obtain ⟨L,b,hL,hb,rfl⟩:=hx
   obtain ⟨L',hL',_,hk⟩:=h.own g v o hg
   rw [hL] at hL'; cases hL'
   obtain ⟨e1,e2,e3,e4,e5,e6⟩:=hk hfz
   rw [hb] at e6
   obtain ⟨C,hC,hCs,hcell⟩:=e6
   obtain ⟨e,he⟩ : ∃ e,o.es = [e]:=List.length_eq_one_iff.1 hlen
   have hge : o.es.getD 0 .top = e:=by simp [he]
   rw [hge] at hc1 ⊢
   have hX : ∀ (j : Nat) c,(cells e)[j]? = some c -> ∃ x,C[j]? = some x /\ x.oneCell' = true /\ Cel F β c x:=by
    intro j c hj
    obtain ⟨x,x1,x2,x3⟩:=hcell 0 j e c (by simp [he]) hj
    rw [hvar] at x3
    exact ⟨x,by simpa using x1,x2,by simpa using x3⟩
   obtain ⟨f1,l1,r1⟩:=Fg h e (λj=>C[j]?) hX hc1
   have hcap : L.cap = 1:=by
    rw [hvar] at e4
    simp only [if_true] at e4
    have : o.es.length = 1:=hlen
    omega
   have hLe : L = ⟨some b,1,o.s⟩:=by cases L; simp_all
   refine ⟨f1,g,v,o,b,rfl,hg,hfz,hvar,by rw [hL,hLe],by simp,λws F' q1 q2 q3 q4=>?_⟩
   have hgo : (S.mk σ.e (ws ++ σ.o) σ.n).go g = some (v,o):=by
    rcases q1.go g with ⟨v2,o2,k1,k2,_,_⟩ | ⟨_,k2⟩
    ·rw [hg] at k1; cases k1; rw [hvar] at k2; cases k2
    ·rw [k2]; exact hg
   obtain ⟨s1,s2,s3⟩:=q4.sep g v o L b hgo hfz hL hb
   replace s3 : w0.heap.size <= b \/ (M b /\ Ab g = true):=s3.elim .inl λs3=>s3.2.elim (λe=>.inr ⟨s3.1,e⟩) λe=>.inl (Nat.le_trans hdr e)
   refine ⟨⟨rfl,e2,by simp,by simp,λq hq=>?_,C,hC,by rw [hCs,hcap],λi j c' c hc' hj=>?_⟩,s1,s2,s3,v,o,hgo,hfz,by rw [hL,hLe]⟩
   ·simp only [List.mem_singleton] at hq
    subst hq
    rw [l1]
    exact e5 e (by simp [he])
   ·rcases i with _ | i
    ·simp only [List.getElem?_cons_zero,Option.some.injEq] at hc'
     subst hc'
     obtain ⟨x,x1,x2,x3⟩:=r1 ws F' q1 q2 q3 q4 j c hj
     exact ⟨x,by simpa using x1,x2,by simpa using Cel.Ag x3⟩
    ·simp at hc'
theorem MI {L : Loc} {b : Nat} (h : Sim N w0 F0 M B0 σ F β a w) {s ty g v : Nat} (hL : β v = some L) (hb : L.b = some b) (hLs : L.cap = 1 /\ L.s = s) (hc : ((Ho s ty (.optr g v 0 0)).run σ).1) :
  Ao σ ((Ho s ty (.optr g v 0 0)).run σ).2.2 /\ ∃ o,σ.go g = some (v,o) /\ o.fz = false /\ o.var = true /\
   ∀ (ws : List (Nat × Ac)) F' φ,Ao σ ws -> (∀ p ∈ ((Ho s ty (.optr g v 0 0)).run σ).2.2,p ∈ ws) -> Af F F' -> Sim N w0 F0 M B0 ⟨σ.e,ws ++ σ.o,σ.n⟩ F' β a w -> AE F' β w0.heap.size M ⟨σ.e,ws ++ σ.o,σ.n⟩ w φ ->
    Es F' w ⟨b,s,ty,φ g 0⟩ ((Ho s ty (.optr g v 0 0)).run σ).2.1 /\ (S.mk σ.e (ws ++ σ.o) σ.n).go g = some (v,o):=by
 simp only [Ho,R.run] at hc ⊢
 cases hg : σ.go g with
 | none=>rw [hg] at hc; exact hc.elim
 | some p =>
  obtain ⟨v',o⟩:=p
  rw [hg] at hc
  simp only [R.run_bind,R.run_pure] at hc ⊢
  obtain ⟨⟨rfl,_,_,hfz,hvar,hlen,rfl,rfl⟩,hc1⟩:=hc
  obtain ⟨L',hL',_,hk⟩:=h.own g v o hg
  rw [hL] at hL'; cases hL'
  obtain ⟨e1,e2,e3,e4,e5,e6⟩:=hk hfz
  rw [hb] at e6
  obtain ⟨C,hC,hCs,hcell⟩:=e6
  obtain ⟨e,he⟩ : ∃ e,o.es = [e]:=List.length_eq_one_iff.1 hlen
  have hge : o.es.getD 0 .top = e:=by simp [he]
  rw [hge] at hc1 ⊢
  obtain ⟨hc1,hpe,hpr⟩:=Jg hc1
  have hpe' : (pas (Ab g) e).run σ = (((pas (Ab g) e).run σ).1,((res e).run σ).2):=Prod.ext rfl hpe
  rw [hpe']
  dsimp only
  have hX : ∀ (j : Nat) c,(cells e)[j]? = some c -> ∃ x,C[j]? = some x /\ x.oneCell' = true /\ Cel F β c x:=by
   intro j c hj
   obtain ⟨x,x1,x2,x3⟩:=hcell 0 j e c (by simp [he]) hj
   rw [hvar] at x3
   exact ⟨x,by simpa using x1,x2,by simpa using x3⟩
  obtain ⟨f1,l1,r1⟩:=Fg h e (λj=>C[j]?) hX hc1
  refine ⟨f1,o,rfl,hfz,hvar,λws F' φ q1 q2 q3 q4 hφ=>?_⟩
  have hgo : (S.mk σ.e (ws ++ σ.o) σ.n).go g = some (v,o):=by
   rcases q1.go g with ⟨v2,o2,k1,k2,_,_⟩ | ⟨_,k2⟩
   ·rw [hg] at k1; cases k1; rw [hvar] at k2; cases k2
   ·rw [k2]; exact hg
  obtain ⟨s1,s2,_⟩:=q4.sep g v o L b hgo hfz hL hb
  refine ⟨⟨⟨rfl,e2,by simp,by simp,λq hq=>?_,C,hC,by rw [hCs,hLs.1],λi j c' c hc' hj=>?_⟩,s1,s2,hφ.none_ g 0,hφ.lt g 0,λj b' hb' e'=>?_,λj j' b' h1 h2=>(hφ.dis _ _ _ _ _ _ _ h1 h2).2.2,λC' j x s ty es hC' hj hx=>?_,λj nm u n hj=>(hpr j _ hj).2 nm u n rfl⟩,hgo⟩
  ·simp only [List.mem_singleton] at hq
   subst hq
   rw [l1]
   exact e5 e (by simp [he])
  ·rcases i with _ | i
   ·simp only [List.getElem?_cons_zero,Option.some.injEq] at hc'
    subst hc'
    obtain ⟨x,x1,x2,x3⟩:=r1 ws F' q1 q2 q3 q4 j c hj
    exact ⟨x,by simpa using x1,x2,by simpa using Cel.Ag x3⟩
   ·simp at hc'
  ·simp only at e'
   subst e'
   exact hφ.sep g 0 j _ g v o L hb' hgo hfz hL hb
  ·obtain ⟨z1,z2⟩:=(hpr j _ hj).1 s ty es rfl
   exact hφ.row g v o L b C' 0 j e x s ty es z1 hgo hfz hL hb hC' (by simp [he]) z2 (by simpa using hx)
theorem Jl (_h : Sim N w0 F0 M B0 σ F β a w) (hdr : w0.heap.size <= w0.drawn) {r : Bool} {s ty : Nat} {d : D} {x : Value} (hx : Val F β d x) (hc : ((DX r s ty d).run σ).1) :
  ∃ es L g v o,((DX r s ty d).run σ).2.1 = .sl es /\ x = .slice (L.b.map λb=>⟨b,0,none⟩) es.length L.cap /\ Ab g = r /\ o.fz = false /\ o.s = s /\ o.ty = ty /\ β v = some L /\ (∃ n,es = o.es.take n) /\ (r = true -> ∀ e ∈ o.es,∀ c ∈ cells e,∀ nm u m,c ≠ .hole nm u m) /\
   ∀ (ws : List (Nat × Ac)) F',ws.all (λx=>x.1 != ((DX r s ty d).run σ).2.2) = true -> Af F F' -> Sim N w0 F0 M B0 ⟨σ.e,ws ++ σ.o,σ.n⟩ F' β a w -> Az F' noB w L ⟨false,false,s,ty,es⟩ /\ (S.mk σ.e (ws ++ σ.o) σ.n).go g = some (v,o) /\ ∀ b,L.b = some b -> (w0.heap.size <= b \/ (r = true /\ M b)) /\ b < w.heap.size /\ ∀ i,F' b i = none:=by
 cases d <;> try exact hc.elim
 case osl g v i n =>
  simp only [DX,R.run] at hc ⊢
  cases hg : σ.go g with
  | none=>rw [hg] at hc; exact hc.elim
  | some p =>
   obtain ⟨v',o⟩:=p
   rw [hg] at hc
   simp only [R.run] at hc ⊢
   obtain ⟨rfl,rfl,hn,hfz,hvar,rfl,rfl,hrg,hnh⟩:=hc
   obtain ⟨L,a',hL,rfl,hcap,ha,_⟩:=hx
   refine ⟨o.es.take n,L,g,v,o,rfl,by rw [ha rfl]; simp [Nat.min_eq_left hn],hrg,hfz,rfl,rfl,hL,⟨n,rfl⟩,hnh,λws F' hws hF hS=>?_⟩
   have hgo : (S.mk σ.e (ws ++ σ.o) σ.n).go g = some (v,o):=by
    have : look ws g = none:=by
     cases hl : look ws g with
     | none=>rfl
     | some y =>
      have:=List.all_eq_true.1 hws _ (Ba hl)
      simp at this
    simp only [S.go,BD,this,Option.none_or]
    exact hg
   obtain ⟨L',hL',_,hk⟩:=hS.own g v o hgo
   rw [hL] at hL'; cases hL'
   obtain ⟨e1,e2,e3,e4,e5,e6⟩:=hk hfz
   refine ⟨⟨e1,e2,?_,?_,λe he=>e5 e (List.mem_of_mem_take he),?_⟩,hgo,λb hb=>?_⟩
   ·simp only [List.length_take]; omega
   ·simpa [hvar] using e4
   ·cases hb : L.b with
    | none=>rw [hb] at e6; exact ⟨e6.1,rfl⟩
    | some b =>
     rw [hb] at e6
     obtain ⟨C,hC,hCs,hcell⟩:=e6
     refine ⟨C,hC,hCs,λi j e d he hd=>?_⟩
     have he' : o.es[i]? = some e:=by
      rw [List.getElem?_take] at he
      split at he
      ·exact he
      ·cases he
     obtain ⟨x,x1,x2,x3⟩:=hcell i j e d he' hd
     rw [hvar] at x3
     exact ⟨x,x1,x2,by simpa using x3⟩
   ·obtain ⟨s1,s2,s3⟩:=hS.sep g v o L b hgo hfz hL hb
    replace s3 : w0.heap.size <= b \/ (M b /\ Ab g = true):=s3.elim .inl λs3=>s3.2.elim (λe=>.inr ⟨s3.1,e⟩) λe=>.inl (Nat.le_trans hdr e)
    refine ⟨?_,s2,s1⟩
    rcases s3 with s3 | s3
    ·exact .inl s3
    ·rw [hrg] at s3
     exact .inr ⟨s3.2,s3.1⟩
theorem EB (h : Sim N w0 F0 M B0 σ F β a w) : ∀ (rs : List AS) (vs : List Value),rs.length = vs.length -> (∀ (i : Nat) r v,rs[i]? = some r -> vs[i]? = some v -> ((OO r).run σ).1 -> Val F β ((OO r).run σ).2 v) -> ((AG rs).run σ).1 ->
  Ao σ ((AG rs).run σ).2.2 /\ ((AG rs).run σ).2.1.length = vs.length /\ ∀ (ws : List (Nat × Ac)) F',Ao σ ws -> (∀ p ∈ ((AG rs).run σ).2.2,p ∈ ws) -> Af F F' -> Sim N w0 F0 M B0 ⟨σ.e,ws ++ σ.o,σ.n⟩ F' β a w ->
   ∀ (j : Nat) c v,((AG rs).run σ).2.1[j]? = some c -> vs[j]? = some v -> Fro F' c v
 | [],vs,hl,_,_=>⟨Ao.nil σ,by simpa [AG,R.run] using hl,λ_ _ _ _ _ _ j c v hj=>by simp [AG] at hj⟩
 | r :: rs,[],hl,_,_=>by simp at hl
 | r :: rs,v :: vs,hl,hv,hc=>by
  simp only [AG,DY,R.run_bind,R.run_pure] at hc ⊢
  obtain ⟨⟨c1,c2⟩,c3⟩:=hc
  obtain ⟨f1,r1⟩:=Fh h _ (hv 0 r v rfl rfl c1) c2
  obtain ⟨f2,l2,r2⟩:=EB h rs vs (by simpa using hl) (λi r' v' h1 h2=>hv (i + 1) r' v' (by simpa using h1) (by simpa using h2)) c3
  refine ⟨f1.append f2,by simp [l2],λws F' q1 q2 q3 q4 j c v' hj hv'=>?_⟩
  rcases j with _ | j
  ·simp only [List.getElem?_cons_zero,Option.some.injEq] at hj hv'
   subst hj; subst hv'
   exact r1 ws F' q1 (λp hp=>q2 p (by simp [hp])) q3 q4
  ·simp only [List.getElem?_cons_succ] at hj hv'
   exact r2 ws F' q1 (λp hp=>q2 p (by simp [hp])) q3 q4 j c v' hj hv'
theorem Dq : ∀ (rs : List AS),((AG rs).run σ).1 -> ∀ r ∈ rs,((OO r).run σ).1
 | [],_,r,hr=>by cases hr
 | r0 :: rs,hc,r,hr=>by
  simp only [AG,DY,R.run_bind,R.run_pure] at hc
  cases hr with
  | head=>exact hc.1.1
  | tail _ hr=>exact Dq rs hc.2 r hr
end
end Go.Dw
namespace Go.Dw
section
variable {N : Nat} {P : Program}
def ini (p : (Nat × D) × Hd) : Nat × Ac:=(8192 + p.1.1,some (p.1.1,⟨false,true,p.2.s,p.2.ty,[p.1.2]⟩))
structure Ini (F : Fz) (w : World) (ptr : List (Nat × (Nat × Nat))) (O : List (Nat × Ac)) (keys : List Nat) (Mb : List Hd) (K : List (Nat × D)) : Prop where
 len : K.length = Mb.length
 keys : K.map Prod.fst = keys
 obj : O = (K.zip Mb).map ini
 ok : ∀ (k : Nat) key d m,K[k]? = some (key,d) -> Mb[k]? = some m -> Es F w m d /\ look ptr key = some (m.s,m.ty)
 apart : ∀ (k k' : Nat) m m',k < k' -> Mb[k]? = some m -> Mb[k']? = some m' -> TP m m'
def Nam (K : List (Nat × D)) (Mb : List Hd) (PB : Bt) : Prop:=∀ (k : Nat) key d m,K[k]? = some (key,d) -> Mb[k]? = some m -> PB key = some ⟨some m.b,1,m.s⟩
theorem Nam.cons {K : List (Nat × D)} {Mb : List Hd} {p : Nat × D} {m : Hd} {PB : Bt} (h : Nam (p :: K) (m :: Mb) PB) : PB p.1 = some ⟨some m.b,1,m.s⟩ /\ Nam K Mb PB :=
 ⟨h 0 p.1 p.2 m rfl rfl,λk key d m' h1 h2=>h (k + 1) key d m' (by simpa using h1) (by simpa using h2)⟩
theorem Nam.append {K1 K2 : List (Nat × D)} {M1 M2 : List Hd} {PB : Bt} (hl : K1.length = M1.length) (h : Nam (K1 ++ K2) (M1 ++ M2) PB) : Nam K1 M1 PB /\ Nam K2 M2 PB:=by
 refine ⟨λk key d m h1 h2=>h k key d m ?_ ?_,λk key d m h1 h2=>h (K1.length + k) key d m ?_ ?_⟩
 ·rw [List.getElem?_append_left (List.getElem?_eq_some_iff.1 h1).1]; exact h1
 ·rw [List.getElem?_append_left (List.getElem?_eq_some_iff.1 h2).1]; exact h2
 ·rw [List.getElem?_append_right (by omega)]; simpa using h1
 ·rw [List.getElem?_append_right (by omega),show K1.length + k - M1.length = k by omega]; exact h2
theorem Ini.nil {F : Fz} {w : World} {ptr : List (Nat × (Nat × Nat))} : Ini F w ptr [] [] [] []:=⟨rfl,rfl,rfl,λk key d m h=>by simp at h,λk k' m m' _ h=>by simp at h⟩
theorem Ini.cons {F : Fz} {w : World} {ptr : List (Nat × (Nat × Nat))} {O : List (Nat × Ac)} {keys : List Nat} {Mb : List Hd} {K : List (Nat × D)} (h : Ini F w ptr O keys Mb K) {j : Nat} {d : D} {m : Hd} (hp : look ptr j = some (m.s,m.ty)) (hd : Es F w m d) (hM : ∀ m' ∈ Mb,TP m m') :
  Ini F w ptr ((8192 + j,some (j,⟨false,true,m.s,m.ty,[d]⟩)) :: O) (j :: keys) (m :: Mb) ((j,d) :: K):=by
 refine ⟨by simp [h.len],by simp [h.keys],by simp [h.obj,ini],λk key d' m' h1 h2=>?_,λk k' m1 m2 hlt h1 h2=>?_⟩
 ·rcases k with _ | k
  ·simp only [List.getElem?_cons_zero,Option.some.injEq,Prod.mk.injEq] at h1 h2
   obtain ⟨rfl,rfl⟩:=h1
   subst h2
   exact ⟨hd,hp⟩
  ·simp only [List.getElem?_cons_succ] at h1 h2
   exact h.ok k key d' m' h1 h2
 ·rcases k' with _ | k'
  ·omega
  ·simp only [List.getElem?_cons_succ] at h2
   rcases k with _ | k
   ·simp only [List.getElem?_cons_zero,Option.some.injEq] at h1
    subst h1
    exact hM m2 (List.mem_of_getElem? h2)
   ·simp only [List.getElem?_cons_succ] at h1
    exact h.apart k k' m1 m2 (by omega) h1 h2
theorem Ini.append {F : Fz} {w : World} {ptr : List (Nat × (Nat × Nat))} {O1 O2 : List (Nat × Ac)} {k1 k2 : List Nat} {M1 M2 : List Hd} {K1 K2 : List (Nat × D)} (h1 : Ini F w ptr O1 k1 M1 K1) (h2 : Ini F w ptr O2 k2 M2 K2) (hM : ∀ m ∈ M1,∀ m' ∈ M2,TP m m') :
  Ini F w ptr (O1 ++ O2) (k1 ++ k2) (M1 ++ M2) (K1 ++ K2):=by
 refine ⟨by simp [h1.len,h2.len],by simp [h1.keys,h2.keys],by rw [h1.obj,h2.obj,List.zip_append h1.len,List.map_append],λk key d m q1 q2=>?_,λk k' m m' hlt q1 q2=>?_⟩
 ·by_cases hk : k < K1.length
  ·rw [List.getElem?_append_left hk] at q1
   rw [List.getElem?_append_left (by rw [<- h1.len]; exact hk)] at q2
   exact h1.ok k key d m q1 q2
  ·rw [List.getElem?_append_right (by omega)] at q1
   rw [List.getElem?_append_right (by rw [<- h1.len]; omega),<- h1.len] at q2
   exact h2.ok _ key d m q1 q2
 ·by_cases hk : k' < M1.length
  ·rw [List.getElem?_append_left (by omega)] at q1
   rw [List.getElem?_append_left hk] at q2
   exact h1.apart k k' m m' hlt q1 q2
  ·rw [List.getElem?_append_right (by omega)] at q2
   by_cases hk2 : k < M1.length
   ·rw [List.getElem?_append_left hk2] at q1
    exact hM m (List.mem_of_getElem? q1) m' (List.mem_of_getElem? q2)
   ·rw [List.getElem?_append_right (by omega)] at q1
    exact h2.apart _ _ m m' (by omega) q1 q2
theorem Ld {F : Fz} {w : World} {ptr : List (Nat × (Nat × Nat))} {j : Nat} {ds : List D} {xs : List Value} {Mb : List Hd} (h : CQ F w ptr j ds xs Mb) :
  ∃ K,Ini F w ptr (Gf ptr j ds) (Ee ptr j ds) Mb K /\ (DA ptr j ds).length = xs.length /\ ∀ PB,Nam K Mb PB -> ∀ (q : Nat) d x,(DA ptr j ds)[q]? = some d -> xs[q]? = some x -> Ref F PB d x:=by
 induction h with
 | nil j=>exact ⟨[],Ini.nil,rfl,λPB _ q d x hq=>by simp [DA] at hq⟩
 | val j d ds x xs M hp hx _ ih =>
  obtain ⟨K,k1,k2,k3⟩:=ih
  refine ⟨K,by simpa [Gf,Ee,hp] using k1,by simp [DA,k2],λPB hPB q d' x' hq hx'=>?_⟩
  simp only [DA,hp] at hq
  rcases q with _ | q
  ·simp only [List.getElem?_cons_zero,Option.some.injEq] at hq hx'
   subst hq; subst hx'
   exact Ref.Ag hx
  ·simp only [List.getElem?_cons_succ] at hq hx'
   exact k3 PB hPB q d' x' hq hx'
 | ptr j d ds xs M m hp hd hM _ ih =>
  obtain ⟨K,k1,k2,k3⟩:=ih
  refine ⟨(j,d) :: K,by simpa [Gf,Ee,hp] using k1.cons hp hd hM,by simp [DA,k2],λPB hPB q d' x' hq hx'=>?_⟩
  obtain ⟨n1,n2⟩:=hPB.cons
  simp only [DA,hp] at hq
  rcases q with _ | q
  ·simp only [List.getElem?_cons_zero,Option.some.injEq] at hq hx'
   subst hq; subst hx'
   exact ⟨_,m.b,n1,rfl,by simp⟩
  ·simp only [List.getElem?_cons_succ] at hq hx'
   exact k3 PB n2 q d' x' hq hx'
theorem Lc {F : Fz} {w : World} {ptr : List (Nat × (Nat × Nat))} {j : Nat} {ds : List D} {xs : List Value} {Mb : List Hd} (h : BX F w ptr j ds xs Mb) :
  ∃ K,Ini F w ptr (Cv ptr j ds) (BE ptr j ds) Mb K /\ ∀ PB,Nam K Mb PB -> ∀ t d,look (Dk ptr j ds) t = some d -> ∃ x,j <= t /\ xs[t - j]? = some x /\ Env F PB d x:=by
 have tail : ∀ {j : Nat} {d0 : D} {ds : List D} {x0 : Value} {xs : List Value} {PB : Bt},Env F PB (FF ptr j d0) x0 -> (∀ t d,look (Dk ptr (j + 1) ds) t = some d -> ∃ x,j + 1 <= t /\ xs[t - (j + 1)]? = some x /\ Env F PB d x) ->
   ∀ t d,look (Dk ptr j (d0 :: ds)) t = some d -> ∃ x,j <= t /\ (x0 :: xs)[t - j]? = some x /\ Env F PB d x:=by
  intro j d0 ds x0 xs PB h0 hr t d ht
  simp only [Dk,look] at ht
  split at ht
  ·rename_i e
   cases ht
   subst e
   exact ⟨x0,Nat.le_refl _,by simp,h0⟩
  ·obtain ⟨x',q1,q2,q3⟩:=hr t d ht
   refine ⟨x',by omega,?_,q3⟩
   rw [show t - j = (t - (j + 1)) + 1 by omega,List.getElem?_cons_succ]
   exact q2
 induction h with
 | nil j=>exact ⟨[],Ini.nil,λPB _ t d ht=>by simp [Dk,look] at ht⟩
 | val j d ds x xs M hp hn hx _ ih =>
  obtain ⟨K,k1,k3⟩:=ih
  have hm : Cv ptr j (d :: ds) = Cv ptr (j + 1) ds /\ BE ptr j (d :: ds) = BE ptr (j + 1) ds /\ FF ptr j d = d:=by
   cases d <;> first | exact (hn _ _ rfl).elim | (refine ⟨?_,?_,?_⟩ <;> simp [Cv,BE,FF,hp])
  obtain ⟨m1,m2,m3⟩:=hm
  rw [m1,m2]
  exact ⟨K,k1,λPB hPB=>tail (by rw [m3]; exact Env.Ag hx) (k3 PB hPB)⟩
 | ptr j d ds xs M m hp hd hM _ ih =>
  obtain ⟨K,k1,k3⟩:=ih
  refine ⟨(j,d) :: K,by simpa [Cv,BE,hp] using k1.cons hp hd hM,λPB hPB=>?_⟩
  obtain ⟨n1,n2⟩:=hPB.cons
  exact tail (by simp only [FF,hp]; exact ⟨_,m.b,n1,rfl,by simp⟩) (k3 PB n2)
 | clo j f caps vs ds xs M1 M2 hp hc hM _ ih =>
  obtain ⟨K,k1,k3⟩:=ih
  obtain ⟨K1,c1,c2,c3⟩:=Ld hc
  refine ⟨K1 ++ K,by simpa [Cv,BE,hp] using c1.append k1 hM,λPB hPB=>?_⟩
  obtain ⟨n1,n2⟩:=hPB.append c1.len
  exact tail (by simp only [FF,hp]; exact ⟨vs,rfl,c2,c3 PB n1⟩) (k3 PB n2)
theorem Lx {sp : Spec} {F : Fz} {w : World} {ds : List D} {xs : List Value} {Mb : List Hd} (hF : Fok F w) (hfin : ∀ b i x,F b i = some x -> b < w.heap.size) (h : BX F w sp.ptr 0 ds xs Mb) {k : Nat} (hN : xs.length + k = N)
  (hok : EA sp.ptr = true) (hkeys : BE sp.ptr 0 ds = sp.ptr.map Prod.fst) :
  ∃ (PB : Bt) (K : List (Nat × D)),Sim N { w with drawn:=w.heap.size } F (Wr Mb) PB (DB sp ds) F PB { tmps:=xs.toArray ++ Array.replicate k undef,defers:=[] } w /\ (∀ v,262144 <= v -> PB v = none) /\ Nam K Mb PB /\ K.length = Mb.length /\ K.map Prod.fst = sp.ptr.map Prod.fst /\
   ∀ (i : Nat) key d m,K[i]? = some (key,d) -> Mb[i]? = some m -> look sp.ptr key = some (m.s,m.ty):=by
 obtain ⟨K,hI,hE⟩:=Lc h
 simp only [EA,Bool.and_eq_true,decide_eq_true_eq] at hok
 obtain ⟨hlt,hnd⟩:=hok
 have hKn : (K.map Prod.fst).Nodup:=by rw [hI.keys,hkeys]; exact hnd
 have hzl : (K.zip Mb).length = K.length:=by simp [hI.len]
 have huk : ∀ (i i' : Nat) key d d',K[i]? = some (key,d) -> K[i']? = some (key,d') -> i = i':=by
  intro i i' key d d' h1 h2
  have e1 : (K.map Prod.fst)[i]? = some key:=by simp [h1]
  have e2 : (K.map Prod.fst)[i']? = some key:=by simp [h2]
  have l1:=(List.getElem?_eq_some_iff.1 e1).1
  exact (List.getElem?_inj l1 hKn).1 (e1.trans e2.symm)
 let PB : Bt:=λv=>((K.zip Mb).find? λp=>p.1.1 == v).map λp=>⟨some p.2.b,1,p.2.s⟩
 have hPB : ∀ v L,PB v = some L -> ∃ (i : Nat) (d : D) (m : Hd),K[i]? = some (v,d) /\ Mb[i]? = some m /\ L = ⟨some m.b,1,m.s⟩:=by
  intro v L hv
  simp only [PB,Option.map_eq_some_iff] at hv
  obtain ⟨⟨⟨key,d⟩,m⟩,h1,rfl⟩:=hv
  have hk:=List.find?_some h1
  simp only [beq_iff_eq] at hk
  subst hk
  obtain ⟨i,hi⟩:=List.getElem?_of_mem (List.mem_of_find?_eq_some h1)
  rw [List.getElem?_zip_eq_some] at hi
  exact ⟨i,d,m,hi.1,hi.2,rfl⟩
 have hnam : Nam K Mb PB:=by
  intro i key d m h1 h2
  have hm : ((key,d),m) ∈ K.zip Mb:=List.mem_of_getElem? (i:=i) (by rw [List.getElem?_zip_eq_some]; exact ⟨h1,h2⟩)
  cases hf : (K.zip Mb).find? λp=>p.1.1 == key with
  | none =>
   have:=List.find?_eq_none.1 hf _ hm
   simp at this
  | some p =>
   have hv : PB key = some ⟨some p.2.b,1,p.2.s⟩:=by simp only [PB,hf]; rfl
   obtain ⟨i',d',m',q1,q2,q3⟩:=hPB key _ hv
   have:=huk i i' key d d' h1 q1
   subst this
   rw [h2] at q2; cases q2
   rw [hv,q3]
 have hgo : ∀ g v o,(DB sp ds).go g = some (v,o) -> ∃ (i : Nat) (d : D) (m : Hd),K[i]? = some (v,d) /\ Mb[i]? = some m /\ g = 8192 + v /\ o = ⟨false,true,m.s,m.ty,[d]⟩:=by
  intro g v o hg
  simp only [S.go,DB] at hg
  cases hl : look (Cv sp.ptr 0 ds) g with
  | none=>rw [hl] at hg; cases hg
  | some y =>
   rw [hl] at hg
   simp only [Option.getD_some] at hg
   subst hg
   have hm:=Ba hl
   rw [hI.obj,List.mem_map] at hm
   obtain ⟨⟨⟨key,d⟩,m⟩,h1,h2⟩:=hm
   obtain ⟨i,hi⟩:=List.getElem?_of_mem h1
   rw [List.getElem?_zip_eq_some] at hi
   simp only [ini,Prod.mk.injEq,Option.some.injEq] at h2
   obtain ⟨rfl,rfl,rfl⟩:=h2
   exact ⟨i,d,m,hi.1,hi.2,rfl,rfl⟩
 have hap : ∀ (i i' : Nat) m m' b,Mb[i]? = some m -> Mb[i']? = some m' -> m.own b -> m'.own b -> i = i':=by
  intro i i' m m' b h1 h2 h3 h4
  rcases Nat.lt_trichotomy i i' with hl | hl | hl
  ·exact (hI.apart i i' m m' hl h1 h2 b h3 h4).elim
  ·exact hl
  ·exact (hI.apart i' i m' m hl h2 h1 b h4 h3).elim
 refine ⟨PB,K,?_,?_,hnam,hI.len,by rw [hI.keys,hkeys],λi key d m h1 h2=>(hI.ok i key d m h1 h2).2⟩
 ·refine { nam:=At.refl _,size:=by simp [hN],defers:=rfl,env:=λt=>?_,own:=?_,dist:=?_,sep:=?_,Ab:=?_,frz:=hF,fin:=hfin,step:=⟨rfl,rfl,rfl,Nat.le_refl _,λ_ _ _=>rfl,Af.refl F,λ_ _ _ _=>rfl⟩ }
  ·simp only [S.ge,DB]
   cases hl : look (Dk sp.ptr 0 ds) t with
   | none=>exact Env.top _
   | some d =>
    obtain ⟨x,_,q2,q3⟩:=hE PB hnam t d hl
    simp only [Nat.sub_zero] at q2
    have hlt : t < xs.length:=(List.getElem?_eq_some_iff.1 q2).1
    have : (xs.toArray ++ Array.replicate k undef).getD t undef = x:=by
     rw [Array.getD_eq_getD_getElem?,Array.getElem?_append_left (by simpa using hlt)]
     simp [q2]
    simp only [Option.getD_some,this]
    exact q3
  ·intro g v o hg
   obtain ⟨i,d,m,h1,h2,rfl,rfl⟩:=hgo g v o hg
   exact ⟨_,hnam i v d m h1 h2,λe=>(by cases e),λ_=>(hI.ok i v d m h1 h2).1.var.OV (Af.refl _) (Hm _) (λ_ _=>rfl)⟩
  ·intro g g' v v' o o' L L' b hg hg' _ _ hL hL' hb hb'
   obtain ⟨i,d,m,h1,h2,rfl,_⟩:=hgo g v o hg
   obtain ⟨i',d',m',h1',h2',rfl,_⟩:=hgo g' v' o' hg'
   rw [hnam i v d m h1 h2] at hL; cases hL; cases hb
   rw [hnam i' v' d' m' h1' h2'] at hL'; cases hL'
   have hbb : m'.b = m.b:=Option.some.inj hb'
   have:=hap i i' m m' m.b h2 h2' (.inl rfl) (.inl hbb.symm)
   subst this
   rw [h1] at h1'; cases h1'; rfl
  ·intro g v o L b hg _ hL hb
   obtain ⟨i,d,m,h1,h2,rfl,rfl⟩:=hgo g v o hg
   rw [hnam i v d m h1 h2] at hL; cases hL; cases hb
   have hz:=(hI.ok i v d m h1 h2).1
   exact ⟨hz.none_,hz.lt,.inr ⟨⟨m,List.mem_of_getElem? h2,.inl rfl⟩,by simp [Ab]; omega⟩⟩
  ·refine ⟨λg i j b=>∃ (q : Nat) (key : Nat) (d : D) (m : Hd),K[q]? = some (key,d) /\ Mb[q]? = some m /\ g = 8192 + key /\ i = 0 /\ m.φ j b,?_,?_,?_,?_,?_,?_,?_⟩
   ·intro g v o L b C i j e x s ty es _ hg _ hL hb hC he hj hx
    obtain ⟨q,d,m,h1,h2,rfl,rfl⟩:=hgo g v o hg
    rw [hnam q v d m h1 h2] at hL; cases hL; cases hb
    rcases i with _ | i
    ·simp only [List.getElem?_cons_zero,Option.some.injEq] at he
     subst he
     exact ((hI.ok q v d m h1 h2).1.row C j x s ty es hC hj (by simpa using hx)).OV (Af.refl _) (λ_ _=>rfl) (λb hb=>⟨q,v,d,m,h1,h2,rfl,rfl,hb⟩)
    ·simp at he
   ·intro g v o L b C i j e x nm u n _ hg _ hL hb hC he hj hx
    obtain ⟨q,d,m,h1,h2,rfl,rfl⟩:=hgo g v o hg
    rcases i with _ | i
    ·simp only [List.getElem?_cons_zero,Option.some.injEq] at he
     subst he
     exact ((hI.ok q v d m h1 h2).1.hole j _ u n hj).elim
    ·simp at he
   ·rintro g i j b ⟨q,key,d,m,h1,h2,_,_,hb⟩
    exact (hI.ok q key d m h1 h2).1.fno j b hb
   ·rintro g i j b ⟨q,key,d,m,h1,h2,_,_,hb⟩
    exact (hI.ok q key d m h1 h2).1.flt j b hb
   ·rintro g i j b ⟨q,key,d,m,h1,h2,_,_,hb⟩
    exact .inr ⟨m,List.mem_of_getElem? h2,.inr ⟨j,hb⟩⟩
   ·rintro g i j b g' v' o' L' ⟨q,key,d,m,h1,h2,_,_,hb⟩ hg' _ hL' hLb
    obtain ⟨q',d',m',h1',h2',rfl,rfl⟩:=hgo g' v' o' hg'
    rw [hnam q' v' d' m' h1' h2'] at hL'; cases hL'
    have hbb : m'.b = b:=Option.some.inj hLb
    have:=hap q q' m m' b h2 h2' (.inr ⟨j,hb⟩) (.inl hbb.symm)
    subst this
    rw [h2] at h2'; cases h2'
    exact (hI.ok q key d m h1 h2).1.fne j b hb hbb.symm
   ·rintro g i j g' i' j' b ⟨q,key,d,m,h1,h2,rfl,rfl,hb⟩ ⟨q',key',d',m',h1',h2',rfl,rfl,hb'⟩
    have:=hap q q' m m' b h2 h2' (.inr ⟨j,hb⟩) (.inr ⟨j',hb'⟩)
    subst this
    rw [h1] at h1'; cases h1'
    rw [h2] at h2'; cases h2'
    exact ⟨rfl,rfl,(hI.ok q key d m h1 h2).1.dis j j' b hb hb'⟩
 ·intro v hv
  cases hh : PB v with
  | none=>rfl
  | some L =>
   obtain ⟨i,d,m,h1,_⟩:=hPB v L hh
   have hm : v ∈ sp.ptr.map Prod.fst:=by
    rw [<- hkeys,<- hI.keys]
    exact List.mem_map.2 ⟨_,List.mem_of_getElem? h1,rfl⟩
   have:=List.all_eq_true.1 hlt v hm
   simp only [Nat.blt_eq] at this
   omega
section
variable {w0 : World} {F0 : Fz} {M : Nat -> Prop} {B0 : Bt} {σ : S} {F : Fz} {β : Bt} {a : Act} {w : World}
theorem IW (h : Sim N w0 F0 M B0 σ F β a w) : ∀ (ptr : List (Nat × (Nat × Nat))) (Ms : List Hd),ptr.length = Ms.length -> (∀ (k : Nat) key s ty m,ptr[k]? = some (key,(s,ty)) -> Ms[k]? = some m -> s = m.s /\ ty = m.ty /\ β key = some ⟨some m.b,1,m.s⟩) -> ((BG ptr).run σ).1 ->
  Ao σ ((BG ptr).run σ).2.2 /\ (∀ (k : Nat) key s ty m,ptr[k]? = some (key,(s,ty)) -> Ms[k]? = some m -> ∃ o,σ.go (8192 + key) = some (key,o) /\ o.fz = false /\ o.var = true) /\
   ∀ (ws : List (Nat × Ac)) F' φ,Ao σ ws -> (∀ p ∈ ((BG ptr).run σ).2.2,p ∈ ws) -> Af F F' -> Sim N w0 F0 M B0 ⟨σ.e,ws ++ σ.o,σ.n⟩ F' β a w -> AE F' β w0.heap.size M ⟨σ.e,ws ++ σ.o,σ.n⟩ w φ ->
    ∀ (k : Nat) key s ty m,ptr[k]? = some (key,(s,ty)) -> Ms[k]? = some m -> Es F' w ⟨m.b,m.s,m.ty,φ (8192 + key) 0⟩ (((BG ptr).run σ).2.1.getD k .top) /\ ∃ o,(S.mk σ.e (ws ++ σ.o) σ.n).go (8192 + key) = some (key,o) /\ o.fz = false
 | [],_,_,_,_=>⟨Ao.nil σ,λk key s ty m hk=>by simp at hk,λ_ _ _ _ _ _ _ _ k key s ty m hk=>by simp at hk⟩
 | _ :: _,[],hl,_,_=>by simp at hl
 | (j,(s,ty)) :: ptr,m :: Ms,hl,hB,hc=>by
  simp only [BG,R.run_bind,R.run_pure] at hc ⊢
  obtain ⟨c1,c2⟩:=hc
  obtain ⟨rfl,rfl,hβ⟩:=hB 0 j s ty m rfl rfl
  obtain ⟨f1,o,g1,g2,g3,r1⟩:=MI h hβ rfl ⟨rfl,rfl⟩ c1
  obtain ⟨f2,g4,r2⟩:=IW h ptr Ms (by simpa using hl) (λk key s ty m' h1 h2=>hB (k + 1) key s ty m' (by simpa using h1) (by simpa using h2)) c2
  refine ⟨f1.append f2,λk key s ty m' h1 h2=>?_,λws F' φ q1 q2 q3 q4 q5 k key s ty m' h1 h2=>?_⟩
  ·rcases k with _ | k
   ·simp only [List.getElem?_cons_zero,Option.some.injEq,Prod.mk.injEq] at h1
    obtain ⟨rfl,_⟩:=h1
    exact ⟨o,g1,g2,g3⟩
   ·simp only [List.getElem?_cons_succ] at h1 h2
    exact g4 k key s ty m' h1 h2
  ·rcases k with _ | k
   ·simp only [List.getElem?_cons_zero,Option.some.injEq,Prod.mk.injEq] at h1 h2
    obtain ⟨rfl,_⟩:=h1
    subst h2
    obtain ⟨z1,z2⟩:=r1 ws F' φ q1 (λp hp=>q2 p (by simp [hp])) q3 q4 q5
    exact ⟨by simpa using z1,o,z2,g2⟩
   ·simp only [List.getElem?_cons_succ] at h1 h2
    have:=r2 ws F' φ q1 (λp hp=>q2 p (by simp [hp])) q3 q4 q5 k key s ty m' h1 h2
    simpa using this
end
theorem Gu {α : Type} {l : List α} {q i : Nat} {x : α} (h : (l.take q)[i]? = some x) : l[i]? = some x:=by
 rw [List.getElem?_take] at h
 split at h
 ·exact h
 ·cases h
theorem IU (ptr : List (Nat × (Nat × Nat))) : ∀ (j : Nat) (ds : List D),∀ p ∈ Gf ptr j ds,∀ v o,p.2 = some (v,o) -> o.fz = false
 | _,[],p,hp=>by cases hp
 | j,d :: r,p,hp=>by
  unfold Gf at hp
  rcases List.mem_append.1 hp with hp | hp
  ·intro v o e
   split at hp
   ·simp only [List.mem_singleton] at hp; subst hp; cases e; rfl
   ·cases hp
  ·exact IU ptr (j + 1) r p hp
theorem Ig (ptr : List (Nat × (Nat × Nat))) : ∀ (j : Nat) (ds : List D),∀ p ∈ Cv ptr j ds,∀ v o,p.2 = some (v,o) -> o.fz = false
 | _,[],p,hp=>by cases hp
 | j,d :: r,p,hp=>by
  unfold Cv at hp
  rcases List.mem_append.1 hp with hp | hp
  ·intro v o e
   split at hp
   ·simp only [List.mem_singleton] at hp; subst hp; cases e; rfl
   ·split at hp
    ·exact IU ptr _ _ p hp v o e
    ·cases hp
  ·exact Ig ptr (j + 1) r p hp
theorem JP {sp : Spec} {ds : List D} {PB : Bt} {F : Fz} {w : World} {a : Act} {M : Nat -> Prop} {B0 : Bt} {F0 : Fz} {w0 : World} (h : Sim N w0 F0 M B0 (DB sp ds) F PB a w) : ∀ g v o,(DB sp ds).go g = some (v,o) -> o.s ≠ 0:=by
 intro g v o hg
 refine h.GM hg ?_
 have hl : look (DB sp ds).o g = some (some (v,o)):=by
  unfold S.go at hg
  cases hx : look (DB sp ds).o g with
  | none=>rw [hx] at hg; cases hg
  | some x=>rw [hx] at hg; simp only [Option.getD_some] at hg; rw [hg]
 exact Ig sp.ptr 0 ds _ (Ba hl) v o rfl
theorem MZ {Γ : Ar} (hΓ : ∀ k sp,Γ k = some sp -> OM P (k % 4096) sp) {f : Nat} {fn : Func} {c : Code} {sp : Spec} {dc : Pf} {rs : List AS} (hf : P.funcs[f]? = some fn) (hname : (fn.name == "runtime.NumGoroutine") = false) (hb : fn.body = some c)
  (hc : PD P fn.ntmps c = some dc) (hr : fn.results.toList.mapM (RJ P) = some rs) {np : Nat} (hnp : np <= fn.ntmps) (hpre : ∀ ds,sp.pre ds -> ds.length = np /\ BE sp.ptr 0 ds = sp.ptr.map Prod.fst) (hptr : EA sp.ptr = true) (hok : LF Γ sp np rs dc) (hni : BH sp.kind = none) (hno : Dp sp.kind = none:=by rfl) : OM P f sp:=by
 intro F00 hG0
 refine ⟨⟨fn,hf,hname,by rw [hb]; rfl⟩,(λq hq=>by rw [hni] at hq; cases hq),λ_ _ w F ds xs Mb hsub0 hF hfin hA hp=>?_,λφ hφ=>by rw [hno] at hφ; cases hφ⟩
 have hΓ : ∀ k sp,Γ k = some sp -> BA P F (k % 4096) sp:=λk sp h=>hΓ k sp h F (hG0.mono hsub0)
 have hlen : ds.length = xs.length:=by
  clear hp
  generalize 0 = j at hA
  induction hA with
  | nil=>rfl
  | val _ _ _ _ _ _ _ _ _ _ ih=>simp [ih]
  | ptr _ _ _ _ _ _ _ _ _ _ ih=>simp [ih]
  | clo _ _ _ _ _ _ _ _ _ _ _ _ ih=>simp [ih]
 obtain ⟨hdl,hkeys⟩:=hpre ds hp
 obtain ⟨PB,K,hS,hfresh,hnam,hKl,hKf,hKp⟩:=Lx (N:=fn.ntmps) (k:=fn.ntmps - xs.length) hF hfin hA (by omega) hptr hkeys
 refine calls_of_wp hf hb ?_
 have e0 : (xs.toArray.size) = xs.length:=by simp
 rw [e0]
 obtain ⟨τ0,hchg0,hok0⟩:=hok ds hp ⟨hdl,hkeys⟩
 obtain ⟨F00,B00,hS0,hfresh0⟩:=(AB.of hS (Nat.le_refl _) (JP hS)).chg hfresh hchg0
 refine wp_mono (BM hΓ c dc hc _ τ0 F00 B00 _ w hS0 hfresh0 hok0) λe a' w' hq=>?_
 obtain ⟨τ1,F1,β1,k1',kf1,k3⟩:=hq
 replace k1':=k1'.sim
 have fin0 : ∀ τ F' β',Sim fn.ntmps { w with drawn:=w.heap.size } F (Wr Mb) PB τ F' β' a' w' -> Cj sp rs ds τ -> (a'.defers = [] /\ ∃ v,(results fn a'.tmps).run P w' = .ok v w' /\ CJ sp w F ds Mb (.returned v) w'):=by
  intro τ F' β' k1
  rintro ⟨r1,r2,r3⟩
  have hpl : sp.ptr.length = Mb.length:=by
   have:=congrArg List.length hKf
   simpa [hKl] using this.symm
  have hnd : (sp.ptr.map Prod.fst).Nodup:=by
   simp only [EA,Bool.and_eq_true,decide_eq_true_eq] at hptr
   exact hptr.2
  have hBk : ∀ (k : Nat) key s ty m,sp.ptr[k]? = some (key,(s,ty)) -> Mb[k]? = some m -> s = m.s /\ ty = m.ty /\ β' key = some ⟨some m.b,1,m.s⟩:=by
   intro k key s ty m h1 h2
   have hkl : k < K.length:=by rw [hKl]; exact (List.getElem?_eq_some_iff.1 h2).1
   obtain ⟨⟨key',d⟩,hK⟩ : ∃ p,K[k]? = some p:=⟨_,List.getElem?_eq_getElem hkl⟩
   have e1 : (K.map Prod.fst)[k]? = some key':=by simp [hK]
   have e2 : (sp.ptr.map Prod.fst)[k]? = some key:=by simp [h1]
   rw [hKf,e2] at e1
   cases e1
   have hl:=hKp k key d m hK h2
   have hl2 : look sp.ptr key = some (s,ty):=by
    cases hq : look sp.ptr key with
    | none=>exact absurd (List.mem_of_getElem? h1) (DR hq _)
    | some y =>
     have hm:=Ba hq
     obtain ⟨k',hk'⟩:=List.getElem?_of_mem hm
     have e3 : (sp.ptr.map Prod.fst)[k']? = some key:=by simp [hk']
     have:=(List.getElem?_inj (List.getElem?_eq_some_iff.1 e2).1 hnd).1 (e2.trans e3.symm)
     subst this
     rw [h1] at hk'; cases hk'; rfl
   rw [hl2] at hl
   cases hl
   exact ⟨rfl,rfl,k1.nam _ _ (hnam k key d m hK h2)⟩
  obtain ⟨fe,ge,be⟩:=IW k1 sp.ptr Mb hpl hBk r1
  have ending : ∀ (ws : List (Nat × Ac)) (v : Value) (ρ : Nat -> Prop),Ao τ ws -> (∀ p ∈ ((BG sp.ptr).run τ).2.2,p ∈ ws) -> (∀ F2 φ,Af F' F2 -> Sim fn.ntmps { w with drawn:=w.heap.size } F (Wr Mb) PB ⟨τ.e,ws ++ τ.o,τ.n⟩ F2 β' a' w' -> AE F2 β' w.heap.size (Wr Mb) ⟨τ.e,ws ++ τ.o,τ.n⟩ w' φ -> LG w F2 w' (sp.res ds) v (λb=>ρ b \/ (Mb = [] /\ ∃ g i j,φ g i j b)) sp.kind /\ (Mb ≠ [] -> ∀ g j b,φ g 0 j b -> ¬ ρ b)) ->
    CJ sp w F ds Mb (.returned v) w':=by
   intro ws v ρ hws hsub hres
   obtain ⟨F2,hF2,hS2,_⟩:=k1.freeze hws
   obtain ⟨φ,hφ⟩:=hS2.Ab
   obtain ⟨q1,q2⟩:=hres F2 φ hF2 hS2 hφ
   have hbe:=be ws F2 φ hws hsub hF2 hS2 hφ
   have hpk : ∀ (k : Nat) m,Mb[k]? = some m -> ∃ key s ty,sp.ptr[k]? = some (key,(s,ty)):=by
    intro k m hk
    have hlt : k < sp.ptr.length:=by rw [hpl]; exact (List.getElem?_eq_some_iff.1 hk).1
    exact ⟨_,_,_,List.getElem?_eq_getElem hlt⟩
   refine ⟨v,F2,λk j b=>∃ key st m,sp.ptr[k]? = some (key,st) /\ Mb[k]? = some m /\ φ (8192 + key) 0 j b,_,rfl,hS2.frz,hS2.fin,⟨hS2.step.os,hS2.step.tape,hS2.step.output,hS2.step.size,hS2.step.block,hS2.step.sub,hS2.step.old⟩,q1,?_,?_⟩
   ·rw [<- r2]
    refine ⟨λk m hk=>?_,λk j b ⟨key,st,m,h1,h2,_⟩=>(List.getElem?_eq_some_iff.1 h2).1,λk j b ⟨key,st,m,h1,h2,h3⟩=>hφ.new _ _ _ _ h3,λk j k' j' b ⟨key,st,m,h1,h2,h3⟩ ⟨key',st',m',h1',h2',h3'⟩=>?_,λk j b m ⟨key,st,m1,h1,h2,h3⟩ hm e=>?_⟩
    ·obtain ⟨key,s,ty,hp⟩:=hpk k m hk
     have hz:=(hbe k key s ty m hp hk).1
     refine ⟨hz.var,hz.none_,hz.lt,?_,?_,?_,?_,?_,hz.hole⟩
     ·rintro j b ⟨key',st,m',h1,h2,h3⟩
      rw [hp] at h1; cases h1
      exact hz.fno j b h3
     ·rintro j b ⟨key',st,m',h1,h2,h3⟩
      rw [hp] at h1; cases h1
      exact hz.flt j b h3
     ·rintro j b ⟨key',st,m',h1,h2,h3⟩
      rw [hp] at h1; cases h1
      exact hz.fne j b h3
     ·rintro j j' b ⟨key',st,m',h1,h2,h3⟩ ⟨key'',st',m'',h1',h2',h3'⟩
      rw [hp] at h1; cases h1
      rw [hp] at h1'; cases h1'
      exact hz.dis j j' b h3 h3'
     ·intro C j x s' ty' es hC hj hx
      exact (hz.row C j x s' ty' es hC hj hx).OV (Af.refl _) (λ_ _=>rfl) (λb hb=>⟨key,(s,ty),m,hp,hk,hb⟩)
    ·have hkk:=(hφ.dis _ _ _ _ _ _ _ h3 h3').1
     have : key = key':=by omega
     subst this
     have e2 : (sp.ptr.map Prod.fst)[k]? = some key:=by simp [h1]
     have e3 : (sp.ptr.map Prod.fst)[k']? = some key:=by simp [h1']
     exact (List.getElem?_inj (List.getElem?_eq_some_iff.1 e2).1 hnd).1 (e2.trans e3.symm)
    ·obtain ⟨k',hk'⟩:=List.getElem?_of_mem hm
     obtain ⟨key',s',ty',hp'⟩:=hpk k' m hk'
     obtain ⟨_,o',z1,z2⟩:=hbe k' key' s' ty' m hp' hk'
     obtain ⟨_,_,hβ⟩:=hBk k' key' s' ty' m hp' hk'
     subst e
     exact hφ.sep _ _ _ _ _ _ _ _ h3 z1 z2 hβ rfl
   ·rintro k j b ⟨key,st,m,h1,h2,h3⟩ (hρ | ⟨hM0,_⟩)
    ·exact q2 (λe=>by rw [e] at h2; simp at h2) _ _ _ h3 hρ
    ·rw [hM0] at h2; simp at h2
  refine ⟨k1.defers,?_⟩
  have one : (sp.kind = .val \/ sp.kind = .ground) -> ∀ r,rs = [r] -> ((DY r).run τ).1 -> ((DY r).run τ).2.1 = sp.res ds -> ∃ v,(results fn a'.tmps).run P w' = .ok v w' /\ CJ sp w F ds Mb (.returned v) w':=by
   rintro hk r rfl c1 c2
   simp only [DY,R.run_bind,R.run_pure] at c1 c2
   obtain ⟨d1,d2⟩:=c1
   obtain ⟨vs,v1,v2,v3⟩:=BU (P:=P) k1 hr (λr' hr'=>by simp only [List.mem_singleton] at hr'; subst hr'; exact d1)
   have hl1 : vs.length = 1:=v2
   rw [dif_pos hl1] at v1
   refine ⟨_,v1,?_⟩
   have hval:=v3 0 r vs[0] rfl (List.getElem?_eq_getElem (by omega))
   obtain ⟨f1,g1⟩:=Fh k1 _ hval d2
   refine ending (((res ((OO r).run τ).2).run τ).2.2 ++ ((BG sp.ptr).run τ).2.2) _ (λ_=>False) (f1.append fe) (λp hp=>by simp [hp]) (λF2 φ hF2 hS2 _=>⟨?_,λ_ _ _ _ _=>id⟩)
   have:=g1 _ F2 (f1.append fe) (λp hp=>by simp [hp]) hF2 hS2
   rw [c2] at this
   rcases hk with hk | hk <;> (rw [hk]; exact this)
  have many : (sp.kind = .val \/ sp.kind = .ground) -> ((AG rs).run τ).1 -> .tup ((AG rs).run τ).2.1 = sp.res ds -> rs.length ≠ 1 -> ∃ v,(results fn a'.tmps).run P w' = .ok v w' /\ CJ sp w F ds Mb (.returned v) w':=by
   intro hk c1 c2 c3
   obtain ⟨vs,v1,v2,v3⟩:=BU (P:=P) k1 hr (Dq rs c1)
   have hl1 : ¬ vs.length = 1:=by rw [v2]; exact c3
   rw [dif_neg hl1] at v1
   refine ⟨_,v1,?_⟩
   obtain ⟨f1,l1,g1⟩:=EB k1 rs vs v2.symm (λi r v h1 h2 _=>v3 i r v h1 h2) c1
   refine ending (((AG rs).run τ).2.2 ++ ((BG sp.ptr).run τ).2.2) _ (λ_=>False) (f1.append fe) (λp hp=>by simp [hp]) (λF2 φ hF2 hS2 _=>⟨?_,λ_ _ _ _ _=>id⟩)
   have hh:=g1 _ F2 (f1.append fe) (λp hp=>by simp [hp]) hF2 hS2
   have : Fro F2 (sp.res ds) (.tuple vs.toArray):=by
    rw [<- c2]
    exact .tup _ vs l1 hh
   rcases hk with hk | hk <;> (rw [hk]; exact this)
  cases hk : sp.kind with
  | inpl r fl fk=>rw [hk] at hni; cases hni
  | opn q=>rw [hk] at hno; cases hno
  | val =>
   rw [hk] at r3
   match rs,r3,one,many with
   | [r],r3,one,_=>exact one (.inl hk) r rfl r3.1 r3.2
   | [],r3,_,many=>exact many (.inl hk) r3.1 r3.2.1 r3.2.2
   | _ :: _ :: _,r3,_,many=>exact many (.inl hk) r3.1 r3.2.1 r3.2.2
  | ground =>
   rw [hk] at r3
   match rs,r3,one,many with
   | [r],r3,one,_=>exact one (.inr hk) r rfl r3.1 r3.2
   | [],r3,_,many=>exact many (.inr hk) r3.1 r3.2.1 r3.2.2
   | _ :: _ :: _,r3,_,many=>exact many (.inr hk) r3.1 r3.2.1 r3.2.2
  | row s ty =>
   rw [hk] at r3
   match rs,r3,hr with
   | [r],⟨d1,d2,d3,d4⟩,hr =>
    obtain ⟨vs,v1,v2,v3⟩:=BU (P:=P) k1 hr (λr' hr'=>by simp only [List.mem_singleton] at hr'; subst hr'; exact d1)
    have hl1 : vs.length = 1:=v2
    rw [dif_pos hl1] at v1
    refine ⟨_,v1,?_⟩
    have hval:=v3 0 r vs[0] rfl (List.getElem?_eq_getElem (by omega))
    obtain ⟨es,L,g,v,o,g1,g2,n1,n2,n3,n4,n5,n6,n7,g3⟩:=Jl k1 (Nat.le_refl _) hval d2
    refine ending _ _ (λb=>L.b = some b) fe (λp hp=>hp) (λF2 φ hF2 hS2 hφ=>?_)
    obtain ⟨g4,g6,g5⟩:=g3 _ F2 d4 hF2 hS2
    rw [hk]
    refine ⟨⟨es,L,d3.symm.trans g1,g2,g4,λb hb=>⟨((g5 b hb).1).resolve_right (λz=>by cases z.1),(g5 b hb).2.1,(g5 b hb).2.2,.inl hb⟩⟩,λ_ g' j b hb hLb=>?_⟩
    exact hφ.sep g' 0 j b g v o L hb g6 n2 n5 hLb
   | [],r3,_=>exact r3.elim
   | _ :: _ :: _,r3,_=>exact r3.elim
  | mat s ty =>
   rw [hk] at r3
   match rs,r3,hr with
   | [r],⟨d1,d2,d3,d4⟩,hr =>
    obtain ⟨vs,v1,v2,v3⟩:=BU (P:=P) k1 hr (λr' hr'=>by simp only [List.mem_singleton] at hr'; subst hr'; exact d1)
    have hl1 : vs.length = 1:=v2
    rw [dif_pos hl1] at v1
    refine ⟨_,v1,?_⟩
    have hval:=v3 0 r vs[0] rfl (List.getElem?_eq_getElem (by omega))
    have hM0 : Mb = []:=Dz d4 hA
    have hpe : (BG sp.ptr).run τ = (True,[],[]):=by rw [d4]; rfl
    obtain ⟨es,L,g,v,o,g1,g2,n1,n2,n3,n4,n5,⟨n0,rfl⟩,n7,g3⟩:=Jl k1 (Nat.le_refl _) hval d2
    refine ending [] _ (λb=>L.b = some b) (Ao.nil _) (λp hp=>by rw [hpe] at hp; cases hp) (λF2 φ hF2 hS2 hφ=>?_)
    obtain ⟨g4,g6,g5⟩:=g3 [] F2 (by simp) hF2 hS2
    have hidx : ∀ (i : Nat) e,(o.es.take n0)[i]? = some e -> o.es[i]? = some e:=λi e he=>Gu he
    have hnew : ∀ b,w.heap.size <= b \/ Wr Mb b -> w.heap.size <= b:=by
     rintro b (hb | ⟨m,hm,_⟩)
     ·exact hb
     ·rw [hM0] at hm; cases hm
    rw [hk]
    refine ⟨⟨_,L,λi j b=>φ g i j b,d3.symm.trans g1,g2,g4,λb hb=>⟨hnew b ((g5 b hb).1.imp id And.right),(g5 b hb).2.1,(g5 b hb).2.2,.inl hb⟩,λi j b hb=>⟨hnew b (hφ.new _ _ _ _ hb),hφ.lt _ _ _ _ hb,hφ.none_ _ _ _ _ hb,.inr ⟨hM0,g,i,j,hb⟩,hφ.sep g i j b g v o L hb g6 n2 n5⟩,
     λi j i' j' b h1 h2=>(hφ.dis _ _ _ _ _ _ _ h1 h2).2,λb C i j e x s' ty' es' hb hC he hj hx=>hφ.row g v o L b C i j e x s' ty' es' n1 g6 n2 n5 hb (by rw [n4]; exact hC) (hidx i e he) hj (by rw [n3]; exact hx),λi j e nm u n he hj=>n7 rfl e (List.mem_of_getElem? (hidx i e he)) _ (List.mem_of_getElem? hj) nm u n rfl⟩,λhne=>absurd hM0 hne⟩
   | [],r3,_=>exact r3.elim
   | _ :: _ :: _,r3,_=>exact r3.elim
  | ptr s ty =>
   rw [hk] at r3
   match rs,r3,hr with
   | [r],⟨d1,d2,d3,d4⟩,hr =>
    obtain ⟨vs,v1,v2,v3⟩:=BU (P:=P) k1 hr (λr' hr'=>by simp only [List.mem_singleton] at hr'; subst hr'; exact d1)
    have hl1 : vs.length = 1:=v2
    rw [dif_pos hl1] at v1
    refine ⟨_,v1,?_⟩
    have hval:=v3 0 r vs[0] rfl (List.getElem?_eq_getElem (by omega))
    obtain ⟨f1,g,v,o,b,g1,g2,g3,g4,g5,g6,g7⟩:=Jk k1 (Nat.le_refl _) hval d2
    refine ending (((Cf s ty ((OO r).run τ).2).run τ).2.2.1 ++ ((BG sp.ptr).run τ).2.2) _ (λb'=>b' = b) (f1.append fe) (λp hp=>by simp [hp]) (λF2 φ hF2 hS2 hφ=>?_)
    obtain ⟨z1,z2,z3,z4,v',o',z5,z6,z7⟩:=g7 _ F2 (f1.append fe) (λp hp=>by simp [hp]) hF2 hS2
    rw [hk]
    refine ⟨⟨b,g6,by rw [<- d3]; exact z1,z4.resolve_right (λz=>by rw [g1] at d4; rw [d4] at z; cases z.2),z3,z2,.inl rfl⟩,λ_ g' j b' hb e=>?_⟩
    subst e
    exact hφ.sep g' 0 j _ g v' o' _ hb z5 z6 z7 rfl
   | [],r3,_=>exact r3.elim
   | _ :: _ :: _,r3,_=>exact r3.elim
  | tupPtr q s ty =>
   rw [hk] at r3
   have r3' : q < rs.length /\ rs.length ≠ 1 /\ sp.ptr = [] /\ ((AG (rs.take q)).run τ).1 /\ ((AG (rs.drop (q + 1))).run τ).1 /\ ((OO (rs.getD q (.t 0))).run τ).1 /\ ((Cf s ty ((OO (rs.getD q (.t 0))).run τ).2).run τ).1 /\
     .tup (((AG (rs.take q)).run τ).2.1 ++ ((Cf s ty ((OO (rs.getD q (.t 0))).run τ).2).run τ).2.1 :: ((AG (rs.drop (q + 1))).run τ).2.1) = sp.res ds:=by
    cases rs with
    | nil=>exact r3
    | cons r0 rs=>cases rs <;> exact r3
   obtain ⟨t1,t2,t3,t4,t5,t6,t7,t8⟩:=r3'
   have hq : rs[q]? = some (rs.getD q (.t 0)):=by simp [t1]
   generalize rs.getD q (.t 0) = rq at *
   have hsplit : rs = rs.take q ++ rq :: rs.drop (q + 1):=by
    obtain ⟨hl,he⟩:=List.getElem?_eq_some_iff.1 hq
    rw [<- he,<- List.drop_eq_getElem_cons hl,List.take_append_drop]
   have conds : ∀ r ∈ rs,((OO r).run τ).1:=by
    intro r hr'
    rw [hsplit,List.mem_append,List.mem_cons] at hr'
    rcases hr' with h1 | rfl | h1
    ·exact Dq _ t4 r h1
    ·exact t6
    ·exact Dq _ t5 r h1
   obtain ⟨vs,v1,v2,v3⟩:=BU (P:=P) k1 hr conds
   rw [dif_neg (by rw [v2]; exact t2)] at v1
   refine ⟨_,v1,?_⟩
   have hvl : q < vs.length:=by omega
   have hvq : vs[q]? = some vs[q]:=List.getElem?_eq_getElem hvl
   obtain ⟨fP,g,v,o,b,g1,g2,g3,g4,g5,g6,g7⟩:=Jk k1 (Nat.le_refl _) (v3 q rq vs[q] hq hvq) t7
   obtain ⟨fA,lA,gA⟩:=EB k1 (rs.take q) (vs.take q) (by simp [v2]) (λi r v h1 h2 _=>v3 i r v (Gu h1) (Gu h2)) t4
   obtain ⟨fB,lB,gB⟩:=EB k1 (rs.drop (q + 1)) (vs.drop (q + 1)) (by simp [v2]) (λi r v h1 h2 _=>v3 (q + 1 + i) r v (by rw [<- List.getElem?_drop]; exact h1) (by rw [<- List.getElem?_drop]; exact h2)) t5
   refine ending (((AG (rs.take q)).run τ).2.2 ++ (((Cf s ty ((OO rq).run τ).2).run τ).2.2.1 ++ (((AG (rs.drop (q + 1))).run τ).2.2 ++ ((BG sp.ptr).run τ).2.2))) _ (λb'=>b' = b) (fA.append (fP.append (fB.append fe))) (λp hp=>by simp [hp]) (λF2 φ hF2 hS2 _=>⟨?_,λhne=>absurd (Dz t3 hA) hne⟩)
   have hws:=fA.append (fP.append (fB.append fe))
   obtain ⟨z1,z2,z3,z4⟩:=g7 _ F2 hws (λp hp=>by simp [hp]) hF2 hS2
   have zA:=gA _ F2 hws (λp hp=>by simp [hp]) hF2 hS2
   have zB:=gB _ F2 hws (λp hp=>by simp [hp]) hF2 hS2
   have lA' : ((AG (rs.take q)).run τ).2.1.length = q:=by rw [lA]; simp; omega
   rw [hk]
   refine ⟨_,vs,b,t8.symm,rfl,?_,?_,?_,?_,?_,z3,z2,.inl rfl⟩
   ·simp only [List.length_append,List.length_cons,lA',lB,List.length_drop]; omega
   ·intro j c x hj hc hx
    rcases Nat.lt_trichotomy j q with h1 | h1 | h1
    ·rw [List.getElem?_append_left (by omega)] at hc
     exact zA j c x hc (by rw [List.getElem?_take]; simp [h1,hx])
    ·exact absurd h1 hj
    ·obtain ⟨i,rfl⟩ : ∃ i,j = q + 1 + i:=⟨j - (q + 1),by omega⟩
     rw [List.getElem?_append_right (by omega),lA',show q + 1 + i - q = i + 1 by omega,List.getElem?_cons_succ] at hc
     exact zB i c x hc (by rw [List.getElem?_drop]; exact hx)
   ·rw [hvq,g6]
   ·rw [List.getD_eq_getElem?_getD,List.getElem?_append_right (by omega),lA',Nat.sub_self]
    exact z1
   ·rcases z4.1 with z4 | ⟨⟨m,hm,_⟩,_⟩
    ·exact z4
    ·rw [Dz t3 hA] at hm; cases hm
 have fin : Wk (Cj sp rs ds) τ1 -> (a'.defers = [] /\ ∃ v,(results fn a'.tmps).run P w' = .ok v w' /\ CJ sp w F ds Mb (.returned v) w'):=by
  rintro ⟨τ,hc1,hr1⟩
  obtain ⟨F',β',k1,_⟩:=k1'.chg kf1 hc1
  exact fin0 τ F' β' k1 hr1
 cases e with
 | normal=>exact fin k3
 | ret=>exact fin k3
 | exit id=>exact k3.elim
 | goto l=>exact k3.elim
 | panic ch=>exact k3.elim
 | outgrown=>exact k3.elim
end
end Go.Dw
namespace Go.Dw
theorem MB {P : Program} {Γ : Ar} (hΓ : ∀ k sp,Γ k = some sp -> OM P (k % 4096) sp) {f : Nat} {fn : Func} {sp : Spec} {dc : Pf} {rs : List AS} (hf : P.funcs[f]? = some fn) (hname : (fn.name == "runtime.NumGoroutine") = false)
  (hc : (fn.body.bind (PD P fn.ntmps)) = some dc) (hr : fn.results.toList.mapM (RJ P) = some rs) {np : Nat} (hnp : np <= fn.ntmps) (hpre : ∀ ds,sp.pre ds -> ds.length = np /\ BE sp.ptr 0 ds = sp.ptr.map Prod.fst) (hptr : EA sp.ptr = true) (hok : LF Γ sp np rs dc) (hni : BH sp.kind = none) (hno : Dp sp.kind = none:=by rfl) : OM P f sp:=by
 rw [Option.bind_eq_some_iff] at hc
 obtain ⟨c,hb,hc⟩:=hc
 exact MZ hΓ hf hname hb hc hr hnp hpre hptr hok hni hno
def specs (l : List (Nat × Spec)) : Ar:=λk=>look l k
theorem Pe {P : Program} {l : List (Nat × Spec)} (h : ∀ p ∈ l,OM P (p.1 % 4096) p.2) : ∀ k sp,specs l k = some sp -> OM P (k % 4096) sp:=λ_k _sp hk=>h _ (Ba hk)
theorem Qp {P : Program} : ∀ k sp,specs [] k = some sp -> OM P (k % 4096) sp:=Pe (λ_ h=>by cases h)
theorem XI {n : Int} (h0 : -9223372036854775808 <= n) (h1 : n <= 9223372036854775807) : IntKind.i64.wrap n = n:=by
 rw [IntKind.wrap_i64]; omega
end Go.Dw
namespace Go.Dw
def DI : Nat -> List D -> List (Nat × D)
 | _,[]=>[]
 | j,d :: r=>(j,d) :: DI (j + 1) r
theorem Hv : ∀ (ds : List D) (j t : Nat),look (DI j ds) t = if j <= t then ds[t - j]? else none
 | [],j,t=>by simp [DI,look]
 | d :: r,j,t=>by
  simp only [DI,look,Hv r (j + 1) t]
  by_cases h : t = j
  ·subst h; simp
  ·rw [if_neg h]
   by_cases h2 : j + 1 <= t
   ·rw [if_pos h2,if_pos (by omega),show t - j = (t - (j + 1)) + 1 by omega,List.getElem?_cons_succ]
   ·rw [if_neg h2,if_neg (by omega)]
def Te : D -> Bool
 | .agg _ | .tup _ | .when ..=>false
 | _=>true
def OX (rs : List AS) (τ : S) : Prop × D :=
 match rs with
 | [r]=>(((OO r).run τ).1,((OO r).run τ).2)
 | rs=>((∀ r ∈ rs,((OO r).run τ).1) /\ (rs.map λr=>((OO r).run τ).2).all Te = true,.tup (rs.map λr=>((OO r).run τ).2))
def Ik (rs : List AS) (e : List (Nat × D)) (K : D -> S -> Prop) : Au -> S -> Prop:=λx τ =>
 match x with
 | .exit _=>False
 | _=>Wk (λτ=>(OX rs τ).1 /\ K (OX rs τ).2 ⟨e,τ.o,τ.n⟩) τ
def Ln (Γ : Ar) (np : Nat) (rs : List AS) (dc : Pf) : List D -> S -> (D -> S -> Prop) -> Prop:=λds σ K =>
 ds.length = np /\ Wk (DWp Γ dc (Ik rs σ.e K)) ⟨DI 0 ds,σ.o,σ.n⟩
def Tv (Γ : Ar) (np : Nat) (rs : List AS) (dc : Pf) : Spec:=⟨[],.opn (Ln Γ np rs dc),λ_=>False,λ_=>.top,λ_=>[]⟩
theorem LD {F : Fz} {β : Bt} {d : D} {x : Value} (h : Val F β d x) (ht : Te d = true) : Cel F β d x:=by
 cases d <;> first | exact h | cases ht
theorem SW {P : Program} {Γ : Ar} (hΓ : ∀ k sp,Γ k = some sp -> OM P (k % 4096) sp) {f : Nat} {fn : Func} {dc : Pf} {rs : List AS} (hf : P.funcs[f]? = some fn) (hname : (fn.name == "runtime.NumGoroutine") = false)
  (hc : (fn.body.bind (PD P fn.ntmps)) = some dc) (hr : fn.results.toList.mapM (RJ P) = some rs) {np : Nat} (hnp : np <= fn.ntmps) : OM P f (Tv Γ np rs dc):=by
 rw [Option.bind_eq_some_iff] at hc
 obtain ⟨c,hb,hc⟩:=hc
 intro F0 hG
 refine ⟨⟨fn,hf,hname,by rw [hb]; rfl⟩,λq hq=>(by cases hq),λ_ h=>(by cases h),λφ hφ=>?_⟩
 cases hφ
 rintro F0' hF0' N w0 M B0 σ F β a w ds vs K hM hfr hl hv ⟨hn,τ0,hchg,hw⟩
 have h:=hM.sim
 obtain ⟨w1,F1',M1,B1,hb1,h1,hm1⟩:=hM
 have hΓ' : ∀ k sp,Γ k = some sp -> BA P F (k % 4096) sp:=λk sp hk=>hΓ k sp hk F (hG.mono (hF0'.trans h.step.sub))
 have hS : Sim fn.ntmps w1 F M1 β ⟨DI 0 ds,σ.o,σ.n⟩ F β { tmps:=vs.toArray ++ Array.replicate (fn.ntmps - vs.toArray.size) undef,defers:=[] } w:=by
  refine { nam:=At.refl _,size:=by simp; omega,defers:=rfl,env:=λt=>?_,own:=h1.own,dist:=h1.dist,sep:=h1.sep,Ab:=?_,frz:=h1.frz,fin:=h1.fin,step:=⟨h1.step.os,h1.step.tape,h1.step.output,h1.step.size,h1.step.block,Af.refl _,λ_ _ _ _=>rfl⟩ }
  ·simp only [S.ge,Hv,Nat.zero_le,if_true,Nat.sub_zero]
   by_cases ht : t < ds.length
   ·have h1 : ds[t]? = some ds[t]:=List.getElem?_eq_getElem ht
    have h2 : vs[t]? = some (vs[t]'(by omega)):=List.getElem?_eq_getElem _
    rw [h1]
    have e : (vs.toArray ++ Array.replicate (fn.ntmps - vs.toArray.size) undef).getD t undef = vs[t]'(by omega):=by
     rw [Array.getD_eq_getD_getElem?,Array.getElem?_append_left (by simp; omega)]
     simp [h2]
    rw [e]
    exact Env.Ak (hv t _ _ h1 h2)
   ·rw [List.getElem?_eq_none (by omega)]
    exact Env.top _
  ·obtain ⟨φ,hφ⟩:=h1.Ab
   exact ⟨φ,hφ.congr λ_=>rfl⟩
 have hbase : CY w0 F M β w1 F M1 β:=⟨⟨hb1.stp.os,hb1.stp.tape,hb1.stp.output,hb1.stp.size,hb1.stp.block,Af.refl _,λ_ _ _ _=>rfl⟩,hb1.new,At.refl _,hb1.mark⟩
 have hSM : AB fn.ntmps w0 F M β ⟨DI 0 ds,σ.o,σ.n⟩ F β { tmps:=vs.toArray ++ Array.replicate (fn.ntmps - vs.toArray.size) undef,defers:=[] } w :=
  ⟨w1,F,M1,β,hbase,hS,λg v o hg h0=>by
   obtain ⟨q1,b,q2,q3,q4,q5,q6,q7⟩:=hm1.at_ g v o hg h0
   exact ⟨q1,b,h1.nam _ _ q2,q3,q4,λi=>(h1.step.old b i q3 q4).trans (q5 i),q6,q7⟩,λg g' v v' o o' b hg hg' h0 h0' e1 e2=>by
   obtain ⟨_,b1,q2,_⟩:=hm1.at_ g v o hg h0
   obtain ⟨_,b2,q2',_⟩:=hm1.at_ g' v' o' hg' h0'
   have z1:=h1.nam _ _ q2
   have z2:=h1.nam _ _ q2'
   rw [e1] at z1; cases z1
   rw [e2] at z2; cases z2
   exact hm1.dis g g' v v' o o' b hg hg' h0 h0' q2 q2'⟩
 refine calls_of_wp hf hb ?_
 obtain ⟨F1,β1,hS1,hfr1⟩:=hSM.chg hfr hchg
 refine wp_mono (BM hΓ' c dc hc _ τ0 F1 β1 _ w hS1 hfr1 hw) λe a' w' hq=>?_
 obtain ⟨τ1,F2,β2,k1,k2,k3⟩:=hq
 have fin : Wk (λτ=>(OX rs τ).1 /\ K (OX rs τ).2 ⟨σ.e,τ.o,τ.n⟩) τ1 -> (a'.defers = [] /\ ∃ v,(results fn a'.tmps).run P w' = .ok v w' /\ ∃ v' d o' n' F' β',Ending.returned v = .returned v' /\ AB N w0 F0' M B0 ⟨σ.e,o',n'⟩ F' β' a w' /\ (∀ v,n' <= v -> β' v = none) /\ Val F' β' d v' /\ K d ⟨σ.e,o',n'⟩):=by
  rintro ⟨τ,hc1,hr1,hk⟩
  obtain ⟨F',β',zM,z2⟩:=k1.chg k2 hc1
  obtain ⟨w2,F2',M2,B2,hb2,z1,hm2⟩:=zM
  have hall : ∀ r ∈ rs,((OO r).run τ).1:=by
   unfold OX at hr1
   split at hr1
   ·intro r hr; simp only [List.mem_singleton] at hr; subst hr; exact hr1
   ·exact hr1.1
  obtain ⟨xs,r1,r2,r3⟩:=BU (P:=P) z1 (fn:=fn) hr hall
  refine ⟨z1.defers,_,r1,_,(OX rs τ).2,τ.o,τ.n,F',β',rfl,?_,z2,?_,hk⟩
  ·refine ⟨w2,F2',M2,B2,⟨⟨hb2.stp.os,hb2.stp.tape,hb2.stp.output,hb2.stp.size,hb2.stp.block,h.step.sub.trans hb2.stp.sub,λb i hb hM=>(hb2.stp.old b i hb hM).trans (h.step.old b i hb hM)⟩,hb2.new,h.nam.trans hb2.nam,hb2.mark⟩,?_,hm2.sub λg v o hg _=>hg⟩
   refine { nam:=z1.nam,size:=h.size,defers:=h.defers,env:=λt=>(h.env t).mono (hb2.stp.sub.trans z1.step.sub) (hb2.nam.trans z1.nam),own:=z1.own,dist:=z1.dist,sep:=z1.sep,Ab:=?_,frz:=z1.frz,fin:=z1.fin,step:=z1.step }
   obtain ⟨φ,hφ⟩:=z1.Ab
   exact ⟨φ,hφ.congr λ_=>rfl⟩
  ·unfold OX at hr1 ⊢
   split
   ·rename_i r
    have hl1 : xs.length = 1:=by simpa using r2
    rw [dif_pos hl1]
    exact r3 0 r _ rfl (List.getElem?_eq_getElem (by omega))
   ·rename_i hne
    have hl1 : xs.length ≠ 1:=by
     intro e
     rw [r2] at e
     match rs,e with
     | [r],_=>exact hne r rfl
    rw [dif_neg hl1]
    split at hr1
    ·rename_i r; exact (hne r rfl).elim
    refine ⟨xs,rfl,by simp [r2],λj c x hj hx=>?_⟩
    have ht:=List.all_eq_true.1 hr1.2 c (List.mem_of_getElem? hj)
    rw [List.getElem?_map,Option.map_eq_some_iff] at hj
    obtain ⟨r,hj,rfl⟩:=hj
    exact LD (r3 j r x hj hx) ht
 cases e with
 | normal=>exact fin k3
 | ret=>exact fin k3
 | exit id=>exact k3.elim
 | goto l=>exact k3.elim
 | panic ch=>exact k3.elim
 | outgrown=>exact k3.elim
end Go.Dw
namespace Go.Dw
section
variable {ι R : Type} {body : ι -> Option (ι ⊕ R)} {s : ι} {r r' : R} {n m : Nat}
def Si (body : ι -> Option (ι ⊕ R)) : Nat -> ι -> Option R
 | 0,_=>none
 | n + 1,s=>match body s with
  | none=>none
  | some (.inr r)=>some r
  | some (.inl s')=>Si body n s'
theorem Re : Si body (n + 1) s = match body s with
  | none=>none
  | some (.inr r)=>some r
  | some (.inl s')=>Si body n s':=rfl
theorem Ew : ∀ {n m : Nat} {s : ι},Si body n s = some r -> n <= m -> Si body m s = some r
 | 0,_,_,h,_=>by cases h
 | n + 1,0,_,_,h'=>by omega
 | n + 1,m + 1,s,h,h'=>by
  rw [Re] at h ⊢
  cases hb : body s with
  | none=>rw [hb] at h; cases h
  | some x =>
   rw [hb] at h
   cases x with
   | inr y=>exact h
   | inl s'=>exact Ew h (Nat.le_of_succ_le_succ h')
theorem Ky (h : Si body n s = some r) (h' : Si body m s = some r') : r = r':=by
 have h1:=Ew h (Nat.le_max_left n m)
 have h2:=Ew h' (Nat.le_max_right n m)
 rw [h1] at h2
 exact Option.some.inj h2
open Classical in
noncomputable def Pl (body : ι -> Option (ι ⊕ R)) (s : ι) : Option R :=
 if h : ∃ r,∃ n,Si body n s = some r then some (Classical.choose h) else none
theorem Ti : Pl body s = some r ↔ ∃ n,Si body n s = some r:=by
 unfold Pl
 split
 ·rename_i h
  obtain ⟨n,hn⟩:=Classical.choose_spec h
  constructor
  ·intro e
   cases e
   exact ⟨n,hn⟩
  ·rintro ⟨m,hm⟩
   rw [Ky hn hm]
 ·rename_i h
  constructor
  ·intro e; cases e
  ·rintro ⟨n,hn⟩; exact (h ⟨r,n,hn⟩).elim
theorem VV (body : ι -> Option (ι ⊕ R)) (s : ι) : Pl body s = match body s with
  | none=>none
  | some (.inr r)=>some r
  | some (.inl s')=>Pl body s':=by
 apply Option.ext
 intro r
 rw [Ti]
 cases hb : body s with
 | none =>
  simp only [reduceCtorEq,iff_false,not_exists]
  intro n hn
  cases n with
  | zero=>cases hn
  | succ n=>rw [Re,hb] at hn; cases hn
 | some x =>
  cases x with
  | inr y =>
   constructor
   ·rintro ⟨n,hn⟩
    cases n with
    | zero=>cases hn
    | succ n=>rw [Re,hb] at hn; exact hn
   ·intro e; exact ⟨1,by rw [Re,hb]; exact e⟩
  | inl s' =>
   simp only [Ti]
   constructor
   ·rintro ⟨n,hn⟩
    cases n with
    | zero=>cases hn
    | succ n=>rw [Re,hb] at hn; exact ⟨n,hn⟩
   ·rintro ⟨n,hn⟩; exact ⟨n + 1,by rw [Re,hb]; exact hn⟩
theorem VB (I : ι -> Prop) (P : R -> Prop) (μ : ι -> Nat) (h0 : I s)
  (hb : ∀ s,I s -> (∃ s',body s = some (.inl s') /\ I s' /\ μ s' < μ s) \/ ∃ r,body s = some (.inr r) /\ P r) : ∃ r,Pl body s = some r /\ P r:=by
 generalize hk : μ s = k
 induction k using Nat.strongRecOn generalizing s with
 | _ k ih =>
  rw [VV]
  rcases hb s h0 with ⟨s',h1,h2,h3⟩ | ⟨r,h1,h2⟩
  ·rw [h1]
   exact ih (μ s') (by omega) h2 rfl
  ·rw [h1]
   exact ⟨r,rfl,h2⟩
end
def chk {R : Type} (p : Prop) [Decidable p] (t : Option R) : Option R:=if p then t else none
def ixO {α : Type} (l : List α) (i : Int) : Option α:=if i < 0 then none else l[i.toNat]?
def lft {ι R : Type} (t : Option R) : Option (ι ⊕ R):=t.map .inr
def cnt {ι R : Type} (s : ι) : Option (ι ⊕ R):=some (.inl s)
theorem Se {R : Type} {p : Prop} [Decidable p] {t : Option R} (h : p) : chk p t = t:=if_pos h
theorem HV {R : Type} {p : Prop} [Decidable p] {t : Option R} {r : R} (h : chk p t = some r) : p /\ t = some r:=by
 unfold chk at h
 split at h
 ·exact ⟨‹_›,h⟩
 ·cases h
theorem Xe {α : Type} {l : List α} {i : Int} {x : α} (h : ixO l i = some x) : 0 <= i /\ i < l.length /\ l[i.toNat]? = some x:=by
 unfold ixO at h
 split at h
 ·cases h
 ·have:=(List.getElem?_eq_some_iff.1 h).1
  exact ⟨by omega,by omega,h⟩
section
variable {Γ : Ar} {R ι γ : Type}
def Has (σ : S) (E : List (Nat × D)) (O : List (Nat × Ac)) : Prop:=∃ n,Chg σ ⟨E,O,n⟩
def Tr (Γ : Ar) (c : Pf) (K : R -> Au -> S -> Prop) (σ : S) (t : Option R) : Prop:=∀ r,t = some r -> DWp Γ c (K r) σ
def TrX (e : Au) (K : R -> Au -> S -> Prop) (σ : S) (t : Option R) : Prop:=∀ r,t = some r -> K r e σ
abbrev CA:=List Key × List Key × List Nat
structure KR (R : Type) where
 N : Nat
 K : R -> Au -> S -> Prop
def TrO (Γ : Ar) (ops : List Aw) (nv : Nat) (σ : S) (d : Bool) (acc : List CA) (K : KR R) (t : Option R) : Prop :=
 ∀ r,t = some r -> (d = false -> wpS Γ ops nv σ (K.K r .normal)) /\ (d = true -> Dw.wpOps Γ ops nv σ (λτ=>K.K r .normal { τ with n:=K.N }) /\ Eh (acc ++ CS Γ ops nv σ) = true)
def Ex (N : Nat) (K : R -> Au -> S -> Prop) : KR R:=⟨N,K⟩
def Ii (Γ : Ar) (b : Pf) (K : R -> Au -> S -> Prop) : R -> Au -> S -> Prop:=λr=>Au.then (Wk (DWp Γ b (K r))) (K r)
def Gj (id : Nat) (K : R -> Au -> S -> Prop) : R -> Au -> S -> Prop:=λr=>Au.inBlock id (K r)
def Ih (E : ι -> γ -> List (Nat × D)) (O : ι -> γ -> List (Nat × Ac)) (j : ι -> Option R) (K : R -> Au -> S -> Prop) : R -> Au -> S -> Prop:=λr e τ =>
 match e with
 | .normal=>∃ s g,j s = some r /\ Has τ (E s g) (O s g)
 | e=>K r e τ
def Dm (id : Nat) (E : ι -> γ -> List (Nat × D)) (O : ι -> γ -> List (Nat × Ac)) (j : ι -> Option R) (K : R -> Au -> S -> Prop) : R -> Au -> S -> Prop:=λr e τ =>
 match e with
 | .normal=>∃ s g,j s = some r /\ Has τ (E s g) (O s g)
 | .exit id'=>if id' = id then ∃ s g,j s = some r /\ Has τ (E s g) (O s g) else K r (.exit id') τ
 | .ret=>K r .ret τ
def GK (E : ι -> γ -> List (Nat × D)) (O : ι -> γ -> List (Nat × Ac)) (K : R -> Au -> S -> Prop) : (ι ⊕ R) -> Au -> S -> Prop:=λx e τ =>
 match x,e with
 | .inl s,.normal=>∃ g,Has τ (E s g) (O s g)
 | .inl _,_=>False
 | .inr _,.normal=>False
 | .inr r,e=>K r e τ
theorem Hc : ∀ (ops : List Aw) (nv : Nat) (σ : S) (K K' : S -> Prop),(∀ τ,K τ -> K' τ) -> Dw.wpOps Γ ops nv σ K -> Dw.wpOps Γ ops nv σ K'
 | [],_,_,_,_,hK,h=>hK _ h
 | _ :: ops,_,_,_,_,hK,h=>⟨h.1,Hc ops _ _ _ _ hK h.2⟩
theorem Wk.mono {f g : S -> Prop} (h : ∀ τ,f τ -> g τ) {σ : S} : Wk f σ -> Wk g σ:=λ⟨τ,h1,h2⟩=>⟨τ,h1,h τ h2⟩
theorem Kb {o : Aw} {σ : S} {K K' : S -> Prop} (hK : ∀ τ,K τ -> K' τ) : He Γ o σ K -> He Γ o σ K':=by
 rintro ⟨h1,fa,args,f,caps,sp,φ,K0,h2,h⟩
 exact ⟨h1,fa,args,f,caps,sp,φ,K0,λτ hτ=>hK τ (h2 τ hτ),h⟩
theorem KB {o : Aw} {σ : S} {K K' : S -> Prop} (hK : ∀ τ,K τ -> K' τ) : JT o σ K -> JT o σ K':=by
 rintro ⟨h1,h2,t,h3,h5⟩
 exact ⟨h1,h2,t,h3,hK _ h5⟩
theorem EF : ∀ (ops : List Aw) (nv : Nat) (σ : S) (K K' : S -> Prop),(∀ τ,K τ -> K' τ) -> wpS Γ ops nv σ K -> wpS Γ ops nv σ K'
 | [],_,_,_,_,hK,h=>hK _ h
 | _ :: ops,_,_,_,_,hK,h=>h.imp (λh=>⟨h.1,EF ops _ _ _ _ hK h.2⟩) (Or.imp (Wk.mono λ_=>Kb λ_ ⟨τ,h1,h2⟩=>⟨τ,h1,EF ops _ _ _ _ hK h2⟩) (Wk.mono λ_=>KB λ_ ⟨τ,h1,h2⟩=>⟨τ,h1,EF ops _ _ _ _ hK h2⟩))
theorem Bu : ∀ (b : Pf) (Q Q' : Au -> S -> Prop) (σ : S),(∀ e τ,Q e τ -> Q' e τ) -> DWp Γ b Q σ -> DWp Γ b Q' σ
 | .skip,_,_,_,h,hd=>h _ _ hd
 | .ret,_,_,_,h,hd=>h _ _ hd
 | .exit _,_,_,_,h,hd=>h _ _ hd
 | .reg ops d,_,_,_,h,hd=>Wk.mono (λτ hq=>by
   cases d with
   | true=>rw [if_pos rfl] at hq ⊢; exact ⟨Hc ops _ _ _ _ (λ_ hq=>h _ _ hq) hq.1,hq.2⟩
   | false=>rw [if_neg (by simp)] at hq ⊢; exact EF ops _ _ _ _ (λ_ hq=>h _ _ hq) hq) hd
 | .seq a b,Q,Q',σ,h,hd=>Bu a _ _ σ (λe τ hq=>by
   cases e with
   | normal=>exact Wk.mono (λτ' h'=>Bu b _ _ τ' h h') hq
   | exit id=>exact h _ _ hq
   | ret=>exact h _ _ hq) hd
 | .cond c a b,Q,Q',σ,h,hd=>by
  simp only [DWp] at hd ⊢
  generalize Di σ c = d at *
  cases d <;> try exact hd.elim
  exact ⟨λht=>Bu a _ _ σ h (hd.1 ht),λht=>Bu b _ _ σ h (hd.2 ht)⟩
 | .block id b,Q,Q',σ,h,hd=>Bu b _ _ σ (λe τ hq=>by
   cases e with
   | normal=>exact h _ _ hq
   | ret=>exact h _ _ hq
   | exit id' =>
    simp only [Au.inBlock] at hq ⊢
    split
    ·rename_i e; rw [if_pos e] at hq; exact Wk.mono (λτ' h'=>h _ _ h') hq
    ·rename_i e; rw [if_neg e] at hq; exact h _ _ hq) hd
 | .loop b,Q,Q',σ,h,⟨ι,St,μ,i₀,h1,h2⟩=>⟨ι,St,μ,i₀,h1,λi=>Bu b _ _ _ (λe τ hq=>by
   cases e with
   | normal=>exact hq
   | exit id=>exact h _ _ hq
   | ret=>exact h _ _ hq) (h2 i)⟩
variable {K : R -> Au -> S -> Prop} {t t1 t2 : Option R} {e : List (Nat × D)} {o : List (Nat × Ac)} {n N nv : Nat} {σ τ : S} {a b : Pf}
theorem KW {ops : List Aw} {d : Bool} (h : TrO Γ ops n ⟨e,o,n⟩ d [] (Ex (n + ops.length) K) t) : Tr Γ (.reg ops d) K ⟨e,o,n⟩ t :=
 λr hr=>⟨_,.refl _,by
  cases d with
  | true=>rw [if_pos rfl]; exact (h r hr).2 rfl
  | false=>rw [if_neg (by simp)]; exact (h r hr).1 rfl⟩
theorem RG {ops : List Aw} {d : Bool} {E : List (Nat × D)} {O : List (Nat × Ac)} (hh : Has ⟨e,o,n⟩ E O) (h : ∀ n,TrO Γ ops n ⟨E,O,n⟩ d [] (Ex (n + ops.length) K) t) : Tr Γ (.reg ops d) K ⟨e,o,n⟩ t :=
 λr hr=>hh.elim λm hh=>⟨_,hh,by
  cases d with
  | true=>rw [if_pos rfl]; exact (h m r hr).2 rfl
  | false=>rw [if_neg (by simp)]; exact (h m r hr).1 rfl⟩
theorem Jz {acc : List CA} (h : TrX .normal K ⟨e,o,nv⟩ t) : TrO Γ [] nv ⟨e,o,n⟩ false acc (Ex N K) t :=
 λr hr=>⟨λ_=>h r hr,λhd=>by cases hd⟩
theorem Fu {acc : List CA} (ha : Eh acc = true) (h : TrX .normal K ⟨e,o,N⟩ t) : TrO Γ [] nv ⟨e,o,n⟩ true acc (Ex N K) t :=
 λr hr=>⟨λhd=>(by cases hd),λ_=>⟨h r hr,by simpa [CS] using ha⟩⟩
def TrE (Γ : Ar) (c : Pf) (K : R -> Au -> S -> Prop) (σ : S) (t : Option R) : Prop:=∀ r,t = some r -> Wk (DWp Γ c (K r)) σ
theorem Nz (h : Tr Γ a K σ t) : TrE Γ a K σ t:=λr hr=>⟨_,.refl _,h r hr⟩
theorem NU {E : List (Nat × D)} {O : List (Nat × Ac)} (hh : Has σ E O) (h : ∀ n,Tr Γ a K ⟨E,O,n⟩ t) : TrE Γ a K σ t :=
 λr hr=>hh.elim λn hh=>⟨_,hh,h n r hr⟩
theorem KY (h : Tr Γ a (Ii Γ b K) σ t) : Tr Γ (.seq a b) K σ t:=h
theorem JB (h : Tr Γ b K τ t) : TrX .normal (Ii Γ b K) τ t:=λr hr=>⟨_,.refl _,h r hr⟩
theorem RO {E : List (Nat × D)} {O : List (Nat × Ac)} (hh : Has τ E O) (h : ∀ n,Tr Γ b K ⟨E,O,n⟩ t) : TrX .normal (Ii Γ b K) τ t :=
 λr hr=>hh.elim λn hh=>⟨_,hh,h n r hr⟩
theorem FB {id : Nat} (h : TrX (.exit id) K τ t) : TrX (.exit id) (Ii Γ b K) τ t:=h
theorem Ge (h : TrX .ret K τ t) : TrX .ret (Ii Γ b K) τ t:=h
theorem Iz {id : Nat} (h : Tr Γ b (Gj id K) σ t) : Tr Γ (.block id b) K σ t:=h
theorem Er {id : Nat} (h : TrX .normal K τ t) : TrX .normal (Gj id K) τ t:=h
theorem Gc {id : Nat} (h : TrX .ret K τ t) : TrX .ret (Gj id K) τ t:=h
theorem Fx {id : Nat} (h : TrX .normal K τ t) : TrX (.exit id) (Gj id K) τ t :=
 λr hr=>by
  show (if id = id then Wk (K r .normal) τ else K r (.exit id) τ)
  rw [if_pos rfl]
  exact ⟨_,.refl _,h r hr⟩
theorem Fw {id id' : Nat} (hne : Nat.beq id' id = false) (h : TrX (.exit id') K τ t) : TrX (.exit id') (Gj id K) τ t :=
 λr hr=>by
  show (if id' = id then Wk (K r .normal) τ else K r (.exit id') τ)
  rw [if_neg (λe=>by subst e; simp at hne)]
  exact h r hr
theorem JD (h : TrX .normal K σ t) : Tr Γ .skip K σ t:=h
theorem KX (h : TrX .ret K σ t) : Tr Γ .ret K σ t:=h
theorem JC {id : Nat} (h : TrX (.exit id) K σ t) : Tr Γ (.exit id) K σ t:=h
def PS {α : Type} : List (Nat × α) -> Nat -> Option α
 | [],_=>none
 | (k,x) :: r,t=>bif Nat.beq t k then some x else PS r t
theorem BI {α : Type} : ∀ (l : List (Nat × α)) (t : Nat),PS l t = look l t
 | [],_=>rfl
 | (k,x) :: r,t=>by
  simp only [PS,look,BI r t]
  by_cases h : t = k
  ·subst h; simp
  ·have : Nat.beq t k = false:=by
    cases hb : Nat.beq t k
    ·rfl
    ·exact absurd (Nat.eq_of_beq_eq_true hb) h
   simp [h,this]
def Aa (e : List (Nat × D)) : Arg -> Option D
 | .t n=>PS e n
 | .c d=>some d
theorem Vy {x : Arg} {c : Bool} (hx : Aa e x = some (.bool c)) (h1 : Tr Γ a K ⟨e,o,n⟩ t1) (h2 : Tr Γ b K ⟨e,o,n⟩ t2) : Tr Γ (.cond x a b) K ⟨e,o,n⟩ (bif c then t1 else t2):=by
 intro r hr
 have hv : Di ⟨e,o,n⟩ x = .bool c:=by cases x <;> simp_all [Aa,Di,S.ge,BI]
 simp only [DWp,hv]
 cases c with
 | true=>exact ⟨λ_=>h1 r hr,λh=>by cases h⟩
 | false=>exact ⟨λh=>(by cases h),λ_=>h2 r hr⟩
theorem FC {x : Arg} (hx : Aa e x = some (.bool true)) (h1 : Tr Γ a K ⟨e,o,n⟩ t) : Tr Γ (.cond x a b) K ⟨e,o,n⟩ t:=by
 intro r hr
 have hv : Di ⟨e,o,n⟩ x = .bool true:=by cases x <;> simp_all [Aa,Di,S.ge,BI]
 simp only [DWp,hv]
 exact ⟨λ_=>h1 r hr,λh=>(by cases h)⟩
theorem EU {x : Arg} (hx : Aa e x = some (.bool false)) (h1 : Tr Γ b K ⟨e,o,n⟩ t) : Tr Γ (.cond x a b) K ⟨e,o,n⟩ t:=by
 intro r hr
 have hv : Di ⟨e,o,n⟩ x = .bool false:=by cases x <;> simp_all [Aa,Di,S.ge,BI]
 simp only [DWp,hv]
 exact ⟨λh=>(by cases h),λ_=>h1 r hr⟩
variable {E : ι -> γ -> List (Nat × D)} {O : ι -> γ -> List (Nat × Ac)} {j : ι -> Option R}
theorem Vs (h1 : Tr Γ a (Ih E O j K) σ t) (h2 : ∀ s g n,Tr Γ b K ⟨E s g,O s g,n⟩ (j s)) : Tr Γ (.seq a b) K σ t:=by
 intro r hr
 refine Bu a _ _ σ (λe τ hq=>?_) (h1 r hr)
 cases e with
 | normal =>
  obtain ⟨s,g,hj,m,hw⟩:=hq
  exact ⟨_,hw,h2 s g _ r hj⟩
 | exit id=>exact hq
 | ret=>exact hq
theorem WE {s : ι} (g : γ) (h : Has τ (E s g) (O s g)) : TrX .normal (Ih E O j K) τ (j s):=λ_ hr=>⟨s,g,hr,h⟩
theorem Fy {id : Nat} (h : TrX (.exit id) K τ t) : TrX (.exit id) (Ih E O j K) τ t:=h
theorem Gd (h : TrX .ret K τ t) : TrX .ret (Ih E O j K) τ t:=h
theorem Vz {id : Nat} {c : Pf} (h1 : Tr Γ b (Dm id E O j K) σ t) (h2 : ∀ s g n,Tr Γ c K ⟨E s g,O s g,n⟩ (j s)) : Tr Γ (.seq (.block id b) c) K σ t:=by
 intro r hr
 refine Bu b _ _ σ (λe τ hq=>?_) (h1 r hr)
 cases e with
 | normal =>
  obtain ⟨s,g,hj,m,hw⟩:=hq
  exact ⟨_,hw,h2 s g _ r hj⟩
 | exit id' =>
  simp only [Dm] at hq
  simp only [Au.inBlock]
  split
  ·rename_i e
   rw [if_pos e] at hq
   obtain ⟨s,g,hj,m,hw⟩:=hq
   exact ⟨_,hw,_,.refl _,h2 s g _ r hj⟩
  ·rename_i e
   rw [if_neg e] at hq
   exact hq
 | ret=>exact hq
theorem Hb {id : Nat} {s : ι} (g : γ) (h : Has τ (E s g) (O s g)) : TrX .normal (Dm id E O j K) τ (j s):=λ_ hr=>⟨s,g,hr,h⟩
theorem HK {id : Nat} {s : ι} (g : γ) (h : Has τ (E s g) (O s g)) : TrX (.exit id) (Dm id E O j K) τ (j s):=λr hr=>by
 show (if id = id then _ else _)
 rw [if_pos rfl]
 exact ⟨s,g,hr,h⟩
theorem ER {id id' : Nat} (hne : Nat.beq id' id = false) (h : TrX (.exit id') K τ t) : TrX (.exit id') (Dm id E O j K) τ t:=λr hr=>by
 show (if id' = id then _ else _)
 rw [if_neg (λe=>by subst e; simp at hne)]
 exact h r hr
theorem Fv {id : Nat} (h : TrX .ret K τ t) : TrX .ret (Dm id E O j K) τ t:=h
theorem Wo {s : ι} (g : γ) (h : Has τ (E s g) (O s g)) : TrX .normal (GK E O K) τ (cnt s):=λr hr=>by
 cases hr
 exact ⟨g,h⟩
theorem ET {id : Nat} (h : TrX (.exit id) K τ t) : TrX (.exit id) (GK E O K) τ (lft t):=λr hr=>by
 cases t with
 | none=>cases hr
 | some x=>cases hr; exact h x rfl
theorem FA (h : TrX .ret K τ t) : TrX .ret (GK E O K) τ (lft t):=λr hr=>by
 cases t with
 | none=>cases hr
 | some x=>cases hr; exact h x rfl
theorem WG {body : ι -> Option (ι ⊕ R)} {s : ι} (g : γ) (h0 : Has ⟨e,o,n⟩ (E s g) (O s g)) (hb : ∀ s g n,Tr Γ b (GK E O K) ⟨E s g,O s g,n⟩ (body s)) : Tr Γ (.loop b) K ⟨e,o,n⟩ (Pl body s):=by
 intro r hr
 obtain ⟨k,hk⟩:=Ti.1 hr
 refine ⟨{ x : (ι × γ × Nat) × Nat // Si body x.2 x.1.1 = some r },λx=>⟨E x.1.1.1 x.1.1.2.1,O x.1.1.1 x.1.1.2.1,x.1.1.2.2⟩,λx=>x.1.2,⟨((s,g,h0.choose),k),hk⟩,h0.choose_spec,?_⟩
 rintro ⟨⟨⟨s,g,n⟩,k⟩,hk⟩
 simp only at hk
 cases k with
 | zero=>cases hk
 | succ k =>
  rw [Re] at hk
  cases hx : body s with
  | none=>rw [hx] at hk; cases hk
  | some x =>
   rw [hx] at hk
   refine Bu b _ _ _ (λe τ hq=>?_) (hb s g n x hx)
   cases x with
   | inr r' =>
    cases hk
    cases e with
    | normal=>exact hq.elim
    | exit id=>exact hq
    | ret=>exact hq
   | inl s' =>
    cases e with
    | normal =>
     obtain ⟨g',m,hw⟩:=hq
     exact ⟨⟨((s',g',m),k),hk⟩,Nat.lt_succ_self _,hw⟩
    | exit id=>exact hq.elim
    | ret=>exact hq.elim
end
end Go.Dw
namespace Go.Dw
def rdK : Arg -> List Key
 | .t n=>[.e n]
 | .c _=>[]
def lkO (o : List (Nat × Ac)) (g : Nat) : Ac:=(PS o g).getD none
def gOn (e : List (Nat × D)) : Option (Nat × Bool) -> Bool
 | none=>true
 | some (t,want)=>match (PS e t).getD .top with
  | .bool b=>b == want
  | .when p (.bool b)=>p && (b == want)
  | _=>false
def Na (e : List (Nat × D)) : Option (Nat × Bool) -> Bool
 | none=>false
 | some (t,want)=>match (PS e t).getD .top with
  | .bool b=>!(b == want)
  | .when p (.bool b)=>!(p && (b == want))
  | _=>false
def gK : Option (Nat × Bool) -> List Key
 | none=>[]
 | some (t,_)=>[.e t]
section
variable {Γ : Ar} {X : Type} {K : KR X} {t t1 t2 : Option X} {e : List (Nat × D)} {o : List (Nat × Ac)} {n nv : Nat} {d : Bool} {acc : List CA}
 {r : List Aw} {dst : Nat} {g : Option (Nat × Bool)} {af : List Nat} {α : Type}
@[simp] theorem Bn (x : Arg) : (raw x).run ⟨e,o,n⟩ = (Aa e x).getD .top:=by cases x <;> simp [raw,Aa,BI,S.ge]
@[simp] theorem Ff (x : Arg) : (raw x).rd ⟨e,o,n⟩ = rdK x:=by cases x <;> rfl
@[simp] theorem Ax (i : Nat) : (S.mk e o n).go i = lkO o i:=by simp [S.go,lkO,BI]
@[simp] theorem Ap (x : Arg) : (rdA x).run ⟨e,o,n⟩ = strip ((Aa e x).getD .top):=by simp [rdA]
@[simp] theorem Bg (x : Arg) : (rdA x).rd ⟨e,o,n⟩ = rdK x:=by simp [rdA]
theorem PE {α : Type} {ops : List Aw} {σ : S} {m : Option α} {k : α -> Option X} (h : ∀ x,m = some x -> TrO Γ ops nv σ d acc K (k x)) : TrO Γ ops nv σ d acc K (m.bind k):=by
 intro r hr
 obtain ⟨x,hx,hk⟩:=Option.bind_eq_some_iff.1 hr
 exact h x hx r hk
theorem OU {ops : List Aw} {σ : S} {p : Prop} [Decidable p] (h : p -> TrO Γ ops nv σ d acc K t) : TrO Γ ops nv σ d acc K (chk p t):=by
 intro r hr
 obtain ⟨hp,ht⟩:=HV hr
 exact h hp r ht
theorem Am {dst : Option Nat} {op : DOp} {c : Prop} {we : List (Nat × D)} {wo : List (Nat × Ac)} {rd : List Key} (hg : gOn e g = true)
  (hu : (evalOp Γ nv dst op).run ⟨e,o,n⟩ = ⟨c,we,wo⟩) (hrd : (evalOp Γ nv dst op).rd ⟨e,o,n⟩ = rd) (hc : c)
  (h : TrO Γ r (nv + 1) ⟨we ++ e,wo ++ o,n⟩ d (acc ++ [(gK g ++ rd,we.map (λx=>.e x.1) ++ wo.map (λx=>.o x.1),af)]) K t) :
  TrO Γ (⟨dst,op,g,af⟩ :: r) nv ⟨e,o,n⟩ d acc K t:=by
 intro x hx
 obtain ⟨h1,h2⟩:=h x hx
 have key : ((As Γ nv ⟨dst,op,g,af⟩).run ⟨e,o,n⟩).c /\ ((As Γ nv ⟨dst,op,g,af⟩).run ⟨e,o,n⟩).we = we /\ ((As Γ nv ⟨dst,op,g,af⟩).run ⟨e,o,n⟩).wo = wo /\
   (As Γ nv ⟨dst,op,g,af⟩).rd ⟨e,o,n⟩ = gK g ++ rd:=by
  cases g with
  | none =>
   simp only [As,hu,hrd,gK]
   exact ⟨hc,trivial,trivial,rfl⟩
  | some p =>
   obtain ⟨tt,want⟩:=p
   have hg2 : (guardOf ((S.mk e o n).ge tt) want).2 = true /\ (guardOf ((S.mk e o n).ge tt) want).1:=by
    simp only [gOn,BI] at hg
    simp only [S.ge]
    generalize (look e tt).getD .top = dd at *
    cases dd <;> simp_all [guardOf]
    rename_i p dd
    cases dd <;> simp_all
   simp only [As,R.Iu,R.NP,hg2.1,if_true,R.run_bind,R.AM,R.run_pure,R.Bs,hu,hrd,gK]
   exact ⟨⟨hg2.2,hc⟩,trivial,trivial,by simp⟩
 obtain ⟨k1,k2,k3,k4⟩:=key
 have happ : (S.mk e o n).app ((As Γ nv ⟨dst,op,g,af⟩).run ⟨e,o,n⟩) = ⟨we ++ e,wo ++ o,n⟩:=by simp [S.app,k2,k3]
 refine ⟨λhd=>.inl ⟨k1,by rw [happ]; exact h1 hd⟩,λhd=>⟨⟨k1,by rw [happ]; exact (h2 hd).1⟩,?_⟩⟩
 have:=(h2 hd).2
 simp only [CS,k2,k3,k4,happ]
 simpa using this
theorem JA {op : DOp} (hg : Na e g = true)
  (h : TrO Γ r (nv + 1) ⟨(dst,.when false (.bool false)) :: e,o,n⟩ d (acc ++ [(gK g,[.e dst],af)]) K t) : TrO Γ (⟨some dst,op,g,af⟩ :: r) nv ⟨e,o,n⟩ d acc K t:=by
 intro x hx
 obtain ⟨h1,h2⟩:=h x hx
 cases g with
 | none=>cases hg
 | some p =>
  obtain ⟨tt,want⟩:=p
  have hg2 : (guardOf ((S.mk e o n).ge tt) want).2 = false /\ (guardOf ((S.mk e o n).ge tt) want).1:=by
   simp only [Na,BI] at hg
   simp only [S.ge]
   generalize (look e tt).getD .top = dd at *
   cases dd with
   | bool b=>simp_all [guardOf]
   | when p dd =>
    cases dd with
    | bool b=>cases p <;> simp_all [guardOf]
    | _=>simp at hg
   | _=>simp at hg
  have hu : (As Γ nv ⟨some dst,op,some (tt,want),af⟩).run ⟨e,o,n⟩ = ⟨(guardOf ((S.mk e o n).ge tt) want).1,[(dst,.when false (.bool false))],[]⟩:=by
   simp [As,hg2.1,Ad]
  have hr : (As Γ nv ⟨some dst,op,some (tt,want),af⟩).rd ⟨e,o,n⟩ = [.e tt]:=by
   simp [As,hg2.1]
  refine ⟨λhd=>.inl ⟨by rw [hu]; exact hg2.2,by rw [hu]; exact h1 hd⟩,λhd=>⟨⟨by rw [hu]; exact hg2.2,by rw [hu]; exact (h2 hd).1⟩,?_⟩⟩
  have:=(h2 hd).2
  simp only [CS,hu,hr]
  simpa [gK,S.app] using this
def DM : List (Nat × D) -> Nat -> D -> List (Nat × D)
 | [],_,_=>[]
 | (k,y) :: r,t,v=>bif Nat.beq t k then (k,v) :: r else (k,y) :: DM r t v
theorem DZ : ∀ {e : List (Nat × D)} {x : Nat} {v : D},PS e x = some v -> DM e x v = e
 | [],_,_,h=>by cases h
 | (k,y) :: r,x,v,h=>by
  simp only [PS] at h
  simp only [DM]
  cases hb : Nat.beq x k with
  | true =>
   rw [hb] at h
   cases h
   rfl
  | false =>
   rw [hb] at h
   simp only [cond_false] at h ⊢
   rw [DZ h]
theorem KU {ops : List Aw} (x : Nat) {b : Bool} (hx : PS e x = some (.bool b)) (h1 : TrO Γ ops nv ⟨DM e x (.bool true),o,n⟩ d acc K t1) (h2 : TrO Γ ops nv ⟨DM e x (.bool false),o,n⟩ d acc K t2) :
  TrO Γ ops nv ⟨e,o,n⟩ d acc K (bif b then t1 else t2):=by
 cases b with
 | true=>rw [DZ hx] at h1; exact h1
 | false=>rw [DZ hx] at h2; exact h2
variable {x y : Arg} {v w : D} {k k' : IntKind} {a b : Int} {s ty gi vi ii off m : Nat} {fz var : Bool} {es : List D} {z z' : D} {l l' : List α} {en : α -> D}
attribute [local simp] evalOp Ad AK BB strip OT
theorem Cx (p q u w : Nat) : strip (.optr p q u w) = (true,.optr p q u w):=rfl
theorem DD (p : Bool) : strip (.bool p) = (true,.bool p):=rfl
theorem KT (hg : gOn e g = true) (hx : Aa e x = some v) (h : TrO Γ r (nv + 1) ⟨(dst,v) :: e,o,n⟩ d (acc ++ [(gK g ++ rdK x,[.e dst],af)]) K t) :
  TrO Γ (⟨some dst,.mv x,g,af⟩ :: r) nv ⟨e,o,n⟩ d acc K t :=
 Am hg (c:=True) (we:=[(dst,v)]) (wo:=[]) (rd:=rdK x) (by simp [hx]) (by simp) trivial h
theorem Jp (hg : gOn e g = true) (hx : Aa e x = some v) (h : TrO Γ r (nv + 1) ⟨(dst,v) :: e,o,n⟩ d (acc ++ [(gK g ++ rdK x,[.e dst],af)]) K t) :
  TrO Γ (⟨some dst,.asg x none,g,af⟩ :: r) nv ⟨e,o,n⟩ d acc K t :=
 Am hg (c:=True) (we:=[(dst,v)]) (wo:=[]) (rd:=rdK x) (by cases v <;> simp [hx]) (by cases v <;> simp [hx]) trivial h
theorem IH (hg : gOn e g = true) (en : α -> D) (hx : Aa e x = some .nils) (h : TrO Γ r (nv + 1) ⟨(dst,.osl dst nv 0 ([] : List α).length) :: e,(dst,some (nv,⟨false,false,s,ty,([] : List α).map en⟩)) :: o,n⟩ d (acc ++ [(gK g ++ rdK x,[.e dst,.o dst],af)]) K t) :
  TrO Γ (⟨some dst,.asg x (some (s,ty)),g,af⟩ :: r) nv ⟨e,o,n⟩ d acc K t :=
 Am hg (c:=True) (we:=[(dst,.osl dst nv 0 0)]) (wo:=[(dst,some (nv,⟨false,false,s,ty,[]⟩))]) (rd:=rdK x) (by simp [hx]) (by simp [hx]) trivial h
theorem GW (hg : gOn e g = true) (hx : Aa e x = some (.sl es)) (h : TrO Γ r (nv + 1) ⟨(dst,.sl es) :: e,o,n⟩ d (acc ++ [(gK g ++ rdK x,[.e dst],af)]) K t) :
  TrO Γ (⟨some dst,.asg x (some (s,ty)),g,af⟩ :: r) nv ⟨e,o,n⟩ d acc K t :=
 Am hg (c:=True) (we:=[(dst,.sl es)]) (wo:=[]) (rd:=rdK x) (by simp [hx]) (by simp [hx]) trivial h
theorem FY {s' ty' q : Nat} (hq : q = l.length) (hg : gOn e g = true) (hx : Aa e x = some (.osl gi vi 0 q)) (ho : lkO o gi = some (vi,⟨false,false,s,ty,l.map en⟩))
  (h : TrO Γ r (nv + 1) ⟨(dst,.osl dst nv 0 l.length) :: e,(dst,some (nv,⟨false,false,s,ty,l.map en⟩)) :: (gi,none) :: o,n⟩ d (acc ++ [(gK g ++ (rdK x ++ [.o gi]),[.e dst,.o dst,.o gi],af)]) K t) (hrg : Ab gi = false:=by rfl) :
  TrO Γ (⟨some dst,.asg x (some (s',ty')),g,af⟩ :: r) nv ⟨e,o,n⟩ d acc K t :=
 Am hg (c:=True) (we:=[(dst,.osl dst nv 0 l.length)]) (wo:=[(dst,some (nv,⟨false,false,s,ty,l.map en⟩)),(gi,none)]) (rd:=rdK x ++ [Key.o gi]) (by subst hq; simp [hx,ho,hrg,nmR,CC]; exact List.take_of_length_le (by simp)) (by simp [hx,ho,hrg]) trivial h
theorem FX {s' ty' q : Nat} (hg : gOn e g = true) (hx : Aa e x = some (.osl gi vi 0 q)) (ho : lkO o gi = some (vi,⟨false,false,s,ty,l.map en⟩)) (hq : q <= l.length)
  (h : TrO Γ r (nv + 1) ⟨(dst,.osl dst nv 0 (l.take q).length) :: e,(dst,some (nv,⟨false,false,s,ty,(l.take q).map en⟩)) :: (gi,none) :: o,n⟩ d (acc ++ [(gK g ++ (rdK x ++ [.o gi]),[.e dst,.o dst,.o gi],af)]) K t) (hrg : Ab gi = false:=by rfl) :
  TrO Γ (⟨some dst,.asg x (some (s',ty')),g,af⟩ :: r) nv ⟨e,o,n⟩ d acc K t :=
 Am hg (c:=True) (we:=[(dst,.osl dst nv 0 (l.take q).length)]) (wo:=[(dst,some (nv,⟨false,false,s,ty,(l.take q).map en⟩)),(gi,none)]) (rd:=rdK x ++ [Key.o gi]) (by simp [hx,ho,Nat.min_eq_left hq,hq,hrg,nmR,CC]) (by simp [hx,ho,hrg]) trivial h
theorem GV {s' ty' q : Nat} (hq : q = l.length) (hg : gOn e g = true) (hx : Aa e x = some (.osl gi vi 0 q)) (ho : lkO o gi = some (vi,⟨true,false,s,ty,l.map en⟩))
  (h : TrO Γ r (nv + 1) ⟨(dst,.sl (l.map en)) :: e,o,n⟩ d (acc ++ [(gK g ++ (rdK x ++ [.o gi]),[.e dst],af)]) K t) :
  TrO Γ (⟨some dst,.asg x (some (s',ty')),g,af⟩ :: r) nv ⟨e,o,n⟩ d acc K t :=
 Am hg (c:=True) (we:=[(dst,.sl (l.map en))]) (wo:=[]) (rd:=rdK x ++ [Key.o gi]) (by subst hq; simp [hx,ho]; exact List.take_of_length_le (by simp)) (by simp [hx,ho]) trivial h
def isB : Option D -> Bool
 | some (.bool _)=>true
 | some (.when _ (.bool _))=>true
 | _=>false
theorem Kx {x : Option D} (h : isB x = true) : ∃ (p q : Bool),strip (x.getD .top) = (p,.bool q):=by
 unfold isB at h
 split at h
 ·exact ⟨_,_,rfl⟩
 ·exact ⟨_,_,rfl⟩
 ·cases h
theorem EN {c : Arg} {p : Bool} (hg : gOn e g = true) (hc : Aa e c = some (.bool true)) (hx : Aa e x = some (.bool p)) (hy : isB (Aa e y) = true)
  (h : TrO Γ r (nv + 1) ⟨(dst,.bool p) :: e,o,n⟩ d (acc ++ [(gK g ++ (rdK c ++ (rdK x ++ rdK y)),[.e dst],af)]) K t) :
  TrO Γ (⟨some dst,.pick c x y,g,af⟩ :: r) nv ⟨e,o,n⟩ d acc K t:=by
 obtain ⟨b1,q,hq'⟩:=Kx hy
 refine Am hg (c:=True) (we:=[(dst,.bool p)]) (wo:=[]) (rd:=rdK c ++ (rdK x ++ rdK y)) ?_ ?_ trivial h
 ·simp only [evalOp,R.run_bind,Ap,hc,hx,hq',Option.getD_some,DD,R.run_pure,Ad]
  simp
 ·simp only [evalOp,R.AM,Ap,Bg,hc,hx,hq',Option.getD_some,DD,R.Bs,List.append_nil]
theorem Ep {c : Arg} {p : Bool} (hg : gOn e g = true) (hc : Aa e c = some (.bool false)) (hx : isB (Aa e x) = true) (hy : Aa e y = some (.bool p))
  (h : TrO Γ r (nv + 1) ⟨(dst,.bool p) :: e,o,n⟩ d (acc ++ [(gK g ++ (rdK c ++ (rdK x ++ rdK y)),[.e dst],af)]) K t) :
  TrO Γ (⟨some dst,.pick c x y,g,af⟩ :: r) nv ⟨e,o,n⟩ d acc K t:=by
 obtain ⟨b1,q,hq'⟩:=Kx hx
 refine Am hg (c:=True) (we:=[(dst,.bool p)]) (wo:=[]) (rd:=rdK c ++ (rdK x ++ rdK y)) ?_ ?_ trivial h
 ·simp only [evalOp,R.run_bind,Ap,hc,hy,hq',Option.getD_some,DD,R.run_pure,Ad]
  simp
 ·simp only [evalOp,R.AM,Ap,Bg,hc,hy,hq',Option.getD_some,DD,R.Bs,List.append_nil]
theorem Jy (hg : gOn e g = true) (h : TrO Γ r (nv + 1) ⟨(dst,.optr dst nv 0 0) :: e,(dst,some (nv,⟨false,true,s,ty,[z]⟩)) :: o,n⟩ d (acc ++ [(gK g ++ [],[.e dst,.o dst],af)]) K t) :
  TrO Γ (⟨some dst,.new z s ty,g,af⟩ :: r) nv ⟨e,o,n⟩ d acc K t :=
 Am hg (c:=True) (we:=[(dst,.optr dst nv 0 0)]) (wo:=[(dst,some (nv,⟨false,true,s,ty,[z]⟩))]) (rd:=[]) (by simp) (by simp) trivial h
theorem Jq (hg : gOn e g = true) (hx : Aa e x = some v) (hw : strip v = (true,v)) (hk : known v = true) (hl : (cells v).length = s)
  (h : TrO Γ r (nv + 1) ⟨(dst,.optr dst nv 0 0) :: e,(dst,some (nv,⟨false,true,s,ty,[v]⟩)) :: o,n⟩ d (acc ++ [(gK g ++ rdK x,[.e dst,.o dst],af)]) K t) :
  TrO Γ (⟨some dst,.box x s ty,g,af⟩ :: r) nv ⟨e,o,n⟩ d acc K t :=
 Am hg (c:=True) (we:=[(dst,.optr dst nv 0 0)]) (wo:=[(dst,some (nv,⟨false,true,s,ty,[v]⟩))]) (rd:=rdK x) (by simp only [evalOp,R.run_bind,Ap,Option.getD_some,hx,hw,R.run_pure,hk,hl,Ad,AK,Option.getD_some]; simp) (by simp) trivial h
def Cr (e : List (Nat × D)) : List (Nat × Nat × Arg) -> List (Nat × Nat × D)
 | []=>[]
 | (a,b,x) :: r=>(a,b,(Aa e x).getD .top) :: Cr e r
def Dc : List (Nat × Nat × Arg) -> List Key
 | []=>[]
 | (_,_,x) :: r=>rdK x ++ Dc r
def Ek : Nat -> List (Nat × Nat × D) -> Bool
 | _,[]=>true
 | n,(off,s,d) :: r=>known d && (Nat.beq (cells d).length s && (Nat.ble (off + s) n && Ek n r))
theorem GJ : ∀ {n : Nat} {l : List (Nat × Nat × D)},Ek n l = true -> Ej n l
 | _,[],_=>trivial
 | n,(off,s,d) :: r,h=>by
  simp only [Ek,Bool.and_eq_true] at h
  exact ⟨h.1,Nat.eq_of_beq_eq_true h.2.1,Nat.le_of_ble_eq_true h.2.2.1,GJ h.2.2.2⟩
theorem FW : ∀ parts : List (Nat × Nat × Arg),(Cb parts).run ⟨e,o,n⟩ = Cr e parts
 | []=>rfl
 | (a,b,x) :: r=>by simp [Cb,Cr,FW r]
theorem GQ : ∀ parts : List (Nat × Nat × Arg),(Cb parts).rd ⟨e,o,n⟩ = Dc parts
 | []=>rfl
 | (a,b,x) :: r=>by simp [Cb,Dc,GQ r]
theorem MT {zs cs : List D} {parts : List (Nat × Nat × Arg)} {ps : List (Nat × Nat × D)} (hg : gOn e g = true) (hp : Cr e parts = ps) (hf : Ek zs.length ps = true) (hz : DP zs ps = cs)
  (h : TrO Γ r (nv + 1) ⟨(dst,.agg cs) :: e,o,n⟩ d (acc ++ [(gK g ++ Dc parts,[.e dst],af)]) K t) :
  TrO Γ (⟨some dst,.bld zs parts,g,af⟩ :: r) nv ⟨e,o,n⟩ d acc K t :=
 Am hg (c:=Ej zs.length ps) (we:=[(dst,.agg cs)]) (wo:=[]) (rd:=Dc parts) (by simp [FW,hp,hz]) (by simp [GQ]) (GJ hf) h
def HZ (s len : Nat) (ps : List (Nat × D)) : Bool:=ps.all λp=>known p.2 && (Nat.beq (cells p.2).length s && Nat.blt p.1 len)
theorem Vn {c : Prop} {len : Nat} {parts : List (Nat × Arg)} {ps : List (Nat × D)} {wo : List (Nat × Ac)} {rk : List Key} (l : List α) (en : α -> D) (hg : gOn e g = true) (hr : (AQ parts).run ⟨e,o,n⟩ = (c,ps,wo)) (hk : (AQ parts).rd ⟨e,o,n⟩ = rk) (hc : c)
  (hp : HZ s len ps = true) (hes : Rc (List.replicate len z) ps = l.map en) (hlen : l.length = len)
  (h : TrO Γ r (nv + 1) ⟨(dst,.osl dst nv 0 l.length) :: e,(dst,some (nv,⟨false,false,s,ty,l.map en⟩)) :: (wo ++ o),n⟩ d (acc ++ [(gK g ++ rk,[.e dst,.o dst] ++ wo.map (λx=>.o x.1),af)]) K t) :
  TrO Γ (⟨some dst,.bldS s ty z len parts,g,af⟩ :: r) nv ⟨e,o,n⟩ d acc K t:=by
 have h1 : ∀ p ∈ ps,known p.2 = true /\ (cells p.2).length = s /\ p.1 < len:=by
  intro p hp'
  have:=List.all_eq_true.1 hp p hp'
  simp only [Bool.and_eq_true] at this
  exact ⟨this.1,Nat.eq_of_beq_eq_true this.2.1,by simpa using this.2.2⟩
 subst hlen
 exact Am hg (c:=c /\ ∀ p ∈ ps,known p.2 = true /\ (cells p.2).length = s /\ p.1 < l.length) (we:=[(dst,.osl dst nv 0 l.length)]) (wo:=(dst,some (nv,⟨false,false,s,ty,l.map en⟩)) :: wo) (rd:=rk) (by simp [hr,hes]) (by simp [hk]) ⟨hc,h1⟩ (by simpa using h)
theorem CO {i : Nat} {q : α} (h : l[i]? = some q) : (l.map en)[i]? = some (en q):=by simp [h]
theorem EC {agg : Bool} {i : Nat} (hg : gOn e g = true) (hx : Aa e x = some (.optr gi vi i off)) (ho : lkO o gi = some (vi,⟨fz,var,s,ty,es⟩)) (hz : es[i]? = some z) (hb : Nat.ble (off + m) (cells z).length = true) (hv : OR (cells z) off m agg = v)
  (h : TrO Γ r (nv + 1) ⟨(dst,v) :: e,o,n⟩ d (acc ++ [(gK g ++ (rdK x ++ [.o gi]),[.e dst],af)]) K t) (hpl : (plain v || !Ab gi) = true:=by rfl) :
  TrO Γ (⟨some dst,.ld m agg x,g,af⟩ :: r) nv ⟨e,o,n⟩ d acc K t:=by
 obtain ⟨hi,rfl⟩:=List.getElem?_eq_some_iff.1 hz
 have hb':=Nat.le_of_ble_eq_true hb
 have hgd : es.getD i .top = es[i]:=by simp [hi]
 refine Am hg (c:=True) (we:=[(dst,v)]) (wo:=[]) (rd:=rdK x ++ [Key.o gi]) ?_ ?_ trivial h
 ·simp only [evalOp,R.run_bind,Ap,Option.getD_some,hx,strip,R.AU,Ax,ho,Ad,hgd,hv]
  cases hrg : Ab gi with
  | false=>simp [hi,hb']
  | true=>cases v <;> first | (simp [hi,hb']; done) | (rw [hrg] at hpl; cases hpl)
 ·simp only [evalOp,R.AM,Ap,Bg,Option.getD_some,hx,strip,R.BN,Ax,ho,hgd,hv]
  cases hrg : Ab gi with
  | false=>simp
  | true=>cases v <;> first | (simp; done) | (rw [hrg] at hpl; cases hpl)
theorem Gv {agg : Bool} (hg : gOn e g = true) (hx : Aa e x = some (.fptr z off)) (hb : Nat.ble (off + m) (cells z).length = true) (hv : OR (cells z) off m agg = v)
  (h : TrO Γ r (nv + 1) ⟨(dst,v) :: e,o,n⟩ d (acc ++ [(gK g ++ rdK x,[.e dst],af)]) K t) :
  TrO Γ (⟨some dst,.ld m agg x,g,af⟩ :: r) nv ⟨e,o,n⟩ d acc K t:=by
 have hb':=Nat.le_of_ble_eq_true hb
 refine Am hg (c:=True) (we:=[(dst,v)]) (wo:=[]) (rd:=rdK x) ?_ ?_ trivial h
 ·simp only [evalOp,R.run_bind,Ap,Option.getD_some,hx,strip,OT,R.AF,R.run_pure,Ad]
  simp [hb',hv]
 ·simp only [evalOp,R.AM,Ap,Bg,Option.getD_some,hx,strip,OT,R.Cc,R.Bs]
  simp
theorem ED (hg : gOn e g = true) (hx : Aa e x = some (.optr gi vi 0 off)) (hy : Aa e y = some v) (hw : strip v = (true,v)) (ho : lkO o gi = some (vi,⟨false,true,s,ty,[z]⟩)) (hk : known v = true) (hl : (cells v).length = m)
  (hb : Nat.ble (off + m) (cells z).length = true) (hz : AD z off (cells v) = z')
  (h : TrO Γ r (nv + 1) ⟨e,(gi,some (vi,⟨false,true,s,ty,[z']⟩)) :: o,n⟩ d (acc ++ [(gK g ++ (rdK x ++ (rdK y ++ [.o gi])),[.o gi],af)]) K t) (hrg : Ab gi = false:=by rfl) :
  TrO Γ (⟨none,.st m x y,g,af⟩ :: r) nv ⟨e,o,n⟩ d acc K t:=by
 have hb':=Nat.le_of_ble_eq_true hb
 refine Am hg (c:=True) (we:=[]) (wo:=[(gi,some (vi,⟨false,true,s,ty,[z']⟩))]) (rd:=rdK x ++ (rdK y ++ [Key.o gi])) ?_ ?_ trivial h
 ·simp only [evalOp,R.run_bind,Ap,Option.getD_some,hx,hy,hw,Cx,R.AU,Ax,ho,R.AF,hrg,Bool.false_eq_true,if_false,if_true,hk,hl]
  simp [hb',hz]
 ·simp only [evalOp,R.AM,Ap,Bg,Option.getD_some,hx,hy,hw,Cx,R.BN,Ax,ho,R.Cc,hrg,Bool.false_eq_true,if_false,if_true]
theorem Rm {i : Nat} {q q' : α} {c : Prop} {v' : D} {wo : List (Nat × Ac)} {rk : List Key} (hg : gOn e g = true) (hx : Aa e x = some (.optr gi vi i off)) (hy : Aa e y = some v) (hw : strip v = (true,v)) (ho : lkO o gi = some (vi,⟨false,false,s,ty,l.map en⟩))
  (hr : (res v).run ⟨e,o,n⟩ = (c,v',wo)) (hrd : (res v).rd ⟨e,o,n⟩ = rk) (hc : c) (hi : l[i]? = some q) (hk : known v' = true) (hl : (cells v').length = m) (hb : Nat.ble (off + m) (cells (en q)).length = true)
  (hz : AD (en q) off (cells v') = en q') (hwo : wo.all (λx=>x.1 != gi) = true)
  (h : TrO Γ r (nv + 1) ⟨e,(gi,some (vi,⟨false,false,s,ty,(l.set i q').map en⟩)) :: (wo ++ o),n⟩ d (acc ++ [(gK g ++ (rdK x ++ (rdK y ++ (.o gi :: rk))),.o gi :: wo.map (λx=>.o x.1),af)]) K t) (hrg : Ab gi = false:=by rfl) :
  TrO Γ (⟨none,.st m x y,g,af⟩ :: r) nv ⟨e,o,n⟩ d acc K t:=by
 have hb':=Nat.le_of_ble_eq_true hb
 obtain ⟨hi',rfl⟩:=List.getElem?_eq_some_iff.1 hi
 refine Am hg (c:=True) (we:=[]) (wo:=(gi,some (vi,⟨false,false,s,ty,(l.set i q').map en⟩)) :: wo) (rd:=rdK x ++ (rdK y ++ (Key.o gi :: rk))) ?_ ?_ trivial (by simpa using h)
 ·simp only [evalOp,R.run_bind,Ap,Option.getD_some,hx,hy,hw,Cx,R.AU,Ax,ho,hrg,Bool.false_eq_true,if_false,hr,R.run_pure]
  have hq : (l.map en).getD i .top = en l[i]:=by simp [hi']
  rw [hq,hz]
  simp [hc,hi',hb',hk,hl,hwo,<- List.map_set]
 ·simp only [evalOp,R.AM,Ap,Bg,Option.getD_some,hx,hy,hw,Cx,R.BN,Ax,ho,hrg,Bool.false_eq_true,if_false,hrd,hr,R.Bs]
  simp
theorem HE (hg : gOn e g = true) (hx : Aa e x = some v) (hv : (match v with | .optr .. | .fptr ..=>true | _=>false) = true) (h : TrO Γ r (nv + 1) ⟨(dst,v) :: e,o,n⟩ d (acc ++ [(gK g ++ rdK x,[.e dst],af)]) K t) :
  TrO Γ (⟨some dst,.nilck x,g,af⟩ :: r) nv ⟨e,o,n⟩ d acc K t :=
 Am hg (c:=True) (we:=[(dst,v)]) (wo:=[]) (rd:=rdK x) (by cases v <;> simp [hx] at hv ⊢) (by cases v <;> simp [hx] at hv ⊢) trivial h
theorem FG {op : BinOp} {c : Prop} (hg : gOn e g = true) (hx : Aa e x = some (.int k a)) (hy : Aa e y = some (.int k' b)) (hb : Hf op (.int k a) (.int k' b) = (c,v)) (hc : c)
  (h : TrO Γ r (nv + 1) ⟨(dst,v) :: e,o,n⟩ d (acc ++ [(gK g ++ (rdK x ++ rdK y),[.e dst],af)]) K t) :
  TrO Γ (⟨some dst,.bin op x y,g,af⟩ :: r) nv ⟨e,o,n⟩ d acc K t :=
 Am hg (c:=c) (we:=[(dst,v)]) (wo:=[]) (rd:=rdK x ++ rdK y) (by simp [hx,hy,hb]) (by simp) hc h
theorem Dr {op : BinOp} {c : Prop} {p q : List UInt8} (hg : gOn e g = true) (hx : Aa e x = some (.str p)) (hy : Aa e y = some (.str q)) (hb : Hf op (.str p) (.str q) = (c,v)) (hc : c)
  (h : TrO Γ r (nv + 1) ⟨(dst,v) :: e,o,n⟩ d (acc ++ [(gK g ++ (rdK x ++ rdK y),[.e dst],af)]) K t) :
  TrO Γ (⟨some dst,.bin op x y,g,af⟩ :: r) nv ⟨e,o,n⟩ d acc K t :=
 Am hg (c:=c) (we:=[(dst,v)]) (wo:=[]) (rd:=rdK x ++ rdK y) (by simp [hx,hy,hb]) (by simp) hc h
theorem Jt {neg p q : Bool} (hg : gOn e g = true) (hx : Aa e x = some (.bool p)) (hy : Aa e y = some (.bool q))
  (h : TrO Γ r (nv + 1) ⟨(dst,.bool (if neg then !(p == q) else (p == q))) :: e,o,n⟩ d (acc ++ [(gK g ++ (rdK x ++ rdK y),[.e dst],af)]) K t) :
  TrO Γ (⟨some dst,.eqB neg x y,g,af⟩ :: r) nv ⟨e,o,n⟩ d acc K t :=
 Am hg (c:=True) (we:=[(dst,.bool (if neg then !(p == q) else (p == q)))]) (wo:=[]) (rd:=rdK x ++ rdK y) (by simp [hx,hy]) (by simp [hx,hy]) trivial h
theorem Js {neg p : Bool} {c : Prop} {cs cs' : List D} (hg : gOn e g = true) (hx : Aa e x = some (.agg cs)) (hy : Aa e y = some (.agg cs')) (hq : eqL cs cs' = (c,p)) (hc : c) (hn : Nat.beq cs.length m = true)
  (h : TrO Γ r (nv + 1) ⟨(dst,.bool (if neg then !p else p)) :: e,o,n⟩ d (acc ++ [(gK g ++ (rdK x ++ rdK y),[.e dst],af)]) K t) :
  TrO Γ (⟨some dst,.eqA m neg x y,g,af⟩ :: r) nv ⟨e,o,n⟩ d acc K t:=by
 have hn':=Nat.eq_of_beq_eq_true hn
 exact Am hg (c:=True) (we:=[(dst,.bool (if neg then !p else p))]) (wo:=[]) (rd:=rdK x ++ rdK y) (by simp [hx,hy,hq,hc,hn']) (by simp [hx,hy]) trivial h
theorem KV {op : UnOp} {c : Prop} (hg : gOn e g = true) (hx : Aa e x = some v) (hw : strip v = (true,v)) (hb : unD op v = (c,w)) (hc : c)
  (h : TrO Γ r (nv + 1) ⟨(dst,w) :: e,o,n⟩ d (acc ++ [(gK g ++ rdK x,[.e dst],af)]) K t) :
  TrO Γ (⟨some dst,.un op x,g,af⟩ :: r) nv ⟨e,o,n⟩ d acc K t :=
 Am hg (c:=c) (we:=[(dst,w)]) (wo:=[]) (rd:=rdK x) (by simp only [evalOp,R.run_bind,Ap,Option.getD_some,hx,hw,hb,R.run_pure,BB,Ad]; simp) (by simp) hc h
theorem Jr (hg : gOn e g = true) (hx : Aa e x = some (.int k' a)) (h : TrO Γ r (nv + 1) ⟨(dst,.int k (k.wrap a)) :: e,o,n⟩ d (acc ++ [(gK g ++ rdK x,[.e dst],af)]) K t) :
  TrO Γ (⟨some dst,.cvt k x,g,af⟩ :: r) nv ⟨e,o,n⟩ d acc K t :=
 Am hg (c:=True) (we:=[(dst,.int k (k.wrap a))]) (wo:=[]) (rd:=rdK x) (by simp [hx]) (by simp [hx]) trivial h
theorem Vw {bytes : Nat} {q : α} (en : α -> D) (hg : gOn e g = true) (hx : Aa e x = some (.int k a)) (hy : Aa e y = some (.int k' a)) (hz : z = en q) (hl : 0 <= a /\ a <= 16777216) (hby : Nat.ble bytes 65536 = true)
  (h : TrO Γ r (nv + 1) ⟨(dst,.osl dst nv 0 (List.replicate a.toNat q).length) :: e,(dst,some (nv,⟨false,false,s,ty,(List.replicate a.toNat q).map en⟩)) :: o,n⟩ d (acc ++ [(gK g ++ (rdK x ++ rdK y),[.e dst,.o dst],af)]) K t) :
  TrO Γ (⟨some dst,.mkS s ty bytes z x y,g,af⟩ :: r) nv ⟨e,o,n⟩ d acc K t:=by
 have:=Nat.le_of_ble_eq_true hby
 subst hz
 exact Am hg (c:=True) (we:=[(dst,.osl dst nv 0 (List.replicate a.toNat q).length)]) (wo:=[(dst,some (nv,⟨false,false,s,ty,(List.replicate a.toNat q).map en⟩))]) (rd:=rdK x ++ rdK y) (by simp [hx,hy,hl,this]) (by simp [hx,hy]) trivial h
theorem Ix (hg : gOn e g = true) {i : Nat} (hx : Aa e x = some (.optr gi vi i off)) (h : TrO Γ r (nv + 1) ⟨(dst,.optr gi vi i (off + m)) :: e,o,n⟩ d (acc ++ [(gK g ++ rdK x,[.e dst],af)]) K t) :
  TrO Γ (⟨some dst,.fldA m x,g,af⟩ :: r) nv ⟨e,o,n⟩ d acc K t :=
 Am hg (c:=True) (we:=[(dst,.optr gi vi i (off + m))]) (wo:=[]) (rd:=rdK x) (by simp [hx]) (by simp [hx]) trivial h
theorem GX (hg : gOn e g = true) (hx : Aa e x = some (.fptr z off)) (h : TrO Γ r (nv + 1) ⟨(dst,.fptr z (off + m)) :: e,o,n⟩ d (acc ++ [(gK g ++ rdK x,[.e dst],af)]) K t) :
  TrO Γ (⟨some dst,.fldA m x,g,af⟩ :: r) nv ⟨e,o,n⟩ d acc K t :=
 Am hg (c:=True) (we:=[(dst,.fptr z (off + m))]) (wo:=[]) (rd:=rdK x) (by simp [hx]) (by simp [hx]) trivial h
theorem Jv {cs : List D} {agg : Bool} (hg : gOn e g = true) (hx : Aa e x = some (.agg cs)) (hb : Nat.ble (off + m) cs.length = true) (hv : OR cs off m agg = v)
  (h : TrO Γ r (nv + 1) ⟨(dst,v) :: e,o,n⟩ d (acc ++ [(gK g ++ rdK x,[.e dst],af)]) K t) :
  TrO Γ (⟨some dst,.fld off m agg x,g,af⟩ :: r) nv ⟨e,o,n⟩ d acc K t:=by
 have hb':=Nat.le_of_ble_eq_true hb
 exact Am hg (c:=True) (we:=[(dst,v)]) (wo:=[]) (rd:=rdK x) (by simp [hx,hb',hv]) (by simp [hx]) trivial h
theorem DE {q : α} (hg : gOn e g = true) (hx : Aa e x = some (.sl (l.map en))) (hy : Aa e y = some (.int k a)) (hi : ixO l a = some q) (hs : (cells (en q)).length = s)
  (h : TrO Γ r (nv + 1) ⟨(dst,.fptr (en q) 0) :: e,o,n⟩ d (acc ++ [(gK g ++ (rdK x ++ rdK y),[.e dst],af)]) K t) :
  TrO Γ (⟨some dst,.ixA s x y,g,af⟩ :: r) nv ⟨e,o,n⟩ d acc K t:=by
 obtain ⟨h0,h1,h2⟩:=Xe hi
 refine Am hg (c:=True) (we:=[(dst,.fptr (en q) 0)]) (wo:=[]) (rd:=rdK x ++ rdK y) ?_ (by simp [hx,hy]) trivial h
 have hq : (l.map en).getD a.toNat .top = en q:=by simp [h2]
 simp only [evalOp,R.run_bind,Ap,Option.getD_some,hx,hy,strip,R.run_pure,Ad,hq,hs]
 simp [h0,h1]
theorem Tz {q : Nat} (hq : q = l.length) (hg : gOn e g = true) (hx : Aa e x = some (.osl gi vi 0 q)) (hy : Aa e y = some (.int k a)) (ho : lkO o gi = some (vi,⟨fz,false,s,ty,l.map en⟩)) (hi : 0 <= a /\ a < l.length)
  (h : TrO Γ r (nv + 1) ⟨(dst,.optr gi vi a.toNat 0) :: e,o,n⟩ d (acc ++ [(gK g ++ (rdK x ++ (rdK y ++ [.o gi])),[.e dst],af)]) K t) :
  TrO Γ (⟨some dst,.ixA s x y,g,af⟩ :: r) nv ⟨e,o,n⟩ d acc K t:=by
 subst hq
 refine Am hg (c:=True) (we:=[(dst,.optr gi vi a.toNat 0)]) (wo:=[]) (rd:=rdK x ++ (rdK y ++ [Key.o gi])) ?_ (by simp [hx,hy,ho]) trivial h
 simp only [evalOp,R.run_bind,Ap,Option.getD_some,hx,hy,strip,R.AU,Ax,ho,R.AF,Ad]
 simp [hi.1,hi.2]
theorem Ju {ds : List D} {i : Nat} (hg : gOn e g = true) (hx : Aa e x = some (.tup ds)) (hi : ds[i]? = some v) (h : TrO Γ r (nv + 1) ⟨(dst,v) :: e,o,n⟩ d (acc ++ [(gK g ++ rdK x,[.e dst],af)]) K t) :
  TrO Γ (⟨some dst,.ext x i,g,af⟩ :: r) nv ⟨e,o,n⟩ d acc K t:=by
 have hl:=(List.getElem?_eq_some_iff.1 hi).1
 exact Am hg (c:=True) (we:=[(dst,v)]) (wo:=[]) (rd:=rdK x) (by have:=(List.getElem?_eq_some_iff.1 hi).2; simp [hx,hl,this]) (by simp [hx]) trivial h
theorem GZ (hg : gOn e g = true) (hx : Aa e x = some (.sl (l.map en))) (h : TrO Γ r (nv + 1) ⟨(dst,.int .i64 l.length) :: e,o,n⟩ d (acc ++ [(gK g ++ rdK x,[.e dst],af)]) K t) :
  TrO Γ (⟨some dst,.len false x,g,af⟩ :: r) nv ⟨e,o,n⟩ d acc K t :=
 Am hg (c:=True) (we:=[(dst,.int .i64 l.length)]) (wo:=[]) (rd:=rdK x) (by simp [hx]) (by simp [hx]) trivial h
theorem Ga {i q : Nat} (hg : gOn e g = true) (hx : Aa e x = some (.osl gi vi i q)) (h : TrO Γ r (nv + 1) ⟨(dst,.int .i64 q) :: e,o,n⟩ d (acc ++ [(gK g ++ rdK x,[.e dst],af)]) K t) :
  TrO Γ (⟨some dst,.len false x,g,af⟩ :: r) nv ⟨e,o,n⟩ d acc K t :=
 Am hg (c:=True) (we:=[(dst,.int .i64 q)]) (wo:=[]) (rd:=rdK x) (by simp [hx]) (by simp [hx]) trivial h
theorem FZ (hg : gOn e g = true) (hx : Aa e x = some .nils) (h : TrO Γ r (nv + 1) ⟨(dst,.int .i64 0) :: e,o,n⟩ d (acc ++ [(gK g ++ rdK x,[.e dst],af)]) K t) :
  TrO Γ (⟨some dst,.len false x,g,af⟩ :: r) nv ⟨e,o,n⟩ d acc K t :=
 Am hg (c:=True) (we:=[(dst,.int .i64 0)]) (wo:=[]) (rd:=rdK x) (by simp [hx]) (by simp [hx]) trivial h
theorem Gb {p : List UInt8} (hg : gOn e g = true) (hx : Aa e x = some (.str p)) (h : TrO Γ r (nv + 1) ⟨(dst,.int .i64 p.length) :: e,o,n⟩ d (acc ++ [(gK g ++ rdK x,[.e dst],af)]) K t) :
  TrO Γ (⟨some dst,.len true x,g,af⟩ :: r) nv ⟨e,o,n⟩ d acc K t :=
 Am hg (c:=True) (we:=[(dst,.int .i64 p.length)]) (wo:=[]) (rd:=rdK x) (by simp [hx]) (by simp [hx]) trivial h
theorem UD {bytes : Nat} {c c' : Prop} {new old : List D} {wo : List (Nat × Ac)} {rk rk' : List Key} (l l' : List α) (en : α -> D) (hg : gOn e g = true) (hx : Aa e x = some v) (hy : Aa e y = some w) (hvw : strip v = (true,v)) (hww : strip w = (true,w))
  (hv : (view w).run ⟨e,o,n⟩ = (c,new)) (hvr : (view w).rd ⟨e,o,n⟩ = rk) (hc : c) (hn : new = l'.map en)
  (ht : (target s ty v).run ⟨e,o,n⟩ = (c',old,wo,false)) (htr : (target s ty v).rd ⟨e,o,n⟩ = rk') (hc' : c') (ho : old = l.map en)
  (hs : ∀ q,(cells (en q)).length = s) (hby : Nat.ble bytes 65536 = true) (hl : l.length + l'.length <= 16777216)
  (h : TrO Γ r (nv + 1) ⟨(dst,.osl dst nv 0 (l ++ l').length) :: e,(dst,some (nv,⟨false,false,s,ty,(l ++ l').map en⟩)) :: (wo ++ o),n⟩ d (acc ++ [(gK g ++ (rdK x ++ (rdK y ++ (rk ++ rk'))),[.e dst,.o dst] ++ wo.map (λx=>.o x.1),af)]) K t) :
  TrO Γ (⟨some dst,.app s ty bytes x y,g,af⟩ :: r) nv ⟨e,o,n⟩ d acc K t:=by
 have hb':=Nat.le_of_ble_eq_true hby
 subst hn; subst ho
 refine Am hg (c:=True) (we:=[(dst,.osl dst nv 0 (l ++ l').length)]) (wo:=(dst,some (nv,⟨false,false,s,ty,(l ++ l').map en⟩)) :: wo) (rd:=rdK x ++ (rdK y ++ (rk ++ rk'))) ?_ ?_ trivial (by simpa using h)
 ·simp only [evalOp,R.run_bind,Ap,Option.getD_some,hx,hy,hvw,hww,source,hv,ht,R.run_pure,Ad,CC,nmR,cond_false]
  simp [hc,hc',hl,hb',hs]
 ·simp only [evalOp,R.AM,Ap,Bg,Option.getD_some,hx,hy,hvw,hww,source,hv,hvr,htr,R.Bs]
  simp
theorem Jw (hg : gOn e g = true) (hx : Aa e x = some (.int k a)) (hy : Aa e y = some (.int k b)) (h : TrO Γ r (nv + 1) ⟨(dst,.int k (Wd a b)) :: e,o,n⟩ d (acc ++ [(gK g ++ (rdK x ++ rdK y),[.e dst],af)]) K t) :
  TrO Γ (⟨some dst,.max [x,y],g,af⟩ :: r) nv ⟨e,o,n⟩ d acc K t :=
 Am hg (c:=True) (we:=[(dst,.int k (Wd a b))]) (wo:=[]) (rd:=rdK x ++ rdK y) (by simp [AO,hx,hy,Hi]) (by simp [AO,hx,hy]) trivial h
theorem Jx (hg : gOn e g = true) (hx : Aa e x = some (.int k a)) (hy : Aa e y = some (.int k b)) (h : TrO Γ r (nv + 1) ⟨(dst,.int k (SV a b)) :: e,o,n⟩ d (acc ++ [(gK g ++ (rdK x ++ rdK y),[.e dst],af)]) K t) :
  TrO Γ (⟨some dst,.min [x,y],g,af⟩ :: r) nv ⟨e,o,n⟩ d acc K t :=
 Am hg (c:=True) (we:=[(dst,.int k (SV a b))]) (wo:=[]) (rd:=rdK x ++ rdK y) (by simp [AO,hx,hy,Hi]) (by simp [AO,hx,hy]) trivial h
theorem EO {hi : Arg} (hg : gOn e g = true) (hx : Aa e x = some (.sl (l.map en))) (hy : Aa e hi = some (.int k a)) (hs : ∀ q,(cells (en q)).length = s) (hp : Nat.blt 0 s = true) (hl : 0 <= a /\ a <= l.length)
  (h : TrO Γ r (nv + 1) ⟨(dst,.sl ((l.take a.toNat).map en)) :: e,o,n⟩ d (acc ++ [(gK g ++ (rdK x ++ rdK hi),[.e dst],af)]) K t) :
  TrO Γ (⟨some dst,.slc s x none (some hi),g,af⟩ :: r) nv ⟨e,o,n⟩ d acc K t:=by
 have hp' : 0 < s:=by simpa using hp
 refine Am hg (c:=True) (we:=[(dst,.sl ((l.take a.toNat).map en))]) (wo:=[]) (rd:=rdK x ++ rdK hi) ?_ ?_ trivial h
 ·simp only [evalOp,R.run_bind,Ap,Option.getD_some,hx,hy,strip,Bq,R.AF,R.run_pure,Bn,fits,BO,bound,BB,Ad]
  simp [hl,hs,hp',List.map_take]
 ·simp [Bq,hx,hy,fits]
theorem EP {lo : Arg} (hg : gOn e g = true) (hx : Aa e x = some (.sl (l.map en))) (hy : Aa e lo = some (.int k a)) (hs : ∀ q,(cells (en q)).length = s) (hp : Nat.blt 0 s = true) (hl : 0 <= a /\ a <= l.length)
  (h : TrO Γ r (nv + 1) ⟨(dst,.sl ((l.drop a.toNat).map en)) :: e,o,n⟩ d (acc ++ [(gK g ++ (rdK x ++ rdK lo),[.e dst],af)]) K t) :
  TrO Γ (⟨some dst,.slc s x (some lo) none,g,af⟩ :: r) nv ⟨e,o,n⟩ d acc K t:=by
 have hp' : 0 < s:=by simpa using hp
 refine Am hg (c:=True) (we:=[(dst,.sl ((l.drop a.toNat).map en))]) (wo:=[]) (rd:=rdK x ++ rdK lo) ?_ ?_ trivial h
 ·have ht : List.take (l.length - a.toNat) (List.drop a.toNat (l.map en)) = (l.drop a.toNat).map en:=by
   rw [<- List.map_drop]; exact List.take_of_length_le (by simp)
  simp only [evalOp,R.run_bind,Ap,Option.getD_some,hx,hy,strip,Bq,R.AF,R.run_pure,Bn,fits,BO,bound,BB,Ad,List.length_map,Int.toNat_natCast]
  rw [ht]
  simp [hl,hs,hp']
 ·simp [Bq,hx,hy,fits]
theorem RF {hi : Arg} {q : Nat} (hq : q = l.length) (hg : gOn e g = true) (hx : Aa e x = some (.osl gi vi 0 q)) (hy : Aa e hi = some (.int k a)) (ho : lkO o gi = some (vi,⟨fz,var,s,ty,es⟩)) (hp : Nat.blt 0 s = true) (hl : 0 <= a /\ a <= l.length)
  (h : TrO Γ r (nv + 1) ⟨(dst,.osl gi vi 0 a.toNat) :: e,o,n⟩ d (acc ++ [(gK g ++ (rdK x ++ (rdK hi ++ [.o gi])),[.e dst],af)]) K t) :
  TrO Γ (⟨some dst,.slc s x none (some hi),g,af⟩ :: r) nv ⟨e,o,n⟩ d acc K t:=by
 subst hq
 have hp' : 0 < s:=by simpa using hp
 refine Am hg (c:=True) (we:=[(dst,.osl gi vi 0 a.toNat)]) (wo:=[]) (rd:=rdK x ++ (rdK hi ++ [Key.o gi])) ?_ ?_ trivial h
 ·simp only [evalOp,R.run_bind,Ap,Option.getD_some,hx,hy,strip,Bq,R.AF,R.run_pure,Bn,fits,R.AU,Ax,ho,BO,bound,BB,Ad]
  simp [hl,hp']
 ·simp [Bq,hx,hy,fits,ho]
theorem Sy {lo : Arg} {q : Nat} (hq : q = l.length) (hg : gOn e g = true) (hx : Aa e x = some (.osl gi vi 0 q)) (hy : Aa e lo = some (.int k a)) (ho : lkO o gi = some (vi,⟨fz,var,s,ty,es⟩)) (hp : Nat.blt 0 s = true) (hl : 0 <= a /\ a <= l.length)
  (h : TrO Γ r (nv + 1) ⟨(dst,.osl gi vi a.toNat (l.length - a.toNat)) :: e,o,n⟩ d (acc ++ [(gK g ++ (rdK x ++ (rdK lo ++ [.o gi])),[.e dst],af)]) K t) :
  TrO Γ (⟨some dst,.slc s x (some lo) none,g,af⟩ :: r) nv ⟨e,o,n⟩ d acc K t:=by
 subst hq
 have hp' : 0 < s:=by simpa using hp
 refine Am hg (c:=True) (we:=[(dst,.osl gi vi a.toNat (l.length - a.toNat))]) (wo:=[]) (rd:=rdK x ++ (rdK lo ++ [Key.o gi])) ?_ ?_ trivial h
 ·simp only [evalOp,R.run_bind,Ap,Option.getD_some,hx,hy,strip,Bq,R.AF,R.run_pure,Bn,fits,R.AU,Ax,ho,BO,bound,BB,Ad]
  simp [hl,hp']
 ·simp [Bq,hx,hy,fits,ho]
theorem Ha {lo hi : Arg} {k2 : IntKind} (hg : gOn e g = true) (hx : Aa e x = some (.sl (l.map en))) (hy : Aa e lo = some (.int k a)) (hz : Aa e hi = some (.int k2 b)) (hs : ∀ q,(cells (en q)).length = s) (hp : Nat.blt 0 s = true) (hl : 0 <= a /\ a <= b /\ b <= l.length)
  (h : TrO Γ r (nv + 1) ⟨(dst,.sl (((l.drop a.toNat).take (b.toNat - a.toNat)).map en)) :: e,o,n⟩ d (acc ++ [(gK g ++ (rdK x ++ (rdK lo ++ rdK hi)),[.e dst],af)]) K t) :
  TrO Γ (⟨some dst,.slc s x (some lo) (some hi),g,af⟩ :: r) nv ⟨e,o,n⟩ d acc K t:=by
 have hp' : 0 < s:=by simpa using hp
 refine Am hg (c:=True) (we:=[(dst,.sl (((l.drop a.toNat).take (b.toNat - a.toNat)).map en))]) (wo:=[]) (rd:=rdK x ++ (rdK lo ++ rdK hi)) ?_ ?_ trivial h
 ·simp only [evalOp,R.run_bind,Ap,Option.getD_some,hx,hy,hz,strip,Bq,R.AF,R.run_pure,Bn,fits,BO,bound,BB,Ad]
  simp [hl,hs,hp',List.map_take,List.map_drop]
 ·simp [Bq,hx,hy,hz,fits]
end
end Go.Dw
namespace Go.Dw
section
variable {A B : Type}
def ON (ptr : List (Nat × (Nat × Nat))) (kind : Kind) (enc : A -> List D) (dec : List D -> A) (f : A -> Option B) (encR : B -> D) (encE : B -> List D) : Spec where
 ptr:=ptr
 kind:=kind
 pre:=λds=>∃ a b,ds = enc a /\ f a = some b
 res:=λds=>match f (dec ds) with | some b=>encR b | none=>.top
 eff:=λds=>match f (dec ds) with | some b=>encE b | none=>[]
variable {ptr : List (Nat × (Nat × Nat))} {kind : Kind} {enc : A -> List D} {dec : List D -> A} {f : A -> Option B} {encR : B -> D} {encE : B -> List D} {a : A} {b : B}
theorem BC (hde : ∀ a,dec (enc a) = a) (hf : f a = some b) : (ON ptr kind enc dec f encR encE).res (enc a) = encR b:=by simp [ON,hde,hf]
theorem Cd (hde : ∀ a,dec (enc a) = a) (hf : f a = some b) : (ON ptr kind enc dec f encR encE).eff (enc a) = encE b:=by simp [ON,hde,hf]
def Bv (ptr : List (Nat × (Nat × Nat))) (kind : Kind) (rs : List AS) (encR : B -> D) (encE : B -> List D) : B -> Au -> S -> Prop:=λb e τ =>
 match e with
 | .exit _=>False
 | _=>Wk (Cj ⟨ptr,kind,λ_=>True,λ_=>encR b,λ_=>encE b⟩ rs []) τ
theorem NK {P : Program} {Γ : Ar} (hΓ : ∀ k sp,Γ k = some sp -> OM P (k % 4096) sp) {k : Nat} {fn : Func} {dc : Pf} {rs : List AS} (hf : P.funcs[k]? = some fn) (hname : (fn.name == "runtime.NumGoroutine") = false)
  (hc : (fn.body.bind (PD P fn.ntmps)) = some dc) (hr : fn.results.toList.mapM (RJ P) = some rs) {np : Nat} (hnp : np <= fn.ntmps) (hde : ∀ a,dec (enc a) = a) (hlen : ∀ a,(enc a).length = np) (hkeys : ∀ a,BE ptr 0 (enc a) = ptr.map Prod.fst) (hptr : EA ptr = true)
  (hT : ∀ a,TrE Γ dc (Bv ptr kind rs encR encE) ⟨Dk ptr 0 (enc a),Cv ptr 0 (enc a),262144⟩ (f a)) (hni : BH kind = none:=by rfl) (hno : Dp kind = none:=by rfl) : OM P k (ON ptr kind enc dec f encR encE):=by
 refine MB hΓ hf hname hc hr hnp (by rintro ds ⟨a,b,rfl,_⟩; exact ⟨hlen a,hkeys a⟩) hptr ?_ hni hno
 rintro ds ⟨a,b,rfl,hb⟩ _
 have h:=hT a b hb
 refine h.mono λτ0 h=>Bu _ _ _ _ (λe τ hq=>?_) h
 have key : ∀ τ,Cj ⟨ptr,kind,λ_=>True,λ_=>encR b,λ_=>encE b⟩ rs [] τ -> Cj (ON ptr kind enc dec f encR encE) rs (enc a) τ:=by
  simp only [Cj,BC hde hb,Cd hde hb]
  exact λ_ h=>h
 cases e with
 | exit id=>exact hq.elim
 | normal=>exact hq.mono key
 | ret=>exact hq.mono key
end
def Al (e : List (Nat × D)) : List Arg -> List D
 | []=>[]
 | x :: r=>(Aa e x).getD .top :: Al e r
def Bf : List Arg -> List Key
 | []=>[]
 | x :: r=>rdK x ++ Bf r
section
variable {Γ : Ar} {X A B : Type} {K : KR X} {t : Option X} {e : List (Nat × D)} {o : List (Nat × Ac)} {n nv : Nat} {d : Bool} {acc : List CA}
 {r : List Aw} {dst : Nat} {g : Option (Nat × Bool)} {af : List Nat} {α : Type}
 {ptr : List (Nat × (Nat × Nat))} {kind : Kind} {enc : A -> List D} {dec : List D -> A} {f : A -> Option B} {encR : B -> D} {encE : B -> List D} {b : B}
 {fa : Arg} {args : List Arg} {caps : List D} {k : Nat} {c : Prop} {ds : List D} {w : List (Nat × Ac)} {ps : List (Nat × Nat × Own)} {rk : List Key} {s ty : Nat}
theorem Br : ∀ args : List Arg,(AO args).run ⟨e,o,n⟩ = Al e args
 | []=>rfl
 | x :: r=>by simp [AO,Al,Br r]
theorem Db : ∀ args : List Arg,(AO args).rd ⟨e,o,n⟩ = Bf args
 | []=>rfl
 | x :: r=>by simp [AO,Bf,Db r]
theorem Dd {sp : Spec} {dst : Option Nat} {c2 : Prop} {we : List (Nat × D)} {wo : List (Nat × Ac)} (hg : gOn e g = true) (hf : Aa e fa = some (.clo k caps)) (hΓ : Γ (k + 4096 * AN (Al e args)) = some sp) (hr : (Ae sp.ptr 0 (Al e args ++ caps)).run ⟨e,o,n⟩ = (c,ds,w,ps))
  (hk : (Ae sp.ptr 0 (Al e args ++ caps)).rd ⟨e,o,n⟩ = rk) (hco : AW dst nv sp c ds w ps = ⟨c2,we,wo⟩) (hc : c2)
  (h : TrO Γ r (nv + 1) ⟨we ++ e,wo ++ o,n⟩ d (acc ++ [(gK g ++ (rdK fa ++ (Bf args ++ rk)),we.map (λx=>.e x.1) ++ wo.map (λx=>.o x.1),af)]) K t) (hin : BH sp.kind = none:=by rfl) (hkb : Nat.blt k 4096 = true:=by rfl) :
  TrO Γ (⟨dst,.call fa args,g,af⟩ :: r) nv ⟨e,o,n⟩ d acc K t:=by
 refine Am hg (c:=c2) (we:=we) (wo:=wo) (rd:=rdK fa ++ (Bf args ++ rk)) ?_ ?_ hc h
 ·simp only [evalOp,R.run_bind,Bn,Option.getD_some,hf,hkb,Br,hΓ,hin,hr,R.run_pure,hco]
 ·simp only [evalOp,R.AM,Bn,Ff,Option.getD_some,hf,hkb,Br,hΓ,hin,Db,hr,hk,R.Bs,List.append_nil]
theorem Iy {sp : Spec} {vi gi ty' m : Nat} {l l' : List Int} {fl : List Int -> List Int} {fk : List Int -> Nat} (hg : gOn e g = true) (hf : Aa e fa = some (.clo k caps)) (hΓ : Γ (k + 4096 * AN (Al e args)) = some sp) (hin : BH sp.kind = some (false,fl,fk))
  (hr : Al e args ++ caps = [.osl gi vi 0 m]) (hm : m = l.length) (ho : lkO o gi = some (vi,⟨false,false,1,ty',l.map (.int .i64)⟩)) (hl : l.length < 4611686018427387904) (hfl : fl l = l')
  (h : TrO Γ r (nv + 1) ⟨e,(gi,some (vi,⟨false,false,1,ty',l'.map (.int .i64)⟩)) :: o,n⟩ d (acc ++ [(gK g ++ (rdK fa ++ (Bf args ++ [.o gi])),[.o gi],af)]) K t) (hkb : Nat.blt k 4096 = true:=by rfl) :
  TrO Γ (⟨none,.call fa args,g,af⟩ :: r) nv ⟨e,o,n⟩ d acc K t:=by
 subst hm hfl
 have hd : (l.map (D.int .i64)).map Du = l:=by simp [Function.comp_def,Du]
 refine Am hg (c:=True) (we:=[]) (wo:=[(gi,some (vi,⟨false,false,1,ty',(fl l).map (.int .i64)⟩))]) (rd:=rdK fa ++ (Bf args ++ [Key.o gi])) ?_ ?_ trivial ?_
 ·simp only [evalOp,R.run_bind,Bn,Option.getD_some,hf,hkb,Br,hΓ,hin,hr,Cw,R.AU,Ax,ho,R.AF]
  simp [Ad,hd,hl,List.take_of_length_le,AA,cells,plain]
 ·simp only [evalOp,R.AM,Bn,Ff,Option.getD_some,hf,hkb,Br,hΓ,hin,Db,hr,Cw,R.BN,Ax,ho,R.Cc]
 ·exact h
theorem GY {sp : Spec} {vi gi ty' m : Nat} {l l' : List Int} {fl : List Int -> List Int} {fk : List Int -> Nat} (hg : gOn e g = true) (hf : Aa e fa = some (.clo k caps)) (hΓ : Γ (k + 4096 * AN (Al e args)) = some sp) (hin : BH sp.kind = some (false,fl,fk))
  (hr : Al e args ++ caps = [.osl gi vi 0 m]) (hm : m = l.length) (ho : lkO o gi = some (vi,⟨false,false,1,ty',l.map (.int .i64)⟩)) (hl : l.length < 4611686018427387904) (hfl : fl l = l')
  (h : TrO Γ r (nv + 1) ⟨(dst,.top) :: e,(gi,some (vi,⟨false,false,1,ty',l'.map (.int .i64)⟩)) :: o,n⟩ d (acc ++ [(gK g ++ (rdK fa ++ (Bf args ++ [.o gi])),[.e dst,.o gi],af)]) K t) (hkb : Nat.blt k 4096 = true:=by rfl) :
  TrO Γ (⟨some dst,.call fa args,g,af⟩ :: r) nv ⟨e,o,n⟩ d acc K t:=by
 subst hm hfl
 have hd : (l.map (D.int .i64)).map Du = l:=by simp [Function.comp_def,Du]
 refine Am hg (c:=True) (we:=[(dst,.top)]) (wo:=[(gi,some (vi,⟨false,false,1,ty',(fl l).map (.int .i64)⟩))]) (rd:=rdK fa ++ (Bf args ++ [Key.o gi])) ?_ ?_ trivial ?_
 ·simp only [evalOp,R.run_bind,Bn,Option.getD_some,hf,hkb,Br,hΓ,hin,hr,Cw,R.AU,Ax,ho,R.AF]
  simp [Ad,hd,hl,List.take_of_length_le,AA,cells,plain]
 ·simp only [evalOp,R.AM,Bn,Ff,Option.getD_some,hf,hkb,Br,hΓ,hin,Db,hr,Cw,R.BN,Ax,ho,R.Cc]
 ·exact h
theorem Ft {sp : Spec} {vi gi ty' m : Nat} {l l' : List Int} {fl : List Int -> List Int} {fk : List Int -> Nat} (hg : gOn e g = true) (hf : Aa e fa = some (.clo k caps)) (hΓ : Γ (k + 4096 * AN (Al e args)) = some sp) (hin : BH sp.kind = some (true,fl,fk))
  (hr : Al e args ++ caps = [.osl gi vi 0 m]) (hm : m = l.length) (ho : lkO o gi = some (vi,⟨false,false,1,ty',l.map (.int .i64)⟩)) (hl : l.length < 4611686018427387904) (hfl : (fl l).take (fk l) = l') (hfk : fk l = l'.length)
  (h : TrO Γ r (nv + 1) ⟨(dst,.osl gi vi 0 l'.length) :: e,(gi,some (vi,⟨false,false,1,ty',l'.map (.int .i64)⟩)) :: o,n⟩ d (acc ++ [(gK g ++ (rdK fa ++ (Bf args ++ [.o gi])),[.e dst,.o gi],af)]) K t) (hkb : Nat.blt k 4096 = true:=by rfl) :
  TrO Γ (⟨some dst,.call fa args,g,af⟩ :: r) nv ⟨e,o,n⟩ d acc K t:=by
 subst hm hfl
 have hd : (l.map (D.int .i64)).map Du = l:=by simp [Function.comp_def,Du]
 refine Am hg (c:=True) (we:=[(dst,.osl gi vi 0 ((fl l).take (fk l)).length)]) (wo:=[(gi,some (vi,⟨false,false,1,ty',((fl l).take (fk l)).map (.int .i64)⟩))]) (rd:=rdK fa ++ (Bf args ++ [Key.o gi])) ?_ ?_ trivial ?_
 ·simp only [evalOp,R.run_bind,Bn,Option.getD_some,hf,hkb,Br,hΓ,hin,hr,Cw,R.AU,Ax,ho,R.AF]
  simp [Ad,hd,hl,List.take_of_length_le,AA,cells,plain]
  rw [List.length_take] at hfk
  exact ⟨hfk,by rw [List.drop_of_length_le (by simp),List.append_nil]⟩
 ·simp only [evalOp,R.AM,Bn,Ff,Option.getD_some,hf,hkb,Br,hΓ,hin,Db,hr,Cw,R.BN,Ax,ho,R.Cc]
 ·exact h
theorem Fs (a : A) (hg : gOn e g = true) (hf : Aa e fa = some (.clo k caps)) (hΓ : Γ (k + 4096 * AN (Al e args)) = some (ON ptr .val enc dec f encR encE)) (hde : ∀ a,dec (enc a) = a) (hr : (Ae ptr 0 (Al e args ++ caps)).run ⟨e,o,n⟩ = (c,ds,w,ps))
  (hk : (Ae ptr 0 (Al e args ++ caps)).rd ⟨e,o,n⟩ = rk) (hc : c) (hds : ds = enc a) (hb : f a = some b)
  (h : TrO Γ r (nv + 1) ⟨(dst,encR b) :: e,(Ah ps (encE b) ++ w) ++ o,n⟩ d (acc ++ [(gK g ++ (rdK fa ++ (Bf args ++ rk)),.e dst :: (Ah ps (encE b) ++ w).map (λx=>.o x.1),af)]) K t) (hkb : Nat.blt k 4096 = true:=by rfl) :
  TrO Γ (⟨some dst,.call fa args,g,af⟩ :: r) nv ⟨e,o,n⟩ d acc K t:=by
 subst hds
 refine Dd (hkb:=hkb) hg hf hΓ (sp:=ON ptr .val enc dec f encR encE) hr hk (c2:=c /\ ∃ a' b',enc a = enc a' /\ f a' = some b') (we:=[(dst,encR b)]) (wo:=Ah ps (encE b) ++ w) ?_ ⟨hc,a,b,rfl,hb⟩ h
 simp only [AW,BC hde hb,Cd hde hb,Ad]
 rfl
theorem EM (a : A) (hg : gOn e g = true) (hf : Aa e fa = some (.clo k caps)) (hΓ : Γ (k + 4096 * AN (Al e args)) = some (ON ptr .val enc dec f encR encE)) (hde : ∀ a,dec (enc a) = a) (hr : (Ae ptr 0 (Al e args ++ caps)).run ⟨e,o,n⟩ = (c,ds,w,ps))
  (hk : (Ae ptr 0 (Al e args ++ caps)).rd ⟨e,o,n⟩ = rk) (hc : c) (hds : ds = enc a) (hb : f a = some b)
  (h : TrO Γ r (nv + 1) ⟨e,(Ah ps (encE b) ++ w) ++ o,n⟩ d (acc ++ [(gK g ++ (rdK fa ++ (Bf args ++ rk)),(Ah ps (encE b) ++ w).map (λx=>.o x.1),af)]) K t) (hkb : Nat.blt k 4096 = true:=by rfl) :
  TrO Γ (⟨none,.call fa args,g,af⟩ :: r) nv ⟨e,o,n⟩ d acc K t:=by
 subst hds
 refine Dd (hkb:=hkb) hg hf hΓ (sp:=ON ptr .val enc dec f encR encE) hr hk (c2:=c /\ ∃ a' b',enc a = enc a' /\ f a' = some b') (we:=[]) (wo:=Ah ps (encE b) ++ w) ?_ ⟨hc,a,b,rfl,hb⟩ h
 simp only [AW,BC hde hb,Cd hde hb,Ad]
 rfl
theorem DU (a : A) (hg : gOn e g = true) (hf : Aa e fa = some (.clo k caps)) (hΓ : Γ (k + 4096 * AN (Al e args)) = some (ON [] .ground enc dec f encR encE)) (hde : ∀ a,dec (enc a) = a) (hr : (Ae [] 0 (Al e args ++ caps)).run ⟨e,o,n⟩ = (c,ds,w,ps))
  (hk : (Ae [] 0 (Al e args ++ caps)).rd ⟨e,o,n⟩ = rk) (hc : c) (hds : ds = enc a) (hb : f a = some b) (hgr : isGround (encR b) = true)
  (h : TrO Γ r (nv + 1) ⟨(dst,encR b) :: e,o,n⟩ d (acc ++ [(gK g ++ (rdK fa ++ (Bf args ++ rk)),[.e dst],af)]) K t) (hkb : Nat.blt k 4096 = true:=by rfl) :
  TrO Γ (⟨some dst,.call fa args,g,af⟩ :: r) nv ⟨e,o,n⟩ d acc K t:=by
 subst hds
 refine Dd (hkb:=hkb) hg hf hΓ (sp:=ON [] .ground enc dec f encR encE) hr hk (c2:=c /\ (∃ a' b',enc a = enc a' /\ f a' = some b') /\ isGround (encR b) = true /\ ([] : List (Nat × (Nat × Nat))) = []) (we:=[(dst,encR b)]) (wo:=[]) ?_ ⟨hc,⟨a,b,rfl,hb⟩,hgr,rfl⟩ h
 simp only [AW,BC hde hb,Ad]
 simp [ON]
theorem Fq (a : A) {l : List α} {en : α -> D} (hg : gOn e g = true) (hf : Aa e fa = some (.clo k caps)) (hΓ : Γ (k + 4096 * AN (Al e args)) = some (ON ptr (.row s ty) enc dec f encR encE)) (hde : ∀ a,dec (enc a) = a) (hr : (Ae ptr 0 (Al e args ++ caps)).run ⟨e,o,n⟩ = (c,ds,w,ps))
  (hk : (Ae ptr 0 (Al e args ++ caps)).rd ⟨e,o,n⟩ = rk) (hc : c) (hds : ds = enc a) (hb : f a = some b) (hl : encR b = .sl (l.map en))
  (h : TrO Γ r (nv + 1) ⟨(dst,.osl dst nv 0 l.length) :: e,((dst,some (nv,⟨false,false,s,ty,l.map en⟩)) :: (Ah ps (encE b) ++ w)) ++ o,n⟩ d (acc ++ [(gK g ++ (rdK fa ++ (Bf args ++ rk)),.e dst :: .o dst :: (Ah ps (encE b) ++ w).map (λx=>.o x.1),af)]) K t) (hkb : Nat.blt k 4096 = true:=by rfl) :
  TrO Γ (⟨some dst,.call fa args,g,af⟩ :: r) nv ⟨e,o,n⟩ d acc K t:=by
 subst hds
 refine Dd (hkb:=hkb) hg hf hΓ (sp:=ON ptr (.row s ty) enc dec f encR encE) hr hk (c2:=c /\ (∃ a' b',enc a = enc a' /\ f a' = some b') /\ (some dst).isSome = true) (we:=[(dst,.osl dst nv 0 l.length)]) (wo:=(dst,some (nv,⟨false,false,s,ty,l.map en⟩)) :: (Ah ps (encE b) ++ w)) ?_ ⟨hc,⟨a,b,rfl,hb⟩,rfl⟩ h
 simp only [AW,BC hde hb,Cd hde hb,hl,Ad,AK]
 simp [ON]
theorem Fp (a : A) (hg : gOn e g = true) (hf : Aa e fa = some (.clo k caps)) (hΓ : Γ (k + 4096 * AN (Al e args)) = some (ON ptr (.ptr s ty) enc dec f encR encE)) (hde : ∀ a,dec (enc a) = a) (hr : (Ae ptr 0 (Al e args ++ caps)).run ⟨e,o,n⟩ = (c,ds,w,ps))
  (hk : (Ae ptr 0 (Al e args ++ caps)).rd ⟨e,o,n⟩ = rk) (hc : c) (hds : ds = enc a) (hb : f a = some b)
  (h : TrO Γ r (nv + 1) ⟨(dst,.optr dst nv 0 0) :: e,((dst,some (nv,⟨false,true,s,ty,[encR b]⟩)) :: (Ah ps (encE b) ++ w)) ++ o,n⟩ d (acc ++ [(gK g ++ (rdK fa ++ (Bf args ++ rk)),.e dst :: .o dst :: (Ah ps (encE b) ++ w).map (λx=>.o x.1),af)]) K t) (hkb : Nat.blt k 4096 = true:=by rfl) :
  TrO Γ (⟨some dst,.call fa args,g,af⟩ :: r) nv ⟨e,o,n⟩ d acc K t:=by
 subst hds
 refine Dd (hkb:=hkb) hg hf hΓ (sp:=ON ptr (.ptr s ty) enc dec f encR encE) hr hk (c2:=c /\ (∃ a' b',enc a = enc a' /\ f a' = some b') /\ (some dst).isSome = true) (we:=[(dst,.optr dst nv 0 0)]) (wo:=(dst,some (nv,⟨false,true,s,ty,[encR b]⟩)) :: (Ah ps (encE b) ++ w)) ?_ ⟨hc,⟨a,b,rfl,hb⟩,rfl⟩ h
 simp only [AW,BC hde hb,Cd hde hb,Ad,AK]
 simp [ON]
theorem Mj (a : A) {q : Nat} {rs : List D} {z : D} (hg : gOn e g = true) (hf : Aa e fa = some (.clo k caps)) (hΓ : Γ (k + 4096 * AN (Al e args)) = some (ON ptr (.tupPtr q s ty) enc dec f encR encE)) (hde : ∀ a,dec (enc a) = a) (hr : (Ae ptr 0 (Al e args ++ caps)).run ⟨e,o,n⟩ = (c,ds,w,ps))
  (hk : (Ae ptr 0 (Al e args ++ caps)).rd ⟨e,o,n⟩ = rk) (hc : c) (hds : ds = enc a) (hb : f a = some b) (hl : encR b = .tup rs) (hz : rs.getD q .top = z)
  (h : TrO Γ r (nv + 1) ⟨(dst,.tup (rs.set q (.optr dst nv 0 0))) :: e,((dst,some (nv,⟨false,true,s,ty,[z]⟩)) :: (Ah ps (encE b) ++ w)) ++ o,n⟩ d (acc ++ [(gK g ++ (rdK fa ++ (Bf args ++ rk)),.e dst :: .o dst :: (Ah ps (encE b) ++ w).map (λx=>.o x.1),af)]) K t) (hkb : Nat.blt k 4096 = true:=by rfl) :
  TrO Γ (⟨some dst,.call fa args,g,af⟩ :: r) nv ⟨e,o,n⟩ d acc K t:=by
 subst hds
 subst hz
 refine Dd (hkb:=hkb) hg hf hΓ (sp:=ON ptr (.tupPtr q s ty) enc dec f encR encE) hr hk (c2:=c /\ (∃ a' b',enc a = enc a' /\ f a' = some b') /\ (some dst).isSome = true) (we:=[(dst,.tup (rs.set q (.optr dst nv 0 0)))]) (wo:=(dst,some (nv,⟨false,true,s,ty,[rs.getD q .top]⟩)) :: (Ah ps (encE b) ++ w)) ?_ ⟨hc,⟨a,b,rfl,hb⟩,rfl⟩ h
 simp only [AW,BC hde hb,Cd hde hb,hl,Ad,AK]
 simp [ON]
theorem XG {q : Nat} (hg : gOn e g = true) (hx : Al e args = caps) (hc : ∀ d ∈ caps,UC d = true)
  (h : TrO Γ r (nv + 1) ⟨(dst,.clo q caps) :: e,o,n⟩ d (acc ++ [(gK g ++ Bf args,[.e dst],af)]) K t) : TrO Γ (⟨some dst,.mkf q args,g,af⟩ :: r) nv ⟨e,o,n⟩ d acc K t :=
 Am hg (c:=∀ d ∈ caps,UC d = true) (we:=[(dst,.clo q caps)]) (wo:=[]) (rd:=Bf args) (by simp [evalOp,Br,hx,Ad]) (by simp [evalOp,Db]) hc h
end
@[simp] theorem JY (g : Nat) : (Ab g = false) ↔ g < 4096:=by
 simp only [Ab]
 cases hb : Nat.ble 4096 g
 ·simp only [true_iff]; by_cases h : g < 4096
  ·exact h
  ·rw [Nat.ble_eq_true_of_le (by omega)] at hb; cases hb
 ·have:=Nat.le_of_ble_eq_true hb; simp; omega
@[simp] theorem Ob (g : Nat) : (Ab g = true) ↔ 4096 <= g:=by
 have:=JY g
 cases hb : Ab g <;> simp_all <;> omega
section
variable {B α : Type} {e : List (Nat × D)} {o : List (Nat × Ac)} {n np : Nat} {ptr : List (Nat × (Nat × Nat))} {encR : B -> D} {encE : B -> List D} {b : B} {r0 : AS} {rs : List AS}
 {ce c c1 : Prop} {effs ds : List D} {we w : List (Nat × Ac)} {d0 d1 : D} {s ty g : Nat}
theorem WA (he : (BG ptr).run ⟨e,o,n⟩ = (ce,effs,we)) (hce : ce) (heff : effs = encE b) (hr : (DY r0).run ⟨e,o,n⟩ = (c,d0,w)) (hc : c) (hd : d0 = encR b) : TrX .ret (Bv ptr .val [r0] encR encE) ⟨e,o,n⟩ (some b):=by
 rintro _ ⟨⟩
 refine ⟨_,.refl _,?_⟩
 simp only [Cj,he,hr]
 exact ⟨hce,heff,hc,hd⟩
theorem JW (he : (BG ptr).run ⟨e,o,n⟩ = (ce,effs,we)) (hce : ce) (heff : effs = encE b) (hr : (DY r0).run ⟨e,o,n⟩ = (c,d0,w)) (hc : c) (hd : d0 = encR b) : TrX .ret (Bv ptr .ground [r0] encR encE) ⟨e,o,n⟩ (some b):=by
 rintro _ ⟨⟩
 refine ⟨_,.refl _,?_⟩
 simp only [Cj,he,hr]
 exact ⟨hce,heff,hc,hd⟩
theorem EL {_q : D -> Prop} (h : rs.length ≠ 1) (hk : ce /\ effs = encE b /\ c /\ .tup ds = encR b /\ rs.length ≠ 1) (he : (BG ptr).run ⟨e,o,n⟩ = (ce,effs,we)) (hr : (AG rs).run ⟨e,o,n⟩ = (c,ds,w)) (kind : Kind) (hkind : kind = .val \/ kind = .ground) :
  Cj ⟨ptr,kind,λ_=>True,λ_=>encR b,λ_=>encE b⟩ rs [] ⟨e,o,n⟩:=by
 rcases hkind with rfl | rfl <;> (
  simp only [Cj,he]
  refine ⟨hk.1,hk.2.1,?_⟩
  match rs,h,hr with
  | [],h,hr=>simp only [hr]; exact hk.2.2
  | [_],h,_=>exact (h rfl).elim
  | _ :: _ :: _,h,hr=>simp only [hr]; exact hk.2.2)
theorem IE (he : (BG ptr).run ⟨e,o,n⟩ = (ce,effs,we)) (hce : ce) (heff : effs = encE b) (hr : (AG rs).run ⟨e,o,n⟩ = (c,ds,w)) (hc : c) (hd : .tup ds = encR b) (hl : rs.length ≠ 1) : TrX .ret (Bv ptr .val rs encR encE) ⟨e,o,n⟩ (some b):=by
 rintro _ ⟨⟩
 refine ⟨_,.refl _,?_⟩
 exact EL (_q:=λ_=>True) hl ⟨hce,heff,hc,hd,hl⟩ he hr _ (.inl rfl)
theorem Hp (he : (BG ptr).run ⟨e,o,n⟩ = (ce,effs,we)) (hce : ce) (heff : effs = encE b) (hr : (AG rs).run ⟨e,o,n⟩ = (c,ds,w)) (hc : c) (hd : .tup ds = encR b) (hl : rs.length ≠ 1) : TrX .ret (Bv ptr .ground rs encR encE) ⟨e,o,n⟩ (some b):=by
 rintro _ ⟨⟩
 refine ⟨_,.refl _,?_⟩
 exact EL (_q:=λ_=>True) hl ⟨hce,heff,hc,hd,hl⟩ he hr _ (.inr rfl)
theorem MK (he : (BG ptr).run ⟨e,o,n⟩ = (ce,effs,we)) (hce : ce) (heff : effs = encE b) (hr : (OO r0).run ⟨e,o,n⟩ = (c,d0)) (hc : c) (hs : (DX false s ty d0).run ⟨e,o,n⟩ = (c1,d1,g)) (hc1 : c1) (hd : d1 = encR b) (hw : we.all (λx=>x.1 != g) = true) :
  TrX .ret (Bv ptr (.row s ty) [r0] encR encE) ⟨e,o,n⟩ (some b):=by
 rintro _ ⟨⟩
 refine ⟨_,.refl _,?_⟩
 simp only [Cj,he,hr,hs]
 exact ⟨hce,heff,hc,hc1,hd,hw⟩
theorem MJ (hr : (OO r0).run ⟨e,o,n⟩ = (c,d0)) (hc : c) (hs : (Cf s ty d0).run ⟨e,o,n⟩ = (c1,d1,w,g)) (hc1 : c1) (hd : d1 = encR b) (he : (BG ptr).run ⟨e,o,n⟩ = (ce,effs,we)) (hce : ce) (heff : effs = encE b) (hrg : Ab g = false:=by rfl) :
  TrX .ret (Bv ptr (.ptr s ty) [r0] encR encE) ⟨e,o,n⟩ (some b):=by
 rintro _ ⟨⟩
 refine ⟨_,.refl _,?_⟩
 simp only [Cj,he,hr,hs]
 exact ⟨hce,heff,hc,hc1,hd,hrg⟩
theorem JX {q : Nat} {cA cB cP : Prop} {dA dB : List D} {dP dq : D} {wA wB wP : List (Nat × Ac)} (hq : q < rs.length) (hl : rs.length ≠ 1) (hA : (AG (rs.take q)).run ⟨e,o,n⟩ = (cA,dA,wA)) (hcA : cA) (hB : (AG (rs.drop (q + 1))).run ⟨e,o,n⟩ = (cB,dB,wB)) (hcB : cB)
  (hr : (OO (rs.getD q (.t 0))).run ⟨e,o,n⟩ = (c,dq)) (hc : c) (hP : (Cf s ty dq).run ⟨e,o,n⟩ = (cP,dP,wP,g)) (hcP : cP) (hd : .tup (dA ++ dP :: dB) = encR b) (he : (BG []).run ⟨e,o,n⟩ = (ce,effs,we)) (hce : ce) (heff : effs = encE b) :
  TrX .ret (Bv [] (.tupPtr q s ty) rs encR encE) ⟨e,o,n⟩ (some b):=by
 rintro _ ⟨⟩
 refine ⟨_,.refl _,?_⟩
 have key : q < rs.length /\ rs.length ≠ 1 /\ True /\ ((AG (rs.take q)).run ⟨e,o,n⟩).1 /\ ((AG (rs.drop (q + 1))).run ⟨e,o,n⟩).1 /\ ((OO (rs.getD q (.t 0))).run ⟨e,o,n⟩).1 /\ ((Cf s ty ((OO (rs.getD q (.t 0))).run ⟨e,o,n⟩).2).run ⟨e,o,n⟩).1 /\
   .tup (((AG (rs.take q)).run ⟨e,o,n⟩).2.1 ++ ((Cf s ty ((OO (rs.getD q (.t 0))).run ⟨e,o,n⟩).2).run ⟨e,o,n⟩).2.1 :: ((AG (rs.drop (q + 1))).run ⟨e,o,n⟩).2.1) = encR b:=by
  rw [hA,hB,hr,hP]
  exact ⟨hq,hl,trivial,hcA,hcB,hc,hcP,hd⟩
 clear hA hB hr hP
 simp only [Cj,he]
 refine ⟨hce,heff,?_⟩
 cases rs with
 | nil=>exact key
 | cons r0 rs=>cases rs <;> exact key
end
@[simp] theorem NX (cs : List D) : cells (.agg cs) = cs:=rfl
def HQ (e : List (Nat × D)) : List (Nat × D) -> Prop
 | []=>True
 | (t,d) :: r=>(PS e t).getD .top = d /\ HQ e r
def HR (o : List (Nat × Ac)) : List (Nat × Ac) -> Prop
 | []=>True
 | (g,x) :: r=>lkO o g = x /\ HR o r
theorem HQ.get {e : List (Nat × D)} : ∀ {E : List (Nat × D)},HQ e E -> ∀ p ∈ E,(PS e p.1).getD .top = p.2
 | [],_,p,hp=>by cases hp
 | q :: r,h,p,hp=>by
  cases hp with
  | head=>exact h.1
  | tail _ hp=>exact HQ.get h.2 p hp
theorem HR.get {o : List (Nat × Ac)} : ∀ {O : List (Nat × Ac)},HR o O -> ∀ p ∈ O,lkO o p.1 = p.2
 | [],_,p,hp=>by cases hp
 | q :: r,h,p,hp=>by
  cases hp with
  | head=>exact h.1
  | tail _ hp=>exact HR.get h.2 p hp
theorem NH {B : Type} {ptr : List (Nat × (Nat × Nat))} {kind : Kind} {rs : List AS} {encR : B -> D} {encE : B -> List D} {τ : S} {t : Option B} {x : Au} {E : List (Nat × D)} {O : List (Nat × Ac)} (hh : Has τ E O) (hx : ∀ id,x ≠ .exit id) (h : ∀ n,TrX .ret (Bv ptr kind rs encR encE) ⟨E,O,n⟩ t) : TrX x (Bv ptr kind rs encR encE) τ t:=λr hr=>by
 obtain ⟨n,hh⟩:=hh
 obtain ⟨τ',h1,h2⟩:=h n r hr
 cases x with
 | exit id=>exact (hx id rfl).elim
 | normal=>exact ⟨τ',hh.trans h1,h2⟩
 | ret=>exact ⟨τ',hh.trans h1,h2⟩
theorem Up {e E : List (Nat × D)} {o O : List (Nat × Ac)} {n : Nat} (hE : HQ e E) (hO : HR o O) : Has ⟨e,o,n⟩ E O:=by
 refine ⟨n,?_⟩
 refine Chg.Dx (τ:=⟨E,O,n⟩) [] ⟨?_,?_,?_,Nat.le_refl _⟩ (.refl _)
 ·intro p hp; cases hp
 ·intro p hp
  refine .inl (.inl ?_)
  have:=hE.get p hp
  rw [BI] at this
  exact this
 ·intro p hp
  refine .inl ?_
  have:=hO.get p hp
  simp only [S.gof,List.nil_append,Ax]
  exact this
theorem Wz {x : D} {g v q q' : Nat} (h1 : x = .osl g v 0 q) (h2 : q = q') : x = .osl g v 0 q':=h2 ▸ h1
section
variable {e E : List (Nat × D)} {o O : List (Nat × Ac)} {n : Nat} {ws : List (Nat × Ac)} {α : Type}
def HL (e : List (Nat × D)) (o : List (Nat × Ac)) (n : Nat) (ws : List (Nat × Ac)) : List (Nat × D) -> Prop
 | []=>True
 | (t,d) :: r=>Conv ⟨e,o,n⟩ ws ((PS e t).getD .top) d /\ HL e o n ws r
def HM (e : List (Nat × D)) (o : List (Nat × Ac)) (n : Nat) (ws : List (Nat × Ac)) : List (Nat × Ac) -> Prop
 | []=>True
 | (g,x) :: r=>(lkO (ws ++ o) g = x \/ ∃ v p z z',lkO (ws ++ o) g = some (v,p) /\ p.var = true /\ p.es = [z] /\ x = some (v,{ p with es:=[z'] }) /\ Conv ⟨e,o,n⟩ ws z z') /\ HM e o n ws r
def FzB (o : List (Nat × Ac)) : List (Nat × Ac) -> Prop
 | []=>True
 | (g,x) :: r=>(∃ v p,lkO o g = some (v,p) /\ p.var = false /\ x = some (v,{ p with fz:=true })) /\ FzB o r
theorem Vd (ws : List (Nat × Ac)) (hw : FzB o ws) (hE : HL e o n ws E) (hO : HM e o n ws O) : Has ⟨e,o,n⟩ E O:=by
 refine ⟨n,?_⟩
 refine Chg.Dx (τ:=⟨E,O,n⟩) ws ⟨?_,?_,?_,Nat.le_refl _⟩ (.refl _)
 ·clear hE hO
  induction ws with
  | nil=>intro p hp; cases hp
  | cons q r ih =>
   intro p hp
   cases hp with
   | head =>
    obtain ⟨v,p,h1,h2,h3⟩:=hw.1
    exact ⟨v,p,by rw [Ax]; exact h1,h2,h3⟩
   | tail _ hp=>exact ih hw.2 p hp
 ·clear hw hO
  induction E with
  | nil=>intro p hp; cases hp
  | cons q r ih =>
   intro p hp
   cases hp with
   | head =>
    have:=hE.1
    rw [BI] at this
    exact this
   | tail _ hp=>exact ih hE.2 p hp
 ·clear hw hE
  induction O with
  | nil=>intro p hp; cases hp
  | cons q r ih =>
   intro p hp
   cases hp with
   | head =>
    simp only [S.gof,Ax]
    exact hO.1
   | tail _ hp=>exact ih hO.2 p hp
theorem PF {x d : D} (h : x = d) : Conv ⟨e,o,n⟩ ws x d:=.inl (.inl h)
theorem SK {x d : D} (h : x = d) : Dg ⟨e,o,n⟩ ws x d:=.inl h
theorem SA {x : D} (en : α -> D) (h : x = .nils) : Dg ⟨e,o,n⟩ ws x (.sl (([] : List α).map en)):=by
 subst h
 exact .inr ⟨trivial,rfl,λp hp=>by cases hp⟩
theorem RW {x : D} {g v q s ty : Nat} {fz : Bool} {l : List α} {en : α -> D} (h : x = .osl g v 0 q) (hq : q = l.length) (ho : lkO o g = some (v,⟨fz,false,s,ty,l.map en⟩)) (hw : (g,some (v,(⟨true,false,s,ty,l.map en⟩ : Own))) ∈ ws) : Dg ⟨e,o,n⟩ ws x (.sl (l.map en)):=by
 subst h; subst hq
 refine .inr ⟨?_,?_,?_⟩
 ·simp [AH,ho]
 ·simp [AH,ho]; exact List.take_of_length_le (by simp)
 ·intro p hp
  simp [AH,ho] at hp
  subst hp
  exact hw
theorem EZ {x : D} {g v i s ty : Nat} {fz : Bool} {l : List α} {en : α -> D} (h : x = .osl g v i (l.length - i)) (hi : i <= l.length) (ho : lkO o g = some (v,⟨fz,false,s,ty,l.map en⟩)) (hw : (g,some (v,(⟨true,false,s,ty,l.map en⟩ : Own))) ∈ ws) : Dg ⟨e,o,n⟩ ws x (.sl ((l.drop i).map en)):=by
 subst h
 refine .inr ⟨?_,?_,?_⟩
 ·simp [AH,ho]; omega
 ·simp [AH,ho]; exact List.take_of_length_le (by simp)
 ·intro p hp
  simp [AH,ho] at hp
  subst hp
  exact hw
theorem RX {x d : D} (h : Dg ⟨e,o,n⟩ ws x d) : Conv ⟨e,o,n⟩ ws x d:=.inl h
theorem TS {x : D} {cs cs' : List D} (h : x = .agg cs) (hc : Ea ⟨e,o,n⟩ ws cs cs') : Conv ⟨e,o,n⟩ ws x (.agg cs'):=.inr ⟨cs,cs',h,rfl,hc⟩
end
@[simp] theorem CX {α : Type} (en : α -> D) (l : List α) : List.take l.length (l.map en) = l.map en:=List.take_of_length_le (by simp)
@[simp] theorem Lo {α : Type} (en : α -> D) (l : List α) (i : Nat) : List.take (l.length - i) (List.drop i (l.map en)) = (l.drop i).map en:=by
 rw [<- List.map_drop]; exact List.take_of_length_le (by simp)
@[simp] theorem Nx {α : Type} (en : α -> D) (l : List α) (i : Nat) (y : D) : List.take l.length ((l.map en).set i y) = (l.map en).set i y:=List.take_of_length_le (by simp)
theorem BS {α : Type} (en : α -> D) (l : List α) : List.take l.length (List.drop 0 (l.map en)) = l.map en:=CX en l
theorem PX {α : Type} (en : α -> D) (l : List α) {q : Nat} (h : q = l.length) : List.take q (List.drop 0 (l.map en)) = l.map en:=h ▸ CX en l
theorem PY {α : Type} (en : α -> D) (l : List α) {q : Nat} (h : q = l.length) : List.take q (l.map en) = l.map en:=h ▸ CX en l
@[simp] theorem Nw {α : Type} (en : α -> D) (l l' : List α) : List.take (l.length + l'.length) (l.map en ++ l'.map en) = l.map en ++ l'.map en:=List.take_of_length_le (by simp)
def cel (d : D) (i : Nat) : D:=match d with | .agg cs=>cs.getD i .top | .tup cs=>cs.getD i .top | _=>.top
def uI : D -> Int | .int _ n=>n | _=>0
def uBo : D -> Bool | .bool b=>b | _=>false
def uS : D -> List UInt8 | .str s=>s | _=>[]
def uL {α : Type} (u : D -> α) : D -> List α | .sl es=>es.map u | _=>[]
abbrev eI (k : IntKind) (n : Int) : D:=.int k n
abbrev eBo (b : Bool) : D:=.bool b
abbrev eS (s : List UInt8) : D:=.str s
abbrev eL {α : Type} (en : α -> D) (l : List α) : D:=.sl (l.map en)
@[simp] theorem QY {α : Type} {u : D -> α} {en : α -> D} (h : ∀ a,u (en a) = a) (l : List α) : uL u (.sl (l.map en)) = l:=by
 simp only [uL,List.map_map]
 conv=>rhs; rw [<- List.map_id l]
 exact List.map_congr_left λa _=>h a
end Go.Dw
namespace Go.Dw
open Go.ChangeShapes Go.WideShapes Go.ChangeAt Go.RowKit Go.Deep
def CL (W : World) : Fz:=λb i=>W.cell? ⟨b,i,none⟩
def Rep (W : World) (ds : List D) (cs : List Value) : Prop:=ds.length = cs.length /\ (∀ v ∈ cs,v.oneCell' = true) /\ ∀ (j : Nat) c v,ds[j]? = some c -> cs[j]? = some v -> Fro (CL W) c v
structure Rd (P : Program) (W : World) {T : Type} (t : TypeId) (en : T -> D) (Q : T -> Prop) : Prop where
 rd : ∀ {H : Type} {enc : TypeId × Value -> H} (n : Nat) (cs : List Value) (x : DataW H × List MemPlace),DataW.trod enc P W 0 (λ_=>true) true n t cs = some x -> ∃ a,Q a /\ Rep W (cells (en a)) cs
def Rg (k : IntKind) (n : Int) : Prop:=k.min <= n /\ n <= k.max
def Yk {T : Type} (_ : T) : Prop:=True
def OC (s : List UInt8) : Prop:=s.length <= maxLen
def qL {T : Type} (q : T -> Prop) (l : List T) : Prop:=l.length <= maxLen /\ ∀ x ∈ l,q x
section
variable {P : Program} {W : World} {t e : TypeId}
theorem Rep.one {d : D} {v : Value} (h1 : v.oneCell' = true) (h : Fro (CL W) d v) : Rep W [d] [v]:=by
 refine ⟨rfl,λx hx=>?_,λj c x hc hx=>?_⟩
 ·simp only [List.mem_singleton] at hx; subst hx; exact h1
 ·rcases j with _ | j
  ·simp only [List.getElem?_cons_zero,Option.some.injEq] at hc hx
   subst hc; subst hx; exact h
  ·simp at hc
theorem Rd.int {k : IntKind} (ht : P.underlying t = some (.int k)) : Rd P W t (D.int k) (λn=>k.min <= n /\ n <= k.max):=by
 refine ⟨λn cs x h=>?_⟩
 cases n with
 | zero=>simp [DataW.trod] at h
 | succ n =>
  simp only [DataW.trod,ht] at h
  split at h <;> rename_i h1 <;> try (cases h1; done)
  all_goals try (cases h; done)
  cases h1
  split at h
  ·rename_i hc
   obtain ⟨rfl,hw⟩:=hc
   exact ⟨_,by simpa [Lit.wf] using hw,Rep.one rfl (.int _ _)⟩
  ·cases h
theorem Rd.bool (ht : P.underlying t = some .bool) : Rd P W t D.bool (λ_=>True):=by
 refine ⟨λn cs x h=>?_⟩
 cases n with
 | zero=>simp [DataW.trod] at h
 | succ n =>
  simp only [DataW.trod,ht] at h
  split at h <;> rename_i h1 <;> try (cases h1; done)
  all_goals try (cases h; done)
  exact ⟨_,trivial,Rep.one rfl (.bool _)⟩
theorem Rd.str (ht : P.underlying t = some .string) : Rd P W t D.str (λs=>s.length <= maxLen):=by
 refine ⟨λn cs x h=>?_⟩
 cases n with
 | zero=>simp [DataW.trod] at h
 | succ n =>
  simp only [DataW.trod,ht] at h
  split at h <;> simp_all
  rename_i s
  exact ⟨s.data.toList,by simpa using h.1,Rep.one rfl (by have:=Fro.str (F:=CL W) s.data.toList; simpa using this)⟩
theorem GD {a : Addr} {n : Nat} {cs : List Value} (h : W.cells? 0 a n = some cs) : cs.length = n /\ ∀ i,i < n -> W.cell? (a.add i) = cs[i]?:=by
 unfold World.cells? at h
 rw [if_pos (Nat.zero_le _)] at h
 have hl:=mapM_some_length h
 simp only [List.length_range] at hl
 exact ⟨hl,λi hi=>mapM_some_get h i i (by simp [hi])⟩
theorem KO {a : Addr} {v : Value} (h : W.cell? a = some v) : a = ⟨a.block,a.off,none⟩:=by
 unfold World.cell? at h
 split at h
 ·split at h
  ·cases h
  ·rename_i hs
   obtain ⟨b,o,s⟩:=a
   cases s with
   | none=>rfl
   | some s=>simp at hs
 ·cases h
theorem Rd.slice {T : Type} [Inhabited T] {en : T -> D} {Q : T -> Prop} (ht : P.underlying t = some (.slice e)) (hs : 0 < P.cellsOf e) (hc : ∀ a,(cells (en a)).length = P.cellsOf e) (he : Rd P W e en Q) :
  Rd P W t (eL en) (λl=>l.length <= maxLen /\ ∀ x ∈ l,Q x):=by
 refine ⟨λn cs x h=>?_⟩
 rcases DataW.trod_slice ht h with ⟨rfl,_⟩ | ⟨a,len,cap,elems,rest,m,_,rfl,_,_,hl,hm,hlen,hel,_,_⟩
 ·exact ⟨[],⟨Nat.zero_le _,λx hx=>by cases hx⟩,Rep.one rfl (.sl0 none 0)⟩
 ·have each : ∀ i,∃ p : T × List Value,i < len -> W.cells? 0 (a.add (i * P.cellsOf e)) (P.cellsOf e) = some p.2 /\ Q p.1 /\ Rep W (cells (en p.1)) p.2:=by
   intro i
   by_cases hi : i < len
   ·have h1:=hel i hi
    have h2 : i < elems.length:=by omega
    rw [List.getElem?_eq_getElem h2,Option.bind_eq_some_iff] at h1
    obtain ⟨cs,h3,h4⟩:=h1
    obtain ⟨q,hq,hr⟩:=he.rd m cs _ h4
    exact ⟨(q,cs),λ_=>⟨h3,hq,hr⟩⟩
   ·exact ⟨(default,[]),λh=>absurd h hi⟩
  obtain ⟨f,hf⟩:=Classical.axiomOfChoice each
  have hes : ((List.range len).map λi=>(f i).1).length = len:=by simp
  refine ⟨(List.range len).map λi=>(f i).1,⟨by rw [hes]; omega,λx hx=>?_⟩,Rep.one rfl ?_⟩
  ·simp only [List.mem_map,List.mem_range] at hx
   obtain ⟨i,hi,rfl⟩:=hx
   exact (hf i hi).2.1
  ·by_cases h0 : len = 0
   ·subst h0
    exact .sl0 _ _
   ·have hget : ∀ (i j : Nat),i < len -> j < P.cellsOf e -> W.cell? ((a.add (i * P.cellsOf e)).add j) = (f i).2[j]?:=λi j hi hj=>(GD (hf i hi).1).2 j hj
    have hlenc : ∀ i,i < len -> (f i).2.length = P.cellsOf e:=λi hi=>(GD (hf i hi).1).1
    have ha : a = ⟨a.block,a.off,none⟩:=by
     have h1:=hget 0 0 (by omega) hs
     have h2 : 0 < (f 0).2.length:=by rw [hlenc 0 (by omega)]; exact hs
     rw [List.getElem?_eq_getElem h2] at h1
     simp only [Nat.zero_mul,Addr.add,if_true] at h1
     exact KO h1
    generalize a.block = b at ha
    generalize a.off = o at ha
    subst ha
    have hidx : ∀ (i : Nat) x,(((List.range len).map λi=>(f i).1).map en)[i]? = some x -> i < len /\ x = en (f i).1:=by
     intro i x hx
     simp only [List.getElem?_map,Option.map_eq_some_iff] at hx
     obtain ⟨q,⟨r,hr,rfl⟩,rfl⟩:=hx
     obtain ⟨h1,h2⟩:=List.getElem?_eq_some_iff.1 hr
     simp only [List.getElem_range] at h2
     subst h2
     exact ⟨by simpa using h1,rfl⟩
    have key : ∀ (i j : Nat) x c,(((List.range len).map λi=>(f i).1).map en)[i]? = some x -> (cells x)[j]? = some c -> i < len /\ ∃ v,(f i).2[j]? = some v /\ CL W b (o + i * P.cellsOf e + j) = some v /\ v.oneCell' = true /\ Fro (CL W) c v:=by
     intro i j x c hx hj
     obtain ⟨hi,rfl⟩:=hidx i x hx
     obtain ⟨_,_,r1,r2,r3⟩:=hf i hi
     have hjl : j < (cells (en (f i).1)).length:=(List.getElem?_eq_some_iff.1 hj).1
     have hjl' : j < (f i).2.length:=by rw [<- r1]; exact hjl
     have hv:=List.getElem?_eq_getElem hjl'
     refine ⟨hi,_,hv,?_,r2 _ (List.getElem_mem hjl'),r3 j c _ hj hv⟩
     have:=hget i j hi (by rw [<- hc (f i).1]; exact hjl)
     rw [BT,BT,hv] at this
     exact this
    have:=Fro.sl (F:=CL W) (((List.range len).map λi=>(f i).1).map en) b o cap (P.cellsOf e) (λi j=>(f i).2.getD j undef) (by simpa using hl)
     (λx hx=>by
      simp only [List.mem_map] at hx
      obtain ⟨q,_,rfl⟩:=hx
      exact hc q)
     (λi j x c hx hj=>by
      obtain ⟨_,v,h1,h2,_⟩:=key i j x c hx hj
      rw [h2,List.getD_eq_getElem?_getD,h1]; rfl)
     (λi j x c hx hj=>by
      obtain ⟨_,v,h1,_,h3,_⟩:=key i j x c hx hj
      rw [List.getD_eq_getElem?_getD,h1]; exact h3)
     (λi j x c hx hj=>by
      obtain ⟨_,v,h1,_,_,h4⟩:=key i j x c hx hj
      rw [List.getD_eq_getElem?_getD,h1]; exact h4)
    rw [List.length_map,hes] at this
    exact this
theorem Rep.append {ds ds' : List D} {cs cs' : List Value} (h : Rep W ds cs) (h' : Rep W ds' cs') : Rep W (ds ++ ds') (cs ++ cs'):=by
 obtain ⟨h1,h2,h3⟩:=h
 obtain ⟨k1,k2,k3⟩:=h'
 refine ⟨by simp [h1,k1],λv hv=>(List.mem_append.1 hv).elim (h2 v) (k2 v),λj c v hc hv=>?_⟩
 by_cases hj : j < ds.length
 ·rw [List.getElem?_append_left hj] at hc
  rw [List.getElem?_append_left (by omega)] at hv
  exact h3 j c v hc hv
 ·rw [List.getElem?_append_right (by omega)] at hc
  rw [List.getElem?_append_right (by omega),<- h1] at hv
  exact k3 _ c v hc hv
theorem LB {α : Type} (l : List α) (a b : Nat) : (l.drop a).take b ++ l.drop (a + b) = l.drop a:=by
 rw [<- List.drop_drop,List.take_append_drop]
theorem Rd.Oq {T T0 : Type} {f0 : Field} {en : T -> D} {e0 : T0 -> D} {Q : T -> Prop} {Q0 : T0 -> Prop} (mk : T0 -> T) (ht : P.underlying t = some (.struct #[f0])) (o0 : f0.offset = 0) (hsz : P.cellsOf t = P.cellsOf f0.type)
  (h0 : Rd P W f0.type e0 Q0) (hmk : ∀ a,cells (en (mk a)) = cells (e0 a)) (hQ : ∀ a,Q0 a -> Q (mk a)) : Rd P W t en Q:=by
 refine ⟨λn cs x h=>?_⟩
 obtain ⟨y0,m,_,hl,k0⟩:=trod_struct1 ht h
 obtain ⟨a,q0,r0⟩:=h0.rd m _ _ k0
 refine ⟨mk a,hQ a q0,?_⟩
 rw [hmk]
 rw [o0,List.drop_zero,<- hsz,<- hl,List.take_length] at r0
 exact r0
theorem Rd.Ot {T T0 T1 : Type} {f0 f1 : Field} {en : T -> D} {e0 : T0 -> D} {e1 : T1 -> D} {Q : T -> Prop} {Q0 : T0 -> Prop} {Q1 : T1 -> Prop} (mk : T0 -> T1 -> T) (ht : P.underlying t = some (.struct #[f0,f1])) (o0 : f0.offset = 0) (o1 : f1.offset = P.cellsOf f0.type)
  (hsz : P.cellsOf t = P.cellsOf f0.type + P.cellsOf f1.type) (h0 : Rd P W f0.type e0 Q0) (h1 : Rd P W f1.type e1 Q1) (hmk : ∀ a b,cells (en (mk a b)) = cells (e0 a) ++ cells (e1 b)) (hQ : ∀ a b,Q0 a -> Q1 b -> Q (mk a b)) : Rd P W t en Q:=by
 refine ⟨λn cs x h=>?_⟩
 obtain ⟨y0,y1,m,_,hl,k0,k1⟩:=trod_struct2 ht h
 obtain ⟨a,q0,r0⟩:=h0.rd m _ _ k0
 obtain ⟨b,q1,r1⟩:=h1.rd m _ _ k1
 refine ⟨mk a b,hQ a b q0 q1,?_⟩
 rw [hmk]
 have:=r0.append r1
 have e1 : List.take (P.cellsOf f1.type) (List.drop (P.cellsOf f0.type) cs) = List.drop (P.cellsOf f0.type) cs:=List.take_of_length_le (by simp; omega)
 rw [o0,o1,e1,List.drop_zero,List.take_append_drop] at this
 exact this
theorem Rd.Ou {T T0 T1 T2 : Type} {f0 f1 f2 : Field} {en : T -> D} {e0 : T0 -> D} {e1 : T1 -> D} {e2 : T2 -> D} {Q : T -> Prop} {Q0 : T0 -> Prop} {Q1 : T1 -> Prop} {Q2 : T2 -> Prop} (mk : T0 -> T1 -> T2 -> T) (ht : P.underlying t = some (.struct #[f0,f1,f2]))
  (o0 : f0.offset = 0) (o1 : f1.offset = P.cellsOf f0.type) (o2 : f2.offset = P.cellsOf f0.type + P.cellsOf f1.type)
  (hsz : P.cellsOf t = P.cellsOf f0.type + P.cellsOf f1.type + P.cellsOf f2.type) (h0 : Rd P W f0.type e0 Q0) (h1 : Rd P W f1.type e1 Q1) (h2 : Rd P W f2.type e2 Q2)
  (hmk : ∀ a b c,cells (en (mk a b c)) = cells (e0 a) ++ (cells (e1 b) ++ cells (e2 c))) (hQ : ∀ a b c,Q0 a -> Q1 b -> Q2 c -> Q (mk a b c)) : Rd P W t en Q:=by
 refine ⟨λn cs x h=>?_⟩
 obtain ⟨y0,y1,y2,m,_,hl,k0,k1,k2⟩:=trod_struct3 ht h
 obtain ⟨a,q0,r0⟩:=h0.rd m _ _ k0
 obtain ⟨b,q1,r1⟩:=h1.rd m _ _ k1
 obtain ⟨c,q2,r2⟩:=h2.rd m _ _ k2
 refine ⟨mk a b c,hQ a b c q0 q1 q2,?_⟩
 rw [hmk]
 have:=r0.append (r1.append r2)
 have e2 : List.take (P.cellsOf f2.type) (List.drop (P.cellsOf f0.type + P.cellsOf f1.type) cs) = List.drop (P.cellsOf f0.type + P.cellsOf f1.type) cs:=List.take_of_length_le (by simp; omega)
 rw [o0,o1,o2,e2,LB,List.drop_zero,List.take_append_drop] at this
 exact this
theorem Rd.arg {T : Type} {en : T -> D} {Q : T -> Prop} (h : Rd P W t en Q) (hagg : ∀ a,(match P.underlying t with | some (.struct _) | some (.array _ _)=>True | _=>False) -> ∃ cs,en a = .agg cs)
  (hone : ∀ a,¬ (match P.underlying t with | some (.struct _) | some (.array _ _)=>True | _=>False) -> cells (en a) = [en a])
  {H : Type} {enc : TypeId × Value -> H} {b0 : Nat} {v : Value} {d : DataW H} {p : List MemPlace} (hv : Value.okWide P W .any b0 t v) (hr : DataW.Trod enc P W 0 (λ_=>true) true t v d p) : ∃ a,Q a /\ Fro (CL W) (en a) v:=by
 obtain ⟨n,hn⟩:=hr
 obtain ⟨a,hq,r1,r2,r3⟩:=h.rd n _ _ hn
 refine ⟨a,hq,?_⟩
 by_cases hs : (match P.underlying t with | some (.struct _) | some (.array _ _)=>True | _=>False)
 ·obtain ⟨cs,hcs⟩:=hagg a hs
  have hva : ∃ C,v = .agg C:=by
   unfold Value.okWide at hv
   split at hv
   ·obtain ⟨C,rfl,_⟩:=hv; exact ⟨C,rfl⟩
   ·obtain ⟨C,rfl,_⟩:=hv; exact ⟨C,rfl⟩
   ·rename_i h1 h2
    split at hs
    ·rename_i fs hu; exact absurd hu (h1 fs)
    ·rename_i m e hu; exact absurd hu (h2 m e)
    ·exact hs.elim
  obtain ⟨C,rfl⟩:=hva
  rw [hcs] at r1 r3 ⊢
  simp only [Value.cells] at r1 r2 r3
  have:=Fro.agg (F:=CL W) cs C.toList r1 r2 r3
  simpa using this
 ·have h1:=hone a hs
  have hva : ∃ x,v.cells.toList = [x] /\ v = x:=by
   have hl : v.cells.toList.length = 1:=by rw [<- r1,h1]; rfl
   cases v with
   | agg C =>
    exfalso
    unfold Value.okWide at hv
    split at hv
    ·rename_i fs hu; exact hs (by rw [hu]; trivial)
    ·rename_i m e hu; exact hs (by rw [hu]; trivial)
    ·unfold Cell.okWide at hv
     split at hv <;> first | (rename_i h1 h2; cases h2) | skip
     unfold Cell.ok at hv
     split at hv <;> first | (rename_i h1 h2; cases h2) | exact hv
   | _=>exact ⟨_,rfl,rfl⟩
  obtain ⟨x,hx,rfl⟩:=hva
  rw [h1] at r3
  exact r3 0 _ _ rfl (by rw [hx]; rfl)
end
end Go.Dw
namespace Go.Dw
open Go.ChangeShapes Go.WideShapes Go.ChangeAt Go.RowKit
section
variable {H : Type} {enc : TypeId × Value -> H} {P : Program} {W W' : World}
theorem Lf (hb : ∀ b,b < W.heap.size -> W'.heap[b]? = W.heap[b]?) {a : Addr} (h : a.block < W.heap.size) : W'.cell? a = W.cell? a:=by
 unfold World.cell?
 rw [hb _ h]
theorem JL (hb : ∀ b,b < W.heap.size -> W'.heap[b]? = W.heap[b]?) {a : Addr} (h : a.block < W.heap.size) : W'.frozen? a = W.frozen? a:=by
 unfold World.frozen?
 rw [hb _ h]
theorem Lv (hb : ∀ b,b < W.heap.size -> W'.heap[b]? = W.heap[b]?) {p : MemPlace} (h : p.block < W.heap.size) : W.sameAt W' p:=by
 cases p with
 | cell b off=>exact Lf hb h
 | map b=>exact hb b h
theorem EV {sp : Nat -> Bool} (K : Kids P (· < P.types.size)) (hz : ∀ t e,t < P.types.size -> P.underlying t = some (.slice e) -> 0 < P.cellsOf e) : ∀ {ts : List TypeId} {vs : List Value} {ds : List (DataW H)} {ps : List MemPlace},(∀ t ∈ ts,t < P.types.size) ->
  DataW.TrodAll enc P W 0 (λ_=>true) true ts vs ds ps -> (∀ p ∈ ps,W.sameAt W' p) -> (∀ p ∈ ps,sp p.block = true) -> DataW.TrodAll enc P W' 0 sp true ts vs ds ps
 | [],[],[],_,_,h,_,_=>h
 | _ :: _,_ :: _,_ :: _,_,hT,⟨p,q,⟨n,h1⟩,h2,e⟩,hs,hsp=>by
  subst e
  exact ⟨p,q,⟨n,DataW.trod_respare K hz n _ _ _ (hT _ (List.mem_cons.2 (Or.inl rfl))) (DataW.trod_carry n _ _ _ h1 (λx hx=>hs x (List.mem_append_left _ hx))) (λx hx=>hsp x (List.mem_append_left _ hx))⟩,
   EV K hz (λt ht=>hT t (List.mem_cons.2 (Or.inr ht))) h2 (λx hx=>hs x (List.mem_append_right _ hx)) (λx hx=>hsp x (List.mem_append_right _ hx)),rfl⟩
 | [],[],_ :: _,_,_,h,_,_=>h.elim
 | [],_ :: _,_,_,_,h,_,_=>h.elim
 | _ :: _,[],_,_,_,h,_,_=>h.elim
 | _ :: _,_ :: _,[],_,_,h,_,_=>h.elim
theorem HJ {f : Func} {s : ChangeSpec} {apart fresh handsOn again : Bool} {args : Array Value} {v : Value} {ds gs : List (DataW H)} {before : List MemPlace}
  (hW : DataW.Whole enc P f.params.toList s.vars apart W args.toList ds gs before) (hvs : s.vars = []) (K : Kids P (· < P.types.size)) (hz : ∀ t e,t < P.types.size -> P.underlying t = some (.slice e) -> 0 < P.cellsOf e) (hts : ∀ t ∈ f.params.toList,t < P.types.size)
  (hres : ∀ (b : Nat) (sp : Nat -> Bool) (hd : Bool),DataW.TrodAll enc P W' b sp hd f.resultTypes.toList (v.resultList f.resultTypes.size) (s.fn H (ds ++ gs)).results [])
  (hargs : (s.fn H (ds ++ gs)).args = ds) (hvars : (s.fn H (ds ++ gs)).vars = []) (hos : W'.os = W.os) (hout : W'.output = W.output) (hb : ∀ b,b < W.heap.size -> W'.heap[b]? = W.heap[b]?)
  (hok : ∀ (j : Nat) (t : TypeId) (r : Value),f.resultTypes[j]? = some t -> (v.resultList f.resultTypes.size)[j]? = some r -> Value.okWide P W' .any 0 t r) :
  s.post enc P f apart fresh handsOn again W args v W':=by
 have hW':=hW
 obtain ⟨p,q,hA,hV,e,hzz,hn⟩:=hW
 rw [hvs] at hV
 obtain ⟨rfl,rfl⟩:=trodVars_none hV
 subst e
 simp only [List.append_nil] at hW' hn hzz
 have hlt : ∀ x ∈ p,x.block < W.heap.size:=hW'.lt
 have hargs' : ∀ sp : Nat -> Bool,(∀ x ∈ p,sp x.block = true) -> DataW.TrodAll enc P W' 0 sp true f.params.toList args.toList (s.fn H (ds ++ [])).args p:=by
  intro sp hsp
  rw [hargs]
  exact EV K hz hts hA (λx hx=>Lv hb (hlt x hx)) hsp
 have hvars' : ∀ sp : Nat -> Bool,DataW.TrodVars enc P W' sp s.vars (s.fn H (ds ++ [])).vars []:=by
  intro sp
  rw [hvs,hvars]
  exact (rfl : ([] : List MemPlace) = [])
 have hold : ∀ x ∈ p,(λb=>decide (b < W.heap.size)) x.block = true:=λx hx=>by simpa using hlt x hx
 refine ⟨ds,[],p,[],p,[],hW',hres _ _ _,hargs' _ hold,hvars' _,⟨hos,hout,λi hi=>?_⟩,λ_=>?_⟩
 ·rw [hb i hi]
  cases W.heap[i]? with
  | none=>rfl
  | some o=>cases o <;> first | exact ⟨rfl,rfl,rfl,λ_ _=>rfl⟩ | exact .inr ⟨rfl,rfl⟩ | rfl
 ·refine ⟨hok,_,_,([] ++ p) ++ [],⟨[] ++ p,[],trodAll_append (hargs' _ (λ_ _=>rfl)) (hres _ _ _),hvars' _,rfl,?_,?_⟩,?_⟩
  ·intro b off hp
   have hp' : MemPlace.cell b off ∈ p:=by simpa using hp
   rw [JL hb (hlt _ hp')]
   exact hzz b off hp'
  ·intro ha
   have:=hn ha
   simpa using this
  ·intro x hp _
   simpa using hp
theorem Wb {k : Nat} {fn : Func} {A : Type} {enc0 : A -> List D} {dec0 : List D -> A} {f : A -> Option Bool} {encR : Bool -> D} {encE : Bool -> List D} (hspec : OM P k (ON [] .ground enc0 dec0 f encR encE)) (hde : ∀ a,dec0 (enc0 a) = a) (hR : encR true = .bool true)
  {s : ChangeSpec} {apart fresh handsOn again : Bool} {args : Array Value} {ds gs : List (DataW H)} {before : List MemPlace} (hW : DataW.Whole enc P fn.params.toList s.vars apart W args.toList ds gs before) (hvs : s.vars = [])
  (hl : laidOutB P = true) (hm : mapsRowed P = true) (hz : ((List.range P.types.size).all λt=>match P.underlying t with | some (.slice e)=>decide (0 < P.cellsOf e) | _=>true) = true) (hts : fn.params.toList.all (λt=>decide (t < P.types.size)) = true)
  {tb : TypeId} (hrt : fn.resultTypes = #[tb]) (htb : P.underlying tb = some .bool) (hfn : ∀ ds : List (DataW H),ds.length = fn.params.size -> s.fn H ds = { results:=[.lit (.bool true)],args:=ds,vars:=[] }) (hlen : ds.length = fn.params.size)
  (hglob : Ud P (CL W)) (hread : ∃ a,BX (CL W) W [] 0 (enc0 a) args.toList [] /\ f a = some true) :
  Calls P k args W λe W'=>∃ v,e = .returned v /\ s.post enc P fn apart fresh handsOn again W args v W':=by
 obtain ⟨a,hA,hfa⟩:=hread
 have hgs : gs = []:=by
  obtain ⟨p,q,_,hV,_⟩:=hW
  rw [hvs] at hV
  exact (trodVars_none hV).1
 subst hgs
 have hF : Fok (CL W) W:=λb i x h=>h
 have hfin : ∀ b i x,CL W b i = some x -> b < W.heap.size:=by
  intro b i x h
  simp only [CL,World.cell?] at h
  split at h
  ·rename_i hb
   exact (Array.getElem?_eq_some_iff.1 hb).1
  ·cases h
 have h:=(hspec (CL W) hglob).2.2.1 rfl rfl W (CL W) (enc0 a) args.toList [] (Af.refl _) hF hfin hA ⟨a,true,rfl,hfa⟩
 have e0 : args.toList.toArray = args:=by simp
 rw [e0] at h
 refine h.mono λe W' hq=>?_
 obtain ⟨v,F',_,_,rfl,_,_,hst,hres,_⟩:=hq
 have hv : v = .bool true:=by
  have h1 : Fro F' ((ON [] .ground enc0 dec0 f encR encE).res (enc0 a)) v:=hres
  rw [BC hde hfa,hR] at h1
  cases h1
  rfl
 subst hv
 refine ⟨_,rfl,HJ hW hvs (kids_rows hl hm) (slices_full_of P hz) (λt ht=>by simpa using List.all_eq_true.1 hts t ht) ?_ ?_ ?_ hst.os hst.output (λb hb=>hst.block b hb (λ⟨_,hm,_⟩=>by cases hm)) ?_⟩
 ·intro b sp hd
  rw [List.append_nil,hfn ds hlen,hrt]
  exact trodAll_cons_mk (p:=[]) (p':=[]) (shut_bool htb true) trodAll_mk0
 ·rw [List.append_nil,hfn ds hlen]
 ·rw [List.append_nil,hfn ds hlen]
 ·exact ok_one hrt rfl (okWide_bool_mk htb true)
end
end Go.Dw
namespace Go.Dw
abbrev eR {α : Type} (s ty : Nat) (en : α -> D) (l : List α) : D:=.row s ty (l.map en)
def uR {α : Type} (u : D -> α) : D -> List α | .row _ _ es=>es.map u | _=>[]
@[simp] theorem WQ {α : Type} {u : D -> α} {en : α -> D} (h : ∀ a,u (en a) = a) (s ty : Nat) (l : List α) : uR u (.row s ty (l.map en)) = l:=by
 simp only [uR,List.map_map]
 conv=>rhs; rw [<- List.map_id l]
 exact List.map_congr_left λa _=>h a
theorem KG {α : Type} {l : List α} {en : α -> D} (h : ∀ q,AA (en q) = true) : ∀ e ∈ l.map en,AA e = true:=λe he=>by
 obtain ⟨q,_,rfl⟩:=List.mem_map.1 he
 exact h q
section
variable {Γ : Ar} {X : Type} {K : KR X} {t : Option X} {e : List (Nat × D)} {o : List (Nat × Ac)} {n nv : Nat} {d : Bool} {acc : List CA}
 {r : List Aw} {dst : Nat} {g : Option (Nat × Bool)} {af : List Nat} {α : Type}
variable {x y : Arg} {v w : D} {k k' : IntKind} {a b : Int} {s ty gi vi ii off m : Nat} {fz var : Bool} {es es' : List D} {z z' : D} {l l' : List α} {en : α -> D}
theorem RN {i : Nat} {c : Prop} {cs' : List D} {wo : List (Nat × Ac)} {rk : List Key} (hg : gOn e g = true) (hx : Aa e x = some (.optr gi vi i off)) (hy : Aa e y = some v) (hw : strip v = (true,v)) (ho : lkO o gi = some (vi,⟨false,var,s,ty,es⟩))
  (hr : (AJ var (cells v)).run ⟨e,o,n⟩ = (c,cs',wo)) (hrd : (AJ var (cells v)).rd ⟨e,o,n⟩ = rk) (hc : c) (hz : es[i]? = some z) (hk : known v = true) (hl : (cells v).length = m) (hb : Nat.ble (off + m) (cells z).length = true)
  (hes : es.set i (AD z off cs') = es') (hwo : wo.all (λx=>x.1 != gi) = true)
  (h : TrO Γ r (nv + 1) ⟨e,(gi,some (vi,⟨false,var,s,ty,es'⟩)) :: (wo ++ o),n⟩ d (acc ++ [(gK g ++ (rdK x ++ (rdK y ++ (.o gi :: rk))),.o gi :: wo.map (λx=>.o x.1),af)]) K t) (hrg : Ab gi = true:=by rfl) :
  TrO Γ (⟨none,.st m x y,g,af⟩ :: r) nv ⟨e,o,n⟩ d acc K t:=by
 have hb':=Nat.le_of_ble_eq_true hb
 obtain ⟨hi',rfl⟩:=List.getElem?_eq_some_iff.1 hz
 have hgd : es.getD i .top = es[i]:=by simp [hi']
 refine Am hg (c:=True) (we:=[]) (wo:=(gi,some (vi,⟨false,var,s,ty,es'⟩)) :: wo) (rd:=rdK x ++ (rdK y ++ (Key.o gi :: rk))) ?_ ?_ trivial (by simpa using h)
 ·simp only [evalOp,R.run_bind,Ap,Option.getD_some,hx,hy,hw,Cx,R.AU,Ax,ho,hrg,if_true,R.AF,hr,hgd,hes]
  simp [hc,hi',hb',hk,hl,hwo]
 ·simp only [evalOp,R.AM,Ap,Bg,Option.getD_some,hx,hy,hw,Cx,R.BN,Ax,ho,hrg,if_true,R.Cc,hrd,hr]
  simp
theorem LC {i s0 ty0 : Nat} {es0 es0' : List D} (l : List α) (en : α -> D) (hg : gOn e g = true) (hx : Aa e x = some (.optr gi vi i off)) (ho : lkO o gi = some (vi,⟨false,var,s0,ty0,es0⟩)) (hz : es0[i]? = some z) (hb : Nat.ble (off + 1) (cells z).length = true)
  (hv : OR (cells z) off 1 false = .row s ty (l.map en)) (hes : es0.set i (AD z off [.hole (4096 + dst) nv l.length]) = es0')
  (h : TrO Γ r (nv + 1) ⟨(dst,.osl (4096 + dst) nv 0 l.length) :: e,(4096 + dst,some (nv,⟨false,false,s,ty,l.map en⟩)) :: (gi,some (vi,⟨false,var,s0,ty0,es0'⟩)) :: o,n⟩ d (acc ++ [(gK g ++ (rdK x ++ [.o gi]),[.e dst,.o (4096 + dst),.o gi],af)]) K t)
  (hrg : Ab gi = true:=by rfl) (hne : Nat.beq gi (4096 + dst) = false:=by rfl) :
  TrO Γ (⟨some dst,.ld 1 false x,g,af⟩ :: r) nv ⟨e,o,n⟩ d acc K t:=by
 obtain ⟨hi,rfl⟩:=List.getElem?_eq_some_iff.1 hz
 have hb':=Nat.le_of_ble_eq_true hb
 have hgd : es0.getD i .top = es0[i]:=by simp [hi]
 have hne' : gi ≠ 4096 + dst:=λe=>by subst e; simp at hne
 refine Am hg (c:=True) (we:=[(dst,.osl (4096 + dst) nv 0 l.length)]) (wo:=[(4096 + dst,some (nv,⟨false,false,s,ty,l.map en⟩)),(gi,some (vi,⟨false,var,s0,ty0,es0'⟩))]) (rd:=rdK x ++ [Key.o gi]) ?_ ?_ trivial h
 ·simp only [evalOp,R.run_bind,Ap,Option.getD_some,hx,strip,R.AU,Ax,ho,Ad,hgd,hv,hrg]
  simp [hi,hb',hne',hes]
 ·simp only [evalOp,R.AM,Ap,Bg,Option.getD_some,hx,strip,R.BN,Ax,ho,hgd,hv,hrg]
  simp
theorem ND {i nm u q s0 ty0 : Nat} {es0 : List D} (hg : gOn e g = true) (hx : Aa e x = some (.optr gi vi i 0)) (ho : lkO o gi = some (vi,⟨false,var,s0,ty0,es0⟩)) (hz : es0[i]? = some (.hole nm u q))
  (h : TrO Γ r (nv + 1) ⟨(dst,.osl nm u 0 q) :: e,o,n⟩ d (acc ++ [(gK g ++ (rdK x ++ [.o gi]),[.e dst],af)]) K t) (hrg : Ab gi = true:=by rfl) :
  TrO Γ (⟨some dst,.ld 1 false x,g,af⟩ :: r) nv ⟨e,o,n⟩ d acc K t:=by
 obtain ⟨hi,he⟩:=List.getElem?_eq_some_iff.1 hz
 have hgd : es0.getD i .top = .hole nm u q:=by simp [hi,he]
 refine Am hg (c:=True) (we:=[(dst,.osl nm u 0 q)]) (wo:=[]) (rd:=rdK x ++ [Key.o gi]) ?_ ?_ trivial h
 ·simp only [evalOp,R.run_bind,Ap,Option.getD_some,hx,strip,R.AU,Ax,ho,Ad,hgd,hrg]
  simp [hi,cells,OR]
 ·simp only [evalOp,R.AM,Ap,Bg,Option.getD_some,hx,strip,R.BN,Ax,ho,hgd,hrg]
  simp [cells,OR]
theorem Oe {i s0 ty0 : Nat} {l : List (List α)} {q : List α} (en : α -> D) (hg : gOn e g = true) (hx : Aa e x = some (.optr gi vi i 0)) (ho : lkO o gi = some (vi,⟨false,false,s0,ty0,l.map (eR s ty en)⟩)) (hi : l[i]? = some q)
  (h : TrO Γ r (nv + 1) ⟨(dst,.osl (4096 + dst) nv 0 q.length) :: e,(4096 + dst,some (nv,⟨false,false,s,ty,q.map en⟩)) :: (gi,some (vi,⟨false,false,s0,ty0,(l.map (eR s ty en)).set i (.hole (4096 + dst) nv q.length)⟩)) :: o,n⟩ d (acc ++ [(gK g ++ (rdK x ++ [.o gi]),[.e dst,.o (4096 + dst),.o gi],af)]) K t)
  (hrg : Ab gi = true:=by rfl) (hne : Nat.beq gi (4096 + dst) = false:=by rfl) :
  TrO Γ (⟨some dst,.ld 1 false x,g,af⟩ :: r) nv ⟨e,o,n⟩ d acc K t :=
 LC (i:=i) (z:=eR s ty en q) q en hg hx ho (by simp [hi]) rfl rfl rfl h hrg hne
theorem NC {q : Nat} {es : List D} (hq : es.length = q) (hg : gOn e g = true) (hx : Aa e x = some (.osl gi vi 0 q)) (hy : Aa e y = some (.int k a)) (ho : lkO o gi = some (vi,⟨fz,false,s,ty,es⟩)) (hi : 0 <= a /\ a < q)
  (h : TrO Γ r (nv + 1) ⟨(dst,.optr gi vi a.toNat 0) :: e,o,n⟩ d (acc ++ [(gK g ++ (rdK x ++ (rdK y ++ [.o gi])),[.e dst],af)]) K t) :
  TrO Γ (⟨some dst,.ixA s x y,g,af⟩ :: r) nv ⟨e,o,n⟩ d acc K t:=by
 subst hq
 refine Am hg (c:=True) (we:=[(dst,.optr gi vi a.toNat 0)]) (wo:=[]) (rd:=rdK x ++ (rdK y ++ [Key.o gi])) ?_ (by simp [evalOp,strip,R.BN,Ax,hx,hy,ho]) trivial h
 simp only [evalOp,R.run_bind,Ap,Option.getD_some,hx,hy,strip,R.AU,Ax,ho,R.AF,Ad]
 simp [hi.1,hi.2]
theorem NG {i g' v' m s0 ty0 : Nat} {l : List (List α)} {q q' : List α} {es : List D} {c : Prop} {cs' : List D} {wo : List (Nat × Ac)} {rk : List Key} (en : α -> D) (hg : gOn e g = true) (hx : Aa e x = some (.optr gi vi i 0)) (hy : Aa e y = some (.osl g' v' 0 m)) (ho : lkO o gi = some (vi,⟨false,false,s0,ty0,es⟩)) (hes : es = l.map (eR s ty en) \/ ∃ p u w,es = (l.map (eR s ty en)).set i (.hole p u w)) (hi : l[i]? = some q)
  (hr : (AJ false [.osl g' v' 0 m]).run ⟨e,o,n⟩ = (c,cs',wo)) (hrd : (AJ false [.osl g' v' 0 m]).rd ⟨e,o,n⟩ = rk) (hc : c) (hcs : cs' = [eR s ty en q']) (hwo : wo.all (λx=>x.1 != gi) = true)
  (h : TrO Γ r (nv + 1) ⟨e,(gi,some (vi,⟨false,false,s0,ty0,(l.set i q').map (eR s ty en)⟩)) :: (wo ++ o),n⟩ d (acc ++ [(gK g ++ (rdK x ++ (rdK y ++ (.o gi :: rk))),.o gi :: wo.map (λx=>.o x.1),af)]) K t) (hrg : Ab gi = true:=by rfl) :
  TrO Γ (⟨none,.st 1 x y,g,af⟩ :: r) nv ⟨e,o,n⟩ d acc K t:=by
 subst hcs
 obtain ⟨hl,_⟩:=List.getElem?_eq_some_iff.1 hi
 have hlen : i < es.length:=by rcases hes with rfl | ⟨p,u,w,rfl⟩ <;> simpa using hl
 have hset : es.set i (eR s ty en q') = (l.set i q').map (eR s ty en):=by
  rcases hes with rfl | ⟨p,u,w,rfl⟩ <;> simp [List.map_set]
 have hz : es[i]? = some es[i]:=by simp [hlen]
 have hc1 : (cells es[i]).length = 1 /\ AD es[i] 0 [eR s ty en q'] = eR s ty en q':=by
  rcases hes with rfl | ⟨p,u,w,rfl⟩
  ·simp [cells,AD]
  ·simp [cells,AD]
 exact RN (i:=i) (off:=0) (m:=1) (z:=es[i]) hg hx hy rfl ho hr hrd hc hz rfl rfl (by rw [hc1.1]; rfl) (by rw [hc1.2]; exact hset) hwo h hrg
theorem WV {bytes : Nat} {c c' : Prop} {new old : List D} {wo : List (Nat × Ac)} {rk rk' : List Key} (l l' : List α) (en : α -> D) (hg : gOn e g = true) (hx : Aa e x = some v) (hy : Aa e y = some w) (hvw : strip v = (true,v)) (hww : strip w = (true,w))
  (hv : (view w).run ⟨e,o,n⟩ = (c,new)) (hvr : (view w).rd ⟨e,o,n⟩ = rk) (hc : c) (hn : new = l'.map en)
  (ht : (target s ty v).run ⟨e,o,n⟩ = (c',old,wo,true)) (htr : (target s ty v).rd ⟨e,o,n⟩ = rk') (hc' : c') (ho : old = l.map en)
  (hs : ∀ q,(cells (en q)).length = s) (hby : Nat.ble bytes 65536 = true) (hl : l.length + l'.length <= 16777216) (hpl : ∀ q,AA (en q) = true)
  (h : TrO Γ r (nv + 1) ⟨(dst,.osl (4096 + dst) nv 0 (l ++ l').length) :: e,(4096 + dst,some (nv,⟨false,false,s,ty,(l ++ l').map en⟩)) :: (wo ++ o),n⟩ d (acc ++ [(gK g ++ (rdK x ++ (rdK y ++ (rk ++ rk'))),[.e dst,.o (4096 + dst)] ++ wo.map (λx=>.o x.1),af)]) K t) :
  TrO Γ (⟨some dst,.app s ty bytes x y,g,af⟩ :: r) nv ⟨e,o,n⟩ d acc K t:=by
 have hb':=Nat.le_of_ble_eq_true hby
 subst hn; subst ho
 refine Am hg (c:=True) (we:=[(dst,.osl (4096 + dst) nv 0 (l ++ l').length)]) (wo:=(4096 + dst,some (nv,⟨false,false,s,ty,(l ++ l').map en⟩)) :: wo) (rd:=rdK x ++ (rdK y ++ (rk ++ rk'))) ?_ ?_ trivial (by simpa using h)
 ·simp only [evalOp,R.run_bind,Ap,Option.getD_some,hx,hy,hvw,hww,source,hv,ht,R.run_pure,Ad,CC,nmR,cond_true]
  have hall : ∀ q ∈ l.map en ++ l'.map en,AA q = true:=by
   intro q hq
   rcases List.mem_append.1 hq with hq | hq <;> (obtain ⟨p,_,rfl⟩:=List.mem_map.1 hq; exact hpl p)
  simp [hc,hc',hl,hb',hs]
  intro q hq
  rcases hq with ⟨p,_,rfl⟩ | ⟨p,_,rfl⟩ <;> exact hpl p
 ·simp only [evalOp,R.AM,Ap,Bg,Option.getD_some,hx,hy,hvw,hww,source,hv,hvr,htr,R.Bs]
  simp
theorem Fo {s' ty' q : Nat} (hg : gOn e g = true) (hx : Aa e x = some (.osl gi vi 0 q)) (ho : lkO o gi = some (ii,⟨false,var,s,ty,es⟩))
  (h : TrO Γ r (nv + 1) ⟨(dst,.osl gi vi 0 q) :: e,o,n⟩ d (acc ++ [(gK g ++ (rdK x ++ [.o gi]),[.e dst],af)]) K t) (hrg : Ab gi = true:=by rfl) :
  TrO Γ (⟨some dst,.asg x (some (s',ty')),g,af⟩ :: r) nv ⟨e,o,n⟩ d acc K t:=by
 refine Am hg (c:=True) (we:=[(dst,.osl gi vi 0 q)]) (wo:=[]) (rd:=rdK x ++ [Key.o gi]) ?_ ?_ trivial h
 ·simp only [evalOp,R.run_bind,Bn,Option.getD_some,hx,R.AU,Ax,ho,Bool.false_eq_true,if_false,R.AF,hrg,if_true,Ad]
 ·simp only [evalOp,R.AM,Bn,Ff,Option.getD_some,hx,R.BN,Ax,ho,Bool.false_eq_true,if_false,hrg,if_true,R.Cc]
theorem NF {bytes : Nat} (hg : gOn e g = true) (hx : Aa e x = some (.int k a)) (hy : Aa e y = some (.int k' a)) (hl : 0 <= a /\ a <= 16777216) (hby : Nat.ble bytes 65536 = true)
  (h : TrO Γ r (nv + 1) ⟨(dst,.osl dst nv 0 (List.replicate a.toNat ([] : List α)).length) :: e,(dst,some (nv,⟨false,false,s,ty,(List.replicate a.toNat ([] : List α)).map (λ_=>.nils)⟩)) :: o,n⟩ d (acc ++ [(gK g ++ (rdK x ++ rdK y),[.e dst,.o dst],af)]) K t) :
  TrO Γ (⟨some dst,.mkS s ty bytes .nils x y,g,af⟩ :: r) nv ⟨e,o,n⟩ d acc K t:=by
 have:=Nat.le_of_ble_eq_true hby
 exact Am hg (c:=True) (we:=[(dst,.osl dst nv 0 (List.replicate a.toNat ([] : List α)).length)]) (wo:=[(dst,some (nv,⟨false,false,s,ty,(List.replicate a.toNat ([] : List α)).map (λ_=>.nils)⟩))]) (rd:=rdK x ++ rdK y) (by simp [evalOp,Ad,AK,strip,hx,hy,hl,this]) (by simp [evalOp,strip,hx,hy]) trivial h
end
section
variable {e E : List (Nat × D)} {o O : List (Nat × Ac)} {n : Nat} {α : Type} {g v s ty : Nat} {var : Bool} {es es' : List D} {z : D}
theorem Cp {τ : S} (hw : Rw ⟨e,o,n⟩ τ) (h : Has τ E O) : Has ⟨e,o,n⟩ E O:=h.imp λ_ h=>.rw hw h
theorem QZ {i off g' v' m s' ty' : Nat} {l : List α} {en : α -> D} {c : D} (ho : lkO o g = some (v,⟨false,var,s,ty,es⟩)) (hz : es[i]? = some z) (hc : (cells z)[off]? = some c) (hh : c = .hole g' v' m \/ (c = .osl g' v' 0 m /\ var = true)) (ho' : lkO o g' = some (v',⟨false,false,s',ty',l.map en⟩))
  (hm : m = l.length) (hp : ∀ q,AA (en q) = true) (hes : es.set i (AD z off [.row s' ty' (l.map en)]) = es')
  (h : Has ⟨e,(g,some (v,⟨false,var,s,ty,es'⟩)) :: (g',none) :: o,n⟩ E O) (hrg : Ab g = true:=by rfl) (hne : Nat.beq g g' = false:=by rfl) : Has ⟨e,o,n⟩ E O:=by
 obtain ⟨hi,rfl⟩:=List.getElem?_eq_some_iff.1 hz
 have hgd : es.getD i .top = es[i]:=by simp [hi]
 have hne' : g ≠ g':=λe=>by subst e; simp at hne
 subst hm
 have:=Rw.close (σ:=⟨e,o,n⟩) g v i off g' v' l.length ⟨false,var,s,ty,es⟩ ⟨false,false,s',ty',l.map en⟩ c (by rw [Ax]; exact ho) hrg rfl hi (by rw [hgd]; exact hc) hh (by rw [Ax]; exact ho') rfl rfl (by simp) (.inr λe he=>by
  obtain ⟨q,_,rfl⟩:=List.mem_map.1 he
  exact hp q) hne'
 refine Cp this ?_
 simp only [hgd,CX,hes]
 exact h
theorem JO {i g' v' m s' ty' : Nat} {l : List (List α)} {q q' : List α} {en : α -> D} (hi : l[i]? = some q) (ho : lkO o g = some (v,⟨false,false,s,ty,(l.map (eR s' ty' en)).set i (.hole g' v' m)⟩)) (ho' : lkO o g' = some (v',⟨false,false,s',ty',q'.map en⟩))
  (hm : m = q'.length) (hp : ∀ q,AA (en q) = true)
  (h : Has ⟨e,(g,some (v,⟨false,false,s,ty,(l.set i q').map (eR s' ty' en)⟩)) :: (g',none) :: o,n⟩ E O) (hrg : Ab g = true:=by rfl) (hne : Nat.beq g g' = false:=by rfl) : Has ⟨e,o,n⟩ E O:=by
 obtain ⟨hl,_⟩:=List.getElem?_eq_some_iff.1 hi
 refine QZ (i:=i) (off:=0) (z:=.hole g' v' m) (c:=.hole g' v' m) ho (by simp [hl]) rfl (.inl rfl) ho' hm hp ?_ h hrg hne
 simp [AD,List.map_set]
theorem Mh {i g' v' m s' ty' : Nat} {l : List (List α)} {q : List α} {en : α -> D} (hi : l[i]? = some q) (ho : lkO o g = some (v,⟨false,false,s,ty,(l.map (eR s' ty' en)).set i (.hole g' v' m)⟩)) (ho' : lkO o g' = some (v',⟨false,false,s',ty',q.map en⟩))
  (hm : m = q.length) (hp : ∀ q,AA (en q) = true)
  (h : Has ⟨e,(g,some (v,⟨false,false,s,ty,l.map (eR s' ty' en)⟩)) :: (g',none) :: o,n⟩ E O) (hrg : Ab g = true:=by rfl) (hne : Nat.beq g g' = false:=by rfl) : Has ⟨e,o,n⟩ E O:=by
 refine JO hi ho ho' hm hp ?_ hrg hne
 obtain ⟨hl,he⟩:=List.getElem?_eq_some_iff.1 hi
 have : l.set i q = l:=by rw [<- he]; exact List.set_getElem_self hl
 rw [this]
 exact h
theorem TF {off s' ty' : Nat} {z' : D} (t : Nat) (l : List α) (en : α -> D) (ho : lkO o g = some (v,⟨false,true,s,ty,[z]⟩)) (hc : (cells z)[off]? = some (.row s' ty' (l.map en))) (hz : AD z off [.osl (4096 + t) n 0 l.length] = z')
  (h : Has ⟨e,(4096 + t,some (n,⟨false,false,s',ty',l.map en⟩)) :: (g,some (v,⟨false,true,s,ty,[z']⟩)) :: o,n + 1⟩ E O) (hrg : Ab g = true:=by rfl) (hne : Nat.beq g (4096 + t) = false:=by rfl) : Has ⟨e,o,n⟩ E O:=by
 have hne' : g ≠ 4096 + t:=λe=>by subst e; simp at hne
 have:=Rw.opn (σ:=⟨e,o,n⟩) g v 0 off t s' ty' (l.map en) ⟨false,true,s,ty,[z]⟩ (by rw [Ax]; exact ho) hrg rfl rfl (by simp) hc hne'
 refine Cp this ?_
 simp only [List.length_map,List.getD_cons_zero,List.set_cons_zero,hz]
 exact h
theorem Ie {s' ty' i : Nat} {q : List α} (t : Nat) (en : α -> D) (ho : lkO o g = some (v,⟨false,false,s,ty,es⟩)) (hz : es[i]? = some (eR s' ty' en q))
  (h : Has ⟨e,(4096 + t,some (n,⟨false,false,s',ty',q.map en⟩)) :: (g,some (v,⟨false,false,s,ty,es.set i (.hole (4096 + t) n q.length)⟩)) :: o,n + 1⟩ E O) (hrg : Ab g = true:=by rfl) (hne : Nat.beq g (4096 + t) = false:=by rfl) : Has ⟨e,o,n⟩ E O:=by
 have hne' : g ≠ 4096 + t:=λe=>by subst e; simp at hne
 obtain ⟨hi,he⟩:=List.getElem?_eq_some_iff.1 hz
 have hgd : es.getD i .top = eR s' ty' en q:=by simp [hi,he]
 have:=Rw.opnr (σ:=⟨e,o,n⟩) g v i 0 t s' ty' (q.map en) ⟨false,false,s,ty,es⟩ (by rw [Ax]; exact ho) hrg rfl rfl hi (by simp only [hgd]; rfl) hne'
 refine Cp this ?_
 simp only [List.length_map,hgd]
 exact h
theorem Oa {s' ty' i j t1 t2 : Nat} {l : List (List α)} {q1 q2 : List α} (en : α -> D) (ho : lkO o g = some (v,⟨false,false,s,ty,l.map (eR s' ty' en)⟩)) (h1 : l[i]? = some q1) (h2 : l[j]? = some q2) (hij : i ≠ j)
  (h : Has ⟨e,(4096 + t2,some (n + 1,⟨false,false,s',ty',q2.map en⟩)) :: (g,some (v,⟨false,false,s,ty,((l.map (eR s' ty' en)).set i (.hole (4096 + t1) n q1.length)).set j (.hole (4096 + t2) (n + 1) q2.length)⟩)) :: (4096 + t1,some (n,⟨false,false,s',ty',q1.map en⟩)) :: (g,some (v,⟨false,false,s,ty,(l.map (eR s' ty' en)).set i (.hole (4096 + t1) n q1.length)⟩)) :: o,n + 1 + 1⟩ E O)
  (hrg : Ab g = true:=by rfl) (hne1 : Nat.beq g (4096 + t1) = false:=by rfl) (hne2 : Nat.beq g (4096 + t2) = false:=by rfl) : Has ⟨e,o,n⟩ E O:=by
 refine Ie (s':=s') (ty':=ty') (i:=i) (q:=q1) t1 en ho (by simp [h1]) ?_ hrg hne1
 have hg1 : g ≠ 4096 + t1:=λe=>by subst e; simp at hne1
 refine Ie (s':=s') (ty':=ty') (i:=j) (q:=q2) t2 en (v:=v) (s:=s) (ty:=ty) (es:=(l.map (eR s' ty' en)).set i (.hole (4096 + t1) n q1.length)) ?_ ?_ h hrg hne2
 ·have hb : Nat.beq g (4096 + t1) = false:=hne1
  simp [lkO,PS,hb]
 ·rw [List.getElem?_set_ne hij]; simp [h2]
theorem NN {i j g1 g2 u1 u2 m1 m2 s' ty' : Nat} {l : List (List α)} {q1 q2 q1' q2' : List α} {en : α -> D} (h1 : l[i]? = some q1) (h2 : l[j]? = some q2) (hij : i ≠ j)
  (ho : lkO o g = some (v,⟨false,false,s,ty,((l.map (eR s' ty' en)).set i (.hole g1 u1 m1)).set j (.hole g2 u2 m2)⟩)) (ho1 : lkO o g1 = some (u1,⟨false,false,s',ty',q1'.map en⟩)) (ho2 : lkO o g2 = some (u2,⟨false,false,s',ty',q2'.map en⟩))
  (hm1 : m1 = q1'.length) (hm2 : m2 = q2'.length) (hp : ∀ q,AA (en q) = true)
  (h : Has ⟨e,(g,some (v,⟨false,false,s,ty,((l.set i q1').set j q2').map (eR s' ty' en)⟩)) :: (g1,none) :: (g,some (v,⟨false,false,s,ty,((l.map (eR s' ty' en)).set i (.hole g1 u1 m1)).set j (eR s' ty' en q2')⟩)) :: (g2,none) :: o,n⟩ E O) (hrg : Ab g = true:=by rfl) (hne1 : Nat.beq g g1 = false:=by rfl) (hne2 : Nat.beq g g2 = false:=by rfl) (hne : Nat.beq g1 g2 = false:=by rfl) : Has ⟨e,o,n⟩ E O:=by
 obtain ⟨hi,_⟩:=List.getElem?_eq_some_iff.1 h1
 obtain ⟨hj,_⟩:=List.getElem?_eq_some_iff.1 h2
 have hb1 : Nat.beq g1 g = false:=by
  cases hb : Nat.beq g1 g
  ·rfl
  ·rw [Nat.eq_of_beq_eq_true hb] at hne1; simp at hne1
 refine QZ (s':=s') (ty':=ty') (i:=j) (off:=0) (z:=.hole g2 u2 m2) (c:=.hole g2 u2 m2) (es':=((l.map (eR s' ty' en)).set i (.hole g1 u1 m1)).set j (eR s' ty' en q2')) ho (by simp [hj]) rfl (.inl rfl) ho2 hm2 hp (by simp [AD]) ?_ hrg hne2
 refine QZ (s':=s') (ty':=ty') (i:=i) (off:=0) (z:=.hole g1 u1 m1) (c:=.hole g1 u1 m1) (v:=v) (s:=s) (ty:=ty) (es:=((l.map (eR s' ty' en)).set i (.hole g1 u1 m1)).set j (eR s' ty' en q2')) (l:=q1') (en:=en) ?_ ?_ rfl (.inl rfl) ?_ hm1 hp ?_ h hrg hne1
 ·simp [lkO,PS]
 ·rw [List.getElem?_set_ne (λe=>hij e.symm)]; simp [hi]
 ·simp only [lkO,PS,hb1,cond_false,hne]
  exact ho1
 ·rw [List.set_comm _ _ hij,List.set_set]
  simp only [AD]
  rw [List.set_comm _ _ (λe=>hij e.symm)]
  simp [List.map_set]
theorem WL {g2 : Nat} (ho : lkO o g = some (v,⟨false,var,s,ty,es⟩)) (hrg : Ab g = false) (hg2 : g2 = 4096 + g) (he : Dt (Enr false) es es')
  (h : Has ⟨e.map (λp=>(p.1,ren g g2 p.2)),(g2,some (v,⟨false,var,s,ty,es'⟩)) :: (g,none) :: o,n⟩ E O) : Has ⟨e,o,n⟩ E O:=by
 have:=Rw.enrich (σ:=⟨e,o,n⟩) g g2 v ⟨false,var,s,ty,es⟩ es' (by rw [Ax]; exact ho) rfl (.inr ⟨hrg,hg2⟩) (by rw [hrg]; exact he)
 refine Cp this ?_
 have hb : Nat.beq g g2 = false:=by
  cases hb : Nat.beq g g2
  ·rfl
  ·have:=Nat.eq_of_beq_eq_true hb; omega
 rw [hb]
 exact h
theorem Nm (ho : lkO o g = some (v,⟨false,var,s,ty,es⟩)) (hrg : Ab g = true) (he : Dt (Enr true) es es')
  (h : Has ⟨e.map (λp=>(p.1,ren g g p.2)),(g,some (v,⟨false,var,s,ty,es'⟩)) :: (g,some (v,⟨false,var,s,ty,es'⟩)) :: o,n⟩ E O) : Has ⟨e,o,n⟩ E O:=by
 have:=Rw.enrich (σ:=⟨e,o,n⟩) g g v ⟨false,var,s,ty,es⟩ es' (by rw [Ax]; exact ho) rfl (.inl ⟨rfl,hrg⟩) (by rw [hrg]; exact he)
 refine Cp this ?_
 simpa using h
theorem Of {s' ty' : Nat} {l : List (List α)} (en : α -> D) (hs : 0 < s') (hl : ∀ q ∈ l,q = []) : Dt (Enr false) (l.map λ_=>.nils) (l.map (eR s' ty' en)):=by
 refine ⟨by simp,λi e e' h1 h2=>?_⟩
 rw [List.getElem?_map,Option.map_eq_some_iff] at h1 h2
 obtain ⟨q,hq,rfl⟩:=h1
 obtain ⟨q',hq',rfl⟩:=h2
 rw [hq] at hq'; cases hq'
 have:=hl q (List.mem_of_getElem? hq)
 subst this
 refine ⟨rfl,λj c c' h1 h2=>?_⟩
 rcases j with _ | j
 ·simp only [cells,List.getElem?_cons_zero,Option.some.injEq] at h1 h2
  subst h1; subst h2
  exact .inr ⟨rfl,s',ty',hs,rfl⟩
 ·simp [cells] at h1
theorem NY (ho : lkO o g = some (v,⟨false,var,s,ty,es⟩)) (he : Dt Frr es es') (h : Has ⟨e,(g,some (v,⟨false,var,s,ty,es'⟩)) :: o,n⟩ E O) (hrg : Ab g = true:=by rfl) : Has ⟨e,o,n⟩ E O:=by
 have:=Rw.frows (σ:=⟨e,o,n⟩) g v ⟨false,var,s,ty,es⟩ es' (by rw [Ax]; exact ho) hrg rfl he
 exact Cp this h
theorem Oh {s' ty' : Nat} {l : List (List α)} (en : α -> D) (hp : ∀ q,AA (en q) = true) : Dt Frr (l.map (eR s' ty' en)) (l.map (eL en)):=by
 refine ⟨by simp,λi e e' h1 h2=>?_⟩
 rw [List.getElem?_map,Option.map_eq_some_iff] at h1 h2
 obtain ⟨q,hq,rfl⟩:=h1
 obtain ⟨q',hq',rfl⟩:=h2
 rw [hq] at hq'; cases hq'
 refine ⟨rfl,λj c c' h1 h2=>?_⟩
 rcases j with _ | j
 ·simp only [cells,List.getElem?_cons_zero,Option.some.injEq] at h1 h2
  subst h1; subst h2
  exact .inr ⟨s',ty',_,rfl,λe he=>by
   obtain ⟨p,_,rfl⟩:=List.mem_map.1 he
   exact hp p,rfl⟩
 ·simp [cells] at h1
theorem NZ (ho : lkO o g = some (v,⟨false,false,s,ty,es⟩)) (he : es.map nrm = es') (h : Has ⟨e,(g,some (v,⟨false,false,s,ty,es'⟩)) :: o,n⟩ E O) (hrg : Ab g = false:=by rfl) : Has ⟨e,o,n⟩ E O:=by
 subst he
 have:=Rw.nilsl (σ:=⟨e,o,n⟩) g v ⟨false,false,s,ty,es⟩ (by rw [Ax]; exact ho) hrg rfl rfl
 exact Cp this h
theorem Oi {l : List (List α)} (en : α -> D) (hl : ∀ q ∈ l,q = []) : (l.map λ_=>D.nils).map nrm = l.map (eL en):=by
 rw [List.map_map]
 refine List.map_congr_left λq hq=>?_
 rw [hl q hq]
 rfl
theorem Xc (ho : lkO o g = some (v,⟨false,true,s,ty,[z]⟩)) (hc : (cells z).all Pv = true) (h : Has ⟨e.map (λp=>(p.1,frp g v z p.2)),(g,none) :: o.map (λp=>(p.1,frO g v z p.2)),n⟩ E O) : Has ⟨e,o,n⟩ E O:=by
 have:=Rw.fvar (σ:=⟨e,o,n⟩) g v ⟨false,true,s,ty,[z]⟩ z (by rw [Ax]; exact ho) rfl rfl rfl hc
 exact Cp this h
end
end Go.Dw
namespace Go.Dw
abbrev eA {α : Type} (en : α -> D) (l : List α) : D:=.agg (l.map en)
def uA {α : Type} (u : D -> α) : D -> List α | .agg cs=>cs.map u | _=>[]
@[simp] theorem OD {α : Type} {u : D -> α} {en : α -> D} (h : ∀ a,u (en a) = a) (l : List α) : uA u (.agg (l.map en)) = l:=by
 simp only [uA,List.map_map]
 conv=>rhs; rw [<- List.map_id l]
 exact List.map_congr_left λa _=>h a
def fpD : D -> D | .fptr e _=>e | _=>.top
def OB : D -> Nat -> D | .clo _ caps,j=>caps.getD j .top | _,_=>.top
theorem HB (cs : List D) (off : Nat) (d : D) : setAt cs off [d] = cs.set off d:=rfl
section
variable {Γ : Ar} {X : Type} {K : KR X} {t : Option X} {e : List (Nat × D)} {o : List (Nat × Ac)} {n nv : Nat} {d : Bool} {acc : List CA}
 {r : List Aw} {dst : Nat} {g : Option (Nat × Bool)} {af : List Nat} {α : Type}
variable {x y : Arg} {v w : D} {k k' : IntKind} {a b : Int} {s ty gi vi ii off m : Nat} {fz var : Bool} {l : List α} {en : α -> D}
theorem Ov {i len : Nat} (hg : gOn e g = true) (hx : Aa e x = some (.optr gi vi i off)) (hy : Aa e y = some (.int k a)) (hi : 0 <= a /\ a < len)
  (h : TrO Γ r (nv + 1) ⟨(dst,.optr gi vi i (off + a.toNat * s)) :: e,o,n⟩ d (acc ++ [(gK g ++ (rdK x ++ rdK y),[.e dst],af)]) K t) :
  TrO Γ (⟨some dst,.ixP s len x y,g,af⟩ :: r) nv ⟨e,o,n⟩ d acc K t :=
 Am hg (c:=True) (we:=[(dst,.optr gi vi i (off + a.toNat * s))]) (wo:=[]) (rd:=rdK x ++ rdK y) (by simp [evalOp,Ad,strip,hx,hy,hi.1,hi.2]) (by simp [evalOp,strip,hx,hy]) trivial h
theorem NS {q : α} {j : Nat} (hj : off = j) (hg : gOn e g = true) (hx : Aa e x = some (.optr gi vi 0 off)) (ho : lkO o gi = some (vi,⟨fz,var,s,ty,[.agg (l.map en)]⟩)) (hi : l[j]? = some q) (hpl : plain (en q) = true) (_hc : ∀ q,cells (en q) = [en q])
  (h : TrO Γ r (nv + 1) ⟨(dst,en q) :: e,o,n⟩ d (acc ++ [(gK g ++ (rdK x ++ [.o gi]),[.e dst],af)]) K t) :
  TrO Γ (⟨some dst,.ld 1 false x,g,af⟩ :: r) nv ⟨e,o,n⟩ d acc K t:=by
 subst hj
 have hl:=(List.getElem?_eq_some_iff.1 hi).1
 refine EC (i:=0) (m:=1) (agg:=false) (off:=off) (z:=.agg (l.map en)) (v:=en q) hg hx ho rfl ?_ ?_ h (by simp [hpl])
 ·simp only [cells,List.length_map]
  exact Nat.ble_eq_true_of_le (by omega)
 ·simp only [OR,cells,Bool.false_eq_true,if_false]
  simp [hi]
theorem NT {q q' : α} {j : Nat} {z' : D} (hj : off = j) (hg : gOn e g = true) (hx : Aa e x = some (.optr gi vi 0 off)) (hy : Aa e y = some (en q')) (hw : strip (en q') = (true,en q')) (ho : lkO o gi = some (vi,⟨false,true,s,ty,[.agg (l.map en)]⟩)) (hi : l[j]? = some q) (hk : known (en q') = true) (hc : cells (en q') = [en q']) (hz : D.agg ((l.set j q').map en) = z')
  (h : TrO Γ r (nv + 1) ⟨e,(gi,some (vi,⟨false,true,s,ty,[z']⟩)) :: o,n⟩ d (acc ++ [(gK g ++ (rdK x ++ (rdK y ++ [.o gi])),[.o gi],af)]) K t) (hrg : Ab gi = false:=by rfl) :
  TrO Γ (⟨none,.st 1 x y,g,af⟩ :: r) nv ⟨e,o,n⟩ d acc K t:=by
 subst hj
 subst hz
 have hl:=(List.getElem?_eq_some_iff.1 hi).1
 refine ED (z:=.agg (l.map en)) (z':=.agg ((l.set off q').map en)) hg hx hy hw ho hk (by rw [hc]; rfl) ?_ ?_ h hrg
 ·simp only [cells,List.length_map]
  exact Nat.ble_eq_true_of_le (by omega)
 ·simp only [AD,hc,HB,List.map_set]
theorem Ml {q q' : α} {j : Nat} {z' : D} (hj : off = j) (hg : gOn e g = true) (hx : Aa e x = some (.optr gi vi 0 off)) (hy : Aa e y = some (en q')) (hw : strip (en q') = (true,en q')) (ho : lkO o gi = some (vi,⟨false,true,s,ty,[.agg (l.map en)]⟩)) (hi : l[j]? = some q) (hk : known (en q') = true) (hc : cells (en q') = [en q']) (hz : D.agg ((l.set j q').map en) = z')
  (hcl : (AJ true [en q']).run ⟨e,o,n⟩ = (True /\ True /\ ([] : List (Nat × Ac)).all (λ_=>([] : List (Nat × Ac)).all λ_=>true) = true,[en q'],[])) (hrd : (AJ true [en q']).rd ⟨e,o,n⟩ = [])
  (h : TrO Γ r (nv + 1) ⟨e,(gi,some (vi,⟨false,true,s,ty,[z']⟩)) :: o,n⟩ d (acc ++ [(gK g ++ (rdK x ++ (rdK y ++ [.o gi])),[.o gi],af)]) K t) (hrg : Ab gi = true:=by rfl) :
  TrO Γ (⟨none,.st 1 x y,g,af⟩ :: r) nv ⟨e,o,n⟩ d acc K t:=by
 subst hj
 subst hz
 have hl:=(List.getElem?_eq_some_iff.1 hi).1
 refine RN (i:=0) (c:=True /\ True /\ ([] : List (Nat × Ac)).all (λ_=>([] : List (Nat × Ac)).all λ_=>true) = true) (z:=.agg (l.map en)) (es':=[.agg ((l.set off q').map en)]) (cs':=[en q']) (wo:=[]) (rk:=[]) hg hx hy hw ho (by rw [hc]; exact hcl) (by rw [hc]; exact hrd) ⟨trivial,trivial,rfl⟩ rfl hk (by rw [hc]; rfl) ?_ ?_ rfl h hrg
 ·simp only [cells,List.length_map]
  exact Nat.ble_eq_true_of_le (by omega)
 ·simp only [AD,HB,List.map_set,List.set_cons_zero]
theorem Oc {len : Nat} {z : D} (hg : gOn e g = true) (hx : Aa e x = some (.fptr z off)) (hy : Aa e y = some (.int k a)) (hi : 0 <= a /\ a < len)
  (h : TrO Γ r (nv + 1) ⟨(dst,.fptr z (off + a.toNat * s)) :: e,o,n⟩ d (acc ++ [(gK g ++ (rdK x ++ rdK y),[.e dst],af)]) K t) :
  TrO Γ (⟨some dst,.ixP s len x y,g,af⟩ :: r) nv ⟨e,o,n⟩ d acc K t :=
 Am hg (c:=True) (we:=[(dst,.fptr z (off + a.toNat * s))]) (wo:=[]) (rd:=rdK x ++ rdK y) (by simp [evalOp,Ad,strip,hx,hy,hi.1,hi.2]) (by simp [evalOp,strip,hx,hy]) trivial h
theorem Ny {q : α} {j : Nat} (hj : off = j) (hg : gOn e g = true) (hx : Aa e x = some (.fptr (.agg (l.map en)) off)) (hi : l[j]? = some q) (_hc : ∀ q,cells (en q) = [en q])
  (h : TrO Γ r (nv + 1) ⟨(dst,en q) :: e,o,n⟩ d (acc ++ [(gK g ++ rdK x,[.e dst],af)]) K t) :
  TrO Γ (⟨some dst,.ld 1 false x,g,af⟩ :: r) nv ⟨e,o,n⟩ d acc K t:=by
 subst hj
 have hl:=(List.getElem?_eq_some_iff.1 hi).1
 refine Gv (m:=1) (agg:=false) (off:=off) (z:=.agg (l.map en)) (v:=en q) hg hx ?_ ?_ h
 ·simp only [cells,List.length_map]
  exact Nat.ble_eq_true_of_le (by omega)
 ·simp only [OR,cells,Bool.false_eq_true,if_false]
  simp [hi]
theorem NR {q : α} {len : Nat} (hg : gOn e g = true) (hx : Aa e x = some (.agg (l.map en))) (hy : Aa e y = some (.int k a)) (hi : 0 <= a /\ a < len) (hl : len <= l.length) (hq : l[a.toNat]? = some q)
  (h : TrO Γ r (nv + 1) ⟨(dst,en q) :: e,o,n⟩ d (acc ++ [(gK g ++ (rdK x ++ rdK y),[.e dst],af)]) K t) :
  TrO Γ (⟨some dst,.ix 1 len false x y,g,af⟩ :: r) nv ⟨e,o,n⟩ d acc K t:=by
 refine Am hg (c:=True) (we:=[(dst,en q)]) (wo:=[]) (rd:=rdK x ++ rdK y) ?_ (by simp [evalOp,strip,hx,hy]) trivial h
 simp [evalOp,Ad,strip,hx,hy,hi.1,hi.2,hl,OR,hq]
end
end Go.Dw
namespace Go.Dw
section
variable {Γ Γ' : Ar} {X ι γ : Type} {K : X -> Au -> S -> Prop} {t : Option X} {e E : List (Nat × D)} {o O : List (Nat × Ac)} {n nv N : Nat} {acc : List CA}
 {r : List Aw} {dst : Option Nat} {g : Option (Nat × Bool)} {af : List Nat}
theorem QS {σ : S} {E1 : List (Nat × D)} {O1 : List (Nat × Ac)} (h : Has σ E1 O1) (k : ∀ n,Has ⟨E1,O1,n⟩ E O) : Has σ E O :=
 h.elim λn h=>(k n).imp λ_ k=>h.trans k
theorem Pq (rn : Nat -> Nat) (hn : DG rn (o.map Prod.fst) = true) (h : Has ⟨e.map (λp=>(p.1,rnm rn p.2)),o.map (λp=>(rn p.1,rnO rn p.2)),n⟩ E O) : Has ⟨e,o,n⟩ E O :=
 Cp (Rw.nams (σ:=⟨e,o,n⟩) rn hn) h
def TrC (Γ : Ar) (op : Aw) (r : List Aw) (K : X -> Au -> S -> Prop) (σ : S) (t : Option X) : Prop:=∀ x,t = some x -> He Γ op σ (Wk (λτ=>wpS Γ r τ.n τ (K x .normal)))
theorem Sx {op : Aw} {E : γ -> List (Nat × D)} {O : γ -> List (Nat × Ac)} (g0 : γ) (hh : Has ⟨e,o,nv⟩ (E g0) (O g0)) (h : ∀ g nn,TrC Γ op r K ⟨E g,O g,nn⟩ t) : TrO Γ (op :: r) nv ⟨e,o,n⟩ false acc (Ex N K) t:=by
 intro x hx
 refine ⟨λ_=>.inr (.inl ?_),λhd=>by cases hd⟩
 obtain ⟨m,hm⟩:=hh
 exact ⟨_,hm,h g0 m x hx⟩
def Ll (Γ : Ar) (r : List Aw) (dst : Option Nat) (rs : List AS) (e : List (Nat × D)) (K : X -> Au -> S -> Prop) : X -> Au -> S -> Prop:=λx =>
 Ik rs e (λd τ=>Wk (λτ=>wpS Γ r τ.n τ (K x .normal)) ⟨Ad dst d ++ τ.e,τ.o,τ.n⟩)
def JQ (dst : Option Nat) (rs : List AS) (e : List (Nat × D)) (E : ι -> γ -> List (Nat × D)) (O : ι -> γ -> List (Nat × Ac)) (j : ι -> Option X) : X -> Au -> S -> Prop:=λx =>
 Ik rs e (λd τ=>∃ s g,j s = some x /\ Has ⟨Ad dst d ++ τ.e,τ.o,τ.n⟩ (E s g) (O s g))
theorem Iw {fa : Arg} {args : List Arg} {k np : Nat} {caps ds : List D} {rs : List AS} {dc : Pf} {KK : X -> Au -> S -> Prop} (hg : gOn e g = true) (hf : Aa e fa = some (.clo k caps)) (hds : Al e args = ds) (hw : ds.all (λd=>(match d with | .when ..=>false | _=>true)) = true) (hkb : Nat.blt k 4096 = true)
  (hΓ : Γ (k + 4096 * AN ds) = some (Tv Γ' np rs dc)) (hnp : (ds ++ caps).length = np) (hE : DI 0 (ds ++ caps) = E) (hK : ∀ x ex τ,KK x ex τ -> Ll Γ r dst rs e K x ex τ) (h : Tr Γ' dc KK ⟨E,o,n⟩ t) :
  TrC Γ ⟨dst,.call fa args,g,af⟩ r K ⟨e,o,n⟩ t:=by
 intro x hx
 have hrd : (AO args).run ⟨e,o,n⟩ = ds:=by rw [<- hds]; exact Br args
 have hraw : (raw fa).run ⟨e,o,n⟩ = .clo k caps:=by simp [hf]
 have hon : onG g ⟨e,o,n⟩:=by
  cases g with
  | none=>trivial
  | some p =>
   obtain ⟨tt,want⟩:=p
   show (guardOf ((S.mk e o n).ge tt) want).1 /\ (guardOf ((S.mk e o n).ge tt) want).2 = true
   simp only [gOn,BI] at hg
   simp only [S.ge]
   generalize (look e tt).getD .top = dd at *
   cases dd <;> simp_all [guardOf]
   rename_i p dd
   cases dd <;> simp_all
 refine ⟨hon,fa,args,k,caps,Tv Γ' np rs dc,Ln Γ' np rs dc,Wk (λτ=>wpS Γ r τ.n τ (K x .normal)),λτ hτ=>hτ,rfl,hraw,hkb,?_,rfl,?_,?_⟩
 ·show Γ (k + 4096 * AN ((AO args).run ⟨e,o,n⟩)) = _
  rw [hrd]; exact hΓ
 ·show ((AO args).run ⟨e,o,n⟩).all _ = true
  rw [hrd]; exact hw
 ·show Ln Γ' np rs dc ((AO args).run ⟨e,o,n⟩ ++ caps) ⟨e,o,n⟩ _
  rw [hrd]
  refine ⟨hnp,_,.refl _,?_⟩
  show DWp Γ' dc _ ⟨DI 0 (ds ++ caps),o,n⟩
  rw [hE]
  exact Bu dc _ _ _ (λex τ hq=>hK x ex τ hq) (h x hx)
theorem Td {fa : Arg} {args : List Arg} {k np : Nat} {caps ds : List D} {rs : List AS} {dc : Pf} (hg : gOn e g = true) (hf : Aa e fa = some (.clo k caps)) (hds : Al e args = ds) (hw : ds.all (λd=>(match d with | .when ..=>false | _=>true)) = true) (hkb : Nat.blt k 4096 = true)
  (hΓ : Γ (k + 4096 * AN ds) = some (Tv Γ' np rs dc)) (hnp : (ds ++ caps).length = np) (hE : DI 0 (ds ++ caps) = E) (h : Tr Γ' dc (Ll Γ r dst rs e K) ⟨E,o,n⟩ t) :
  TrC Γ ⟨dst,.call fa args,g,af⟩ r K ⟨e,o,n⟩ t:=Iw hg hf hds hw hkb hΓ hnp hE (λ_ _ _ h=>h) h
theorem KF {rs : List AS} {K1 K2 : D -> S -> Prop} (h : ∀ d τ,K1 d τ -> K2 d τ) {ex : Au} {τ : S} (hq : Ik rs e K1 ex τ) : Ik rs e K2 ex τ:=by
 cases ex with
 | exit id=>exact hq
 | normal=>exact Wk.mono (λτ h'=>⟨h'.1,h _ _ h'.2⟩) hq
 | ret=>exact Wk.mono (λτ h'=>⟨h'.1,h _ _ h'.2⟩) hq
theorem WC {fa : Arg} {args : List Arg} {k np : Nat} {caps ds : List D} {rs : List AS} {dc : Pf} {ES : ι -> γ -> List (Nat × D)} {OS : ι -> γ -> List (Nat × Ac)} {j : ι -> Option X} (hg : gOn e g = true) (hf : Aa e fa = some (.clo k caps)) (hds : Al e args = ds) (hw : ds.all (λd=>(match d with | .when ..=>false | _=>true)) = true) (hkb : Nat.blt k 4096 = true)
  (hΓ : Γ (k + 4096 * AN ds) = some (Tv Γ' np rs dc)) (hnp : (ds ++ caps).length = np) (hE : DI 0 (ds ++ caps) = E) (h : Tr Γ' dc (JQ dst rs e ES OS j) ⟨E,o,n⟩ t) (h2 : ∀ s g nn,TrO Γ r nn ⟨ES s g,OS s g,nn⟩ false [] (Ex 0 K) (j s)) :
  TrC Γ ⟨dst,.call fa args,g,af⟩ r K ⟨e,o,n⟩ t:=by
 refine Iw (KK:=JQ dst rs e ES OS j) hg hf hds hw hkb hΓ hnp hE (λx ex τ hq=>?_) h
 refine KF (λd τ hq=>?_) hq
 obtain ⟨s,g,hj,m,hm⟩:=hq
 exact ⟨_,hm,(h2 s g m x hj).1 rfl⟩
theorem TN {rs : List AS} {d : D} {ex : Au} {e' : List (Nat × D)} {o' : List (Nat × Ac)} {n' : Nat} (hex : (match ex with | .exit _=>false | _=>true) = true) (hr : (OX rs ⟨e',o',n'⟩).1) (hd : (OX rs ⟨e',o',n'⟩).2 = d) (hh : Has ⟨Ad dst d ++ e,o',n'⟩ E O)
  (h : ∀ nn,TrO Γ r nn ⟨E,O,nn⟩ false [] (Ex 0 K) t) : TrX ex (Ll Γ r dst rs e K) ⟨e',o',n'⟩ t:=by
 intro x hx
 subst hd
 have key : Wk (λτ=>(OX rs τ).1 /\ (λ(d : D) (τ : S)=>Wk (λτ=>wpS Γ r τ.n τ (K x .normal)) ⟨Ad dst d ++ τ.e,τ.o,τ.n⟩) (OX rs τ).2 ⟨e,τ.o,τ.n⟩) ⟨e',o',n'⟩:=by
  refine ⟨_,.refl _,?_⟩
  obtain ⟨m,hm⟩:=hh
  exact ⟨hr,_,hm,(h m x hx).1 rfl⟩
 cases ex with
 | exit id=>cases hex
 | normal=>exact key
 | ret=>exact key
theorem TX {rs : List AS} {d : D} {ex : Au} {e' : List (Nat × D)} {o' : List (Nat × Ac)} {n' : Nat} {ES : ι -> γ -> List (Nat × D)} {OS : ι -> γ -> List (Nat × Ac)} {j : ι -> Option X} {s : ι} (g : γ) (hex : (match ex with | .exit _=>false | _=>true) = true) (hr : (OX rs ⟨e',o',n'⟩).1) (hd : (OX rs ⟨e',o',n'⟩).2 = d)
  (hh : Has ⟨Ad dst d ++ e,o',n'⟩ (ES s g) (OS s g)) : TrX ex (JQ dst rs e ES OS j) ⟨e',o',n'⟩ (j s):=by
 intro x hx
 subst hd
 have key : Wk (λτ=>(OX rs τ).1 /\ (λ(d : D) (τ : S)=>∃ s g,j s = some x /\ Has ⟨Ad dst d ++ τ.e,τ.o,τ.n⟩ (ES s g) (OS s g)) (OX rs τ).2 ⟨e,τ.o,τ.n⟩) ⟨e',o',n'⟩:=by
  refine ⟨_,.refl _,hr,s,g,hx,hh⟩
 cases ex with
 | exit id=>cases hex
 | normal=>exact key
 | ret=>exact key
theorem Ox {α : Type} {σ : S} {c : Pf} {m : Option α} {k : α -> Option X} (h : ∀ x,m = some x -> Tr Γ c K σ (k x)) : Tr Γ c K σ (m.bind k):=by
 intro r hr
 obtain ⟨x,hx,hk⟩:=Option.bind_eq_some_iff.1 hr
 exact h x hx r hk
theorem Oz {σ : S} {c : Pf} {p : Prop} [Decidable p] (h : p -> Tr Γ c K σ t) : Tr Γ c K σ (chk p t):=by
 intro r hr
 obtain ⟨hp,ht⟩:=HV hr
 exact h hp r ht
theorem Om {α : Type} {l : List α} {f : α -> D} {i j : Nat} {q : α} {u v : D} (h : l[i]? = some q) (hij : i ≠ j) : (((l.map f).set i u).set j v)[i]? = some u:=by
 have:=(List.getElem?_eq_some_iff.1 h).1
 rw [List.getElem?_set_ne (λe=>hij e.symm)]; simp [this]
theorem On {α : Type} {l : List α} {f : α -> D} {i j : Nat} {q : α} {u v : D} (h : l[j]? = some q) : (((l.map f).set i u).set j v)[j]? = some v:=by
 have:=(List.getElem?_eq_some_iff.1 h).1
 simp [this]
theorem VS {α : Type} {KK : KR X} {d : Bool} {x y : Arg} {s ty gi vi : Nat} {l : List α} {en : α -> D} {i : Nat} {q q' : α} {c : Prop} {rk : List Key} (hg : gOn e g = true) (hx : Aa e x = some (.optr gi vi i 0)) (hy : Aa e y = some (en q')) (hw : strip (en q') = (true,en q'))
  (ho : lkO o gi = some (vi,⟨false,false,s,ty,l.map en⟩)) (hi : l[i]? = some q) (hk : known (en q') = true) (hc : ∀ q,cells (en q) = [en q])
  (hz : AD (en q) 0 [en q'] = en q') (hcl : (AJ false [en q']).run ⟨e,o,n⟩ = (c,[en q'],[])) (hrd : (AJ false [en q']).rd ⟨e,o,n⟩ = rk) (hcc : c)
  (h : TrO Γ r (nv + 1) ⟨e,(gi,some (vi,⟨false,false,s,ty,(l.set i q').map en⟩)) :: o,n⟩ d (acc ++ [(gK g ++ (rdK x ++ (rdK y ++ (.o gi :: rk))),[.o gi],af)]) KK t) (hrg : Ab gi = true:=by rfl) :
  TrO Γ (⟨none,.st 1 x y,g,af⟩ :: r) nv ⟨e,o,n⟩ d acc KK t:=by
 have hl:=(List.getElem?_eq_some_iff.1 hi).1
 refine RN (i:=i) (off:=0) (m:=1) (z:=en q) (es':=(l.set i q').map en) (cs':=[en q']) (wo:=[]) (rk:=rk) hg hx hy hw ho (by rw [hc]; exact hcl) (by rw [hc]; exact hrd) hcc (by simp [hi]) hk (by rw [hc]; rfl) (by rw [hc]; rfl) ?_ rfl h hrg
 rw [hz,List.map_set]
end
end Go.Dw
namespace Go.Dw
def Uq {α : Type} (z : α) (n : Int) : List (Int × α) -> α
 | []=>z
 | (k,u) :: r=>if k = n then u else Uq z n r
def Ur {α : Type} (n : Int) (u : α) : List (Int × α) -> List (Int × α)
 | []=>[(n,u)]
 | (k,u') :: r=>if k = n then (k,u) :: r else (k,u') :: Ur n u r
def SU {α : Type} (n : Int) : List (Int × α) -> List (Int × α)
 | []=>[]
 | (k,u) :: r=>if k = n then r else (k,u) :: SU n r
def BZ {α : Type} (en : α -> D) (p : Int × α) : D:=.agg [.int .i64 p.1,en p.2]
theorem Hx {α : Type} (en : α -> D) (z : α) (n : Int) : ∀ l : List (Int × α),CV (en z) n (l.map (BZ en)) = en (Uq z n l)
 | []=>rfl
 | (k,u) :: r=>by
  simp only [List.map_cons,BZ,CV,Uq]
  split
  ·rfl
  ·exact Hx en z n r
theorem Hy {α : Type} (en : α -> D) (u : α) (n : Int) : ∀ l : List (Int × α),CW n (en u) (l.map (BZ en)) = (Ur n u l).map (BZ en)
 | []=>rfl
 | (k,u') :: r=>by
  simp only [List.map_cons,BZ,CW,Ur]
  split
  ·rfl
  ·have:=Hy en u n r
   simp only [List.map_cons,BZ] at this ⊢
   rw [<- this]
theorem Fb {α : Type} (en : α -> D) (n : Int) : ∀ l : List (Int × α),CU n (l.map (BZ en)) = (SU n l).map (BZ en)
 | []=>rfl
 | (k,u') :: r=>by
  simp only [List.map_cons,BZ,CU,SU]
  split
  ·rfl
  ·have:=Fb en n r
   simp only [List.map_cons,BZ] at this ⊢
   rw [<- this]
theorem Fm {α : Type} (l : List α) (en : α -> D) (k : Nat) : List.take (l.length - k) (List.drop k (l.map en)) = (l.drop k).map en:=by
 rw [<- List.map_drop]
 exact List.take_of_length_le (by simp)
section
variable {Γ : Ar} {X α : Type} {K : KR X} {t : Option X} {e E : List (Nat × D)} {o O : List (Nat × Ac)} {n nv : Nat} {acc : List CA} {d : Bool}
 {r : List Aw} {dst : Nat} {g : Option (Nat × Bool)} {af : List Nat} {x y i : Arg} {gi vi ty : Nat} {m : Int} {en : α -> D} {l : List (Int × α)} {z : D}
theorem BQ (g v : Nat) : strip (.mref g v) = (true,.mref g v):=rfl
theorem BP (k : IntKind) (n : Int) : strip (.int k n) = (true,.int k n):=rfl
theorem Ow {K : X -> Au -> S -> Prop} {N : Nat} 
  (h : ∀ nn,TrO Γ r (nn + 1) ⟨(dst,.mref dst nn) :: e,(dst,some (nn,⟨true,false,0,0,[]⟩)) :: o,nn + 1⟩ false [] (Ex N K) t) :
  TrO Γ (⟨some dst,.mkm,none,af⟩ :: r) nv ⟨e,o,n⟩ false acc (Ex N K) t:=by
 intro q hq
 refine ⟨λ_=>.inr (.inr ?_),λhd=>by cases hd⟩
 exact ⟨_,.refl _,rfl,rfl,dst,rfl,_,.refl _,(h nv q hq).1 rfl⟩
theorem Xd {v gg off tt s tyy ss : Nat} {zz z' : D} (ho : lkO o gg = some (v,⟨false,true,ss,ty,[zz]⟩)) (hc : (cells zz)[off]? = some .nils) (hs : Nat.blt 0 s = true) (hz : AD zz off [.osl tt n 0 0] = z')
  (h : Has ⟨e,(gg,some (v,⟨false,true,ss,ty,[z']⟩)) :: (tt,some (n,⟨false,false,s,tyy,[]⟩)) :: o,n + 1⟩ E O) (hr : Ab gg = false:=by rfl) (hne : Nat.beq gg tt = false:=by rfl) : Has ⟨e,o,n⟩ E O:=by
 subst hz
 have hs' : 0 < s:=by simpa [Nat.blt_eq] using hs
 have hne' : gg ≠ tt:=λe=>by subst e; simp at hne
 have:=Rw.nilv (σ:=⟨e,o,n⟩) gg v 0 off tt s tyy ⟨false,true,ss,ty,[zz]⟩ (by rw [Ax]; exact ho) hr rfl rfl (by simp) hc hs' hne'
 exact Cp this h
theorem WM {v vw gw off gg s tyy ss tw k : Nat} {β : Type} {l : List β} {en : β -> D} {zz z' : D} (how : lkO o gw = some (vw,⟨false,true,ss,tw,[zz]⟩)) (hc : (cells zz)[off]? = some (.osl gg v 0 k)) (ho : lkO o gg = some (v,⟨false,false,s,tyy,l.map en⟩)) (hk : k <= l.length)
  (hz : AD zz off [.osl gg v 0 (l.take k).length] = z')
  (h : Has ⟨e,(gw,some (vw,⟨false,true,ss,tw,[z']⟩)) :: (gg,some (v,⟨false,false,s,tyy,(l.take k).map en⟩)) :: o,n⟩ E O) (hrw : Ab gw = false:=by rfl) (hr : Ab gg = false:=by rfl) (hne : Nat.beq gw gg = false:=by rfl) : Has ⟨e,o,n⟩ E O:=by
 subst hz
 have hne' : gw ≠ gg:=λe=>by subst e; simp at hne
 have:=Rw.shrink (σ:=⟨e,o,n⟩) gw vw 0 off gg v k ⟨false,true,ss,tw,[zz]⟩ ⟨false,false,s,tyy,l.map en⟩ (by rw [Ax]; exact how) hrw rfl rfl (by simp) hc (by rw [Ax]; exact ho) hr rfl rfl (by simpa using hk) hne'
 refine Cp this ?_
 have e1 : ((l.map en).take k).length = (l.take k).length:=by simp
 have e2 : (l.map en).take k = (l.take k).map en:=List.map_take.symm
 simp only [List.getD_cons_zero,List.set_cons_zero]
 rw [e2,List.length_map]
 exact h
theorem Ok (hg : gOn e g = true) (hx : Aa e x = some (.mref gi vi)) (hi : Aa e i = some (.int .i64 m)) (ho : lkO o gi = some (vi,⟨true,false,0,ty,l.map (BZ en)⟩)) (zz : α) (hz : z = en zz)
  (h : TrO Γ r (nv + 1) ⟨(dst,en (Uq zz m l)) :: e,o,n⟩ d (acc ++ [(gK g ++ (rdK x ++ (rdK i ++ [.o gi])),[.e dst],af)]) K t) :
  TrO Γ (⟨some dst,.mget z x i,g,af⟩ :: r) nv ⟨e,o,n⟩ d acc K t:=by
 subst hz
 refine Am hg (c:=True) (we:=[(dst,en (Uq zz m l))]) (wo:=[]) (rd:=rdK x ++ (rdK i ++ [Key.o gi])) ?_ ?_ trivial h
 ·simp only [evalOp,R.run_bind,Ap,Option.getD_some,hx,hi,BQ,BP,BW,R.AU,Ax,ho,R.AF,R.run_pure,Ad,Hx]
  simp
 ·simp only [evalOp,R.AM,Ap,Bg,Option.getD_some,hx,hi,BQ,BP,BW,R.BN,Ax,ho,R.Cc,R.Bs,List.append_nil]
theorem Ol (hg : gOn e g = true) (hx : Aa e x = some (.mref gi vi)) (hi : Aa e i = some (.int .i64 m)) (u : α) (hy : Aa e y = some (en u)) (hw : strip (en u) = (true,en u)) (hgr : Bc (en u) = true) (ho : lkO o gi = some (vi,⟨true,false,0,ty,l.map (BZ en)⟩))
  (h : TrO Γ r (nv + 1) ⟨e,(gi,some (vi,⟨true,false,0,ty,(Ur m u l).map (BZ en)⟩)) :: o,n⟩ d (acc ++ [(gK g ++ (rdK x ++ (rdK i ++ (rdK y ++ [.o gi]))),[.o gi],af)]) K t) :
  TrO Γ (⟨none,.mset x i y,g,af⟩ :: r) nv ⟨e,o,n⟩ d acc K t:=by
 refine Am hg (c:=True) (we:=[]) (wo:=[(gi,some (vi,⟨true,false,0,ty,(Ur m u l).map (BZ en)⟩))]) (rd:=rdK x ++ (rdK i ++ (rdK y ++ [Key.o gi]))) ?_ ?_ trivial h
 ·simp only [evalOp,R.run_bind,Ap,Option.getD_some,hx,hi,hy,hw,BQ,BP,BW,R.AU,Ax,ho,R.AF,R.run_pure,Hy,hgr]
  simp
 ·simp only [evalOp,R.AM,Ap,Bg,Option.getD_some,hx,hi,hy,hw,BQ,BP,BW,R.BN,Ax,ho,R.Cc,R.Bs,List.append_nil]
theorem Oj (hg : gOn e g = true) (hx : Aa e x = some (.mref gi vi)) (hi : Aa e i = some (.int .i64 m)) (ho : lkO o gi = some (vi,⟨true,false,0,ty,l.map (BZ en)⟩))
  (h : TrO Γ r (nv + 1) ⟨(dst,.tup []) :: e,(gi,some (vi,⟨true,false,0,ty,(SU m l).map (BZ en)⟩)) :: o,n⟩ d (acc ++ [(gK g ++ (rdK x ++ (rdK i ++ [.o gi])),[.e dst,.o gi],af)]) K t) :
  TrO Γ (⟨some dst,.mdel x i,g,af⟩ :: r) nv ⟨e,o,n⟩ d acc K t:=by
 refine Am hg (c:=True) (we:=[(dst,.tup [])]) (wo:=[(gi,some (vi,⟨true,false,0,ty,(SU m l).map (BZ en)⟩))]) (rd:=rdK x ++ (rdK i ++ [Key.o gi])) ?_ ?_ trivial h
 ·simp only [evalOp,R.run_bind,Ap,Option.getD_some,hx,hi,BQ,BP,BW,R.AU,Ax,ho,R.AF,R.run_pure,Ad,Fb]
  simp
 ·simp only [evalOp,R.AM,Ap,Bg,Option.getD_some,hx,hi,BQ,BP,BW,R.BN,Ax,ho,R.Cc,R.Bs,List.append_nil]
theorem Od (hg : gOn e g = true) (hx : Aa e x = some (.mref gi vi)) (hi : Aa e i = some (.int .i64 m)) (ho : lkO o gi = some (vi,⟨true,false,0,ty,l.map (BZ en)⟩))
  (h : TrO Γ r (nv + 1) ⟨e,(gi,some (vi,⟨true,false,0,ty,(SU m l).map (BZ en)⟩)) :: o,n⟩ d (acc ++ [(gK g ++ (rdK x ++ (rdK i ++ [.o gi])),[.o gi],af)]) K t) :
  TrO Γ (⟨none,.mdel x i,g,af⟩ :: r) nv ⟨e,o,n⟩ d acc K t:=by
 refine Am hg (c:=True) (we:=[]) (wo:=[(gi,some (vi,⟨true,false,0,ty,(SU m l).map (BZ en)⟩))]) (rd:=rdK x ++ (rdK i ++ [Key.o gi])) ?_ ?_ trivial h
 ·simp only [evalOp,R.run_bind,Ap,Option.getD_some,hx,hi,BQ,BP,BW,R.AU,Ax,ho,R.AF,R.run_pure,Ad,Fb]
  simp
 ·simp only [evalOp,R.AM,Ap,Bg,Option.getD_some,hx,hi,BQ,BP,BW,R.BN,Ax,ho,R.Cc,R.Bs,List.append_nil]
end
theorem nbq (a b : Nat) : Nat.beq a b = decide (a = b):=by
 by_cases h : a = b
 ·simp [h]
 ·rw [decide_eq_false h]
  exact Bool.eq_false_iff.2 λh'=>h (Nat.eq_of_beq_eq_true h')
end Go.Dw
namespace Go.Dw
class TyE (ty : Nat) {α : outParam Type} (en : outParam (α -> D)) : Prop
def noE {B : Type} (_ : B) : List D:=[]
class PZ {A : Type} (enc : A -> List D) (dec : outParam (List D -> A)) : Prop where
 ok : ∀ a,dec (enc a) = a
def EvL (l l' : List D) : Prop:=l = l'
theorem EvL.nil {l : List D} (h : l = []) : EvL l []:=h
theorem EvL.cons {l t t' : List D} {a : D} (h : l = a :: t) (ht : EvL t t') : EvL l (a :: t'):=by
 cases ht; exact h
def EvP (l l' : List (Nat × Nat × D)) : Prop:=l = l'
theorem EvP.nil {l : List (Nat × Nat × D)} (h : l = []) : EvP l []:=h
theorem EvP.cons {e : List (Nat × D)} {a b : Nat} {x : Arg} {r : List (Nat × Nat × Arg)} {d : D} {r' : List (Nat × Nat × D)} (h : Aa e x = some d) (ht : EvP (Cr e r) r') : EvP (Cr e ((a,b,x) :: r)) ((a,b,d) :: r'):=by
 cases ht; simp [EvP,Cr,h]
section
variable {Γ : Ar} {X : Type} {K : KR X} {t : Option X} {e : List (Nat × D)} {o : List (Nat × Ac)} {n nv : Nat} {d : Bool} {acc : List CA}
 {r : List Aw} {dst : Nat} {g : Option (Nat × Bool)} {af : List Nat} {α : Type}
 {x y : Arg} {v v' w : D} {k k' : IntKind} {a b : Int} {s ty gi vi ii off m : Nat} {fz var : Bool} {es cs : List D} {z z' : D} {l l' : List α} {en : α -> D}
theorem FD {i : Nat} (hg : gOn e g = true) (hx : Aa e x = some (.optr gi vi i off)) (ho : lkO o gi = some (vi,⟨fz,var,s,ty,es⟩)) (hz : es[i]? = some z) (hv : (cells z)[off]? = some v)
  (h : TrO Γ r (nv + 1) ⟨(dst,v) :: e,o,n⟩ d (acc ++ [(gK g ++ (rdK x ++ [.o gi]),[.e dst],af)]) K t) (hpl : (plain v || !Ab gi) = true:=by rfl) :
  TrO Γ (⟨some dst,.ld 1 false x,g,af⟩ :: r) nv ⟨e,o,n⟩ d acc K t :=
 EC hg hx ho hz (Nat.ble_eq_true_of_le (List.getElem?_eq_some_iff.1 hv).1) (by simp [OR,hv]) h hpl
theorem FE {i : Nat} (hg : gOn e g = true) (hx : Aa e x = some (.optr gi vi i off)) (ho : lkO o gi = some (vi,⟨fz,var,s,ty,es⟩)) (hz : es[i]? = some z) (hb : Nat.ble (off + m) (cells z).length = true) (hv : EvL (((cells z).drop off).take m) cs)
  (h : TrO Γ r (nv + 1) ⟨(dst,.agg cs) :: e,o,n⟩ d (acc ++ [(gK g ++ (rdK x ++ [.o gi]),[.e dst],af)]) K t) :
  TrO Γ (⟨some dst,.ld m true x,g,af⟩ :: r) nv ⟨e,o,n⟩ d acc K t :=
 EC hg hx ho hz hb (by cases hv; rfl) h (by rfl)
theorem IM (hg : gOn e g = true) (hx : Aa e x = some (.fptr z off)) (hv : (cells z)[off]? = some v)
  (h : TrO Γ r (nv + 1) ⟨(dst,v) :: e,o,n⟩ d (acc ++ [(gK g ++ rdK x,[.e dst],af)]) K t) :
  TrO Γ (⟨some dst,.ld 1 false x,g,af⟩ :: r) nv ⟨e,o,n⟩ d acc K t :=
 Gv hg hx (Nat.ble_eq_true_of_le (List.getElem?_eq_some_iff.1 hv).1) (by simp [OR,hv]) h
theorem IP (hg : gOn e g = true) (hx : Aa e x = some (.fptr z off)) (hb : Nat.ble (off + m) (cells z).length = true) (hv : EvL (((cells z).drop off).take m) cs)
  (h : TrO Γ r (nv + 1) ⟨(dst,.agg cs) :: e,o,n⟩ d (acc ++ [(gK g ++ rdK x,[.e dst],af)]) K t) :
  TrO Γ (⟨some dst,.ld m true x,g,af⟩ :: r) nv ⟨e,o,n⟩ d acc K t :=
 Gv hg hx hb (by cases hv; rfl) h
theorem LJ (hg : gOn e g = true) (hx : Aa e x = some (.optr gi vi 0 0)) (hy : Aa e y = some v) (hw : strip v = (true,v)) (ho : lkO o gi = some (vi,⟨false,true,s,ty,[z]⟩)) (hk : known v = true) (hl : cells v = [v'])
  (hb : Nat.ble 1 (cells z).length = true) (hz : (match z with | .agg _=>false | _=>true) = true)
  (h : TrO Γ r (nv + 1) ⟨e,(gi,some (vi,⟨false,true,s,ty,[v']⟩)) :: o,n⟩ d (acc ++ [(gK g ++ (rdK x ++ (rdK y ++ [.o gi])),[.o gi],af)]) K t) (hrg : Ab gi = false:=by rfl) :
  TrO Γ (⟨none,.st 1 x y,g,af⟩ :: r) nv ⟨e,o,n⟩ d acc K t :=
 ED hg hx hy hw ho hk (by rw [hl]; rfl) hb (by rw [hl]; cases z <;> first | rfl | cases hz) h hrg
theorem LK {zs : List D} (hg : gOn e g = true) (hx : Aa e x = some (.optr gi vi 0 off)) (hy : Aa e y = some v) (hw : strip v = (true,v)) (ho : lkO o gi = some (vi,⟨false,true,s,ty,[z]⟩)) (hk : known v = true) (hl : (cells v).length = m)
  (hzz : z = .agg zs) (hb : Nat.ble (off + m) zs.length = true) (hz : EvL (setAt zs off (cells v)) cs)
  (h : TrO Γ r (nv + 1) ⟨e,(gi,some (vi,⟨false,true,s,ty,[.agg cs]⟩)) :: o,n⟩ d (acc ++ [(gK g ++ (rdK x ++ (rdK y ++ [.o gi])),[.o gi],af)]) K t) (hrg : Ab gi = false:=by rfl) :
  TrO Γ (⟨none,.st m x y,g,af⟩ :: r) nv ⟨e,o,n⟩ d acc K t:=by
 subst hzz; cases hz
 exact ED hg hx hy hw ho hk hl hb rfl h hrg
theorem LH {zs : List D} {parts : List (Nat × Nat × Arg)} {ps : List (Nat × Nat × D)} (hg : gOn e g = true) (hp : EvP (Cr e parts) ps) (hf : Ek zs.length ps = true) (hz : EvL (DP zs ps) cs)
  (h : TrO Γ r (nv + 1) ⟨(dst,.agg cs) :: e,o,n⟩ d (acc ++ [(gK g ++ Dc parts,[.e dst],af)]) K t) :
  TrO Γ (⟨some dst,.bld zs parts,g,af⟩ :: r) nv ⟨e,o,n⟩ d acc K t:=MT hg hp hf hz h
theorem Ke (hg : gOn e g = true) (hx : Aa e x = some (.agg cs)) (hv : cs[off]? = some v)
  (h : TrO Γ r (nv + 1) ⟨(dst,v) :: e,o,n⟩ d (acc ++ [(gK g ++ rdK x,[.e dst],af)]) K t) :
  TrO Γ (⟨some dst,.fld off 1 false x,g,af⟩ :: r) nv ⟨e,o,n⟩ d acc K t :=
 Jv hg hx (Nat.ble_eq_true_of_le (List.getElem?_eq_some_iff.1 hv).1) (by simp [OR,hv]) h
theorem Kf {cs' : List D} (hg : gOn e g = true) (hx : Aa e x = some (.agg cs)) (hb : Nat.ble (off + m) cs.length = true) (hv : EvL ((cs.drop off).take m) cs')
  (h : TrO Γ r (nv + 1) ⟨(dst,.agg cs') :: e,o,n⟩ d (acc ++ [(gK g ++ rdK x,[.e dst],af)]) K t) :
  TrO Γ (⟨some dst,.fld off m true x,g,af⟩ :: r) nv ⟨e,o,n⟩ d acc K t :=
 Jv hg hx hb (by cases hv; rfl) h
theorem Hq (_ : TyE ty en) (hg : gOn e g = true) (hx : Aa e x = some .nils) (h : TrO Γ r (nv + 1) ⟨(dst,.osl dst nv 0 ([] : List α).length) :: e,(dst,some (nv,⟨false,false,s,ty,([] : List α).map en⟩)) :: o,n⟩ d (acc ++ [(gK g ++ rdK x,[.e dst,.o dst],af)]) K t) :
  TrO Γ (⟨some dst,.asg x (some (s,ty)),g,af⟩ :: r) nv ⟨e,o,n⟩ d acc K t:=IH hg en hx h
theorem LI {bytes : Nat} {q : α} (_ : TyE ty en) (hz : z = en q) (hg : gOn e g = true) (hx : Aa e x = some (.int k a)) (hy : Aa e y = some (.int k' a)) (hl : 0 <= a /\ a <= 16777216) (hby : Nat.ble bytes 65536 = true)
  (h : TrO Γ r (nv + 1) ⟨(dst,.osl dst nv 0 (List.replicate a.toNat q).length) :: e,(dst,some (nv,⟨false,false,s,ty,(List.replicate a.toNat q).map en⟩)) :: o,n⟩ d (acc ++ [(gK g ++ (rdK x ++ rdK y),[.e dst,.o dst],af)]) K t) :
  TrO Γ (⟨some dst,.mkS s ty bytes z x y,g,af⟩ :: r) nv ⟨e,o,n⟩ d acc K t:=Vw en hg hx hy hz hl hby h
theorem IJ {c : Prop} {parts : List (Nat × Arg)} {i : Nat} {p : D} {rk : List Key} {q : α} (_ : TyE ty en) (hg : gOn e g = true) (hr : (AQ parts).run ⟨e,o,n⟩ = (c,[(i,p)],[])) (hk : (AQ parts).rd ⟨e,o,n⟩ = rk) (hc : c) (hq : p = en q)
  (hp : HZ s 1 [(i,p)] = true) (hes : Rc [z] [(i,en q)] = [en q])
  (h : TrO Γ r (nv + 1) ⟨(dst,.osl dst nv 0 [q].length) :: e,(dst,some (nv,⟨false,false,s,ty,[q].map en⟩)) :: o,n⟩ d (acc ++ [(gK g ++ rk,[.e dst,.o dst],af)]) K t) :
  TrO Γ (⟨some dst,.bldS s ty z 1 parts,g,af⟩ :: r) nv ⟨e,o,n⟩ d acc K t:=by
 subst hq
 exact Vn [q] en hg hr hk hc hp hes rfl (by simpa using h)
theorem IL {p q : Bool} (hg : gOn e g = true) (hx : Aa e x = some (.bool p)) (hy : Aa e y = some (.bool q))
  (h : TrO Γ r (nv + 1) ⟨(dst,.bool (!(p == q))) :: e,o,n⟩ d (acc ++ [(gK g ++ (rdK x ++ rdK y),[.e dst],af)]) K t) :
  TrO Γ (⟨some dst,.eqB true x y,g,af⟩ :: r) nv ⟨e,o,n⟩ d acc K t:=Jt hg hx hy h
theorem IK {p q : Bool} (hg : gOn e g = true) (hx : Aa e x = some (.bool p)) (hy : Aa e y = some (.bool q))
  (h : TrO Γ r (nv + 1) ⟨(dst,.bool (p == q)) :: e,o,n⟩ d (acc ++ [(gK g ++ (rdK x ++ rdK y),[.e dst],af)]) K t) :
  TrO Γ (⟨some dst,.eqB false x y,g,af⟩ :: r) nv ⟨e,o,n⟩ d acc K t:=Jt hg hx hy h
theorem UB {ops : List Aw} {x : Nat} {wt : Bool} {b : Bool} {dt : Option Nat} {op : DOp} {t1 t2 : Option X} (hx : PS e x = some (.bool b))
  (h1 : TrO Γ (⟨dt,op,some (x,wt),af⟩ :: ops) nv ⟨DM e x (.bool true),o,n⟩ d acc K t1) (h2 : TrO Γ (⟨dt,op,some (x,wt),af⟩ :: ops) nv ⟨DM e x (.bool false),o,n⟩ d acc K t2) :
  TrO Γ (⟨dt,op,some (x,wt),af⟩ :: ops) nv ⟨e,o,n⟩ d acc K (bif b then t1 else t2):=KU x hx h1 h2
end
section
variable {Γ : Ar} {X A B : Type} {K : KR X} {e : List (Nat × D)} {o : List (Nat × Ac)} {n nv : Nat} {d : Bool} {acc : List CA}
 {r : List Aw} {dst : Nat} {g : Option (Nat × Bool)} {af : List Nat} {α : Type}
 {ptr : List (Nat × (Nat × Nat))} {kind : Kind} {enc : A -> List D} {dec : List D -> A} {f : A -> Option B} {encR : B -> D} {encE : B -> List D} {m : Option B} {kt : B -> Option X}
 {fa : Arg} {args : List Arg} {caps : List D} {k : Nat} {c : Prop} {ds : List D} {w : List (Nat × Ac)} {ps : List (Nat × Nat × Own)} {rk : List Key} {s ty : Nat}
theorem Gy (hg : gOn e g = true) (hf : Aa e fa = some (.clo k caps)) (hΓ : Γ (k + 4096 * AN (Al e args)) = some (ON ptr .val enc dec f encR encE)) [hde : PZ enc dec] (hr : (Ae ptr 0 (Al e args ++ caps)).run ⟨e,o,n⟩ = (c,ds,w,ps))
  (hk : (Ae ptr 0 (Al e args ++ caps)).rd ⟨e,o,n⟩ = rk) (hc : c) (ha : ∃ a,f a = m /\ ds = enc a)
  (h : ∀ b,m = some b -> TrO Γ r (nv + 1) ⟨(dst,encR b) :: e,(Ah ps (encE b) ++ w) ++ o,n⟩ d (acc ++ [(gK g ++ (rdK fa ++ (Bf args ++ rk)),.e dst :: (Ah ps (encE b) ++ w).map (λx=>.o x.1),af)]) K (kt b)) (hkb : Nat.blt k 4096 = true:=by rfl) :
  TrO Γ (⟨some dst,.call fa args,g,af⟩ :: r) nv ⟨e,o,n⟩ d acc K (m.bind kt) :=
 PE λb hb=>ha.elim λa ha=>Fs a hg hf hΓ hde.ok hr hk hc ha.2 (ha.1.trans hb) (h b hb) hkb
theorem FH (hg : gOn e g = true) (hf : Aa e fa = some (.clo k caps)) (hΓ : Γ (k + 4096 * AN (Al e args)) = some (ON ptr .val enc dec f encR encE)) [hde : PZ enc dec] (hr : (Ae ptr 0 (Al e args ++ caps)).run ⟨e,o,n⟩ = (c,ds,w,ps))
  (hk : (Ae ptr 0 (Al e args ++ caps)).rd ⟨e,o,n⟩ = rk) (hc : c) (ha : ∃ a,f a = m /\ ds = enc a)
  (h : ∀ b,m = some b -> TrO Γ r (nv + 1) ⟨e,(Ah ps (encE b) ++ w) ++ o,n⟩ d (acc ++ [(gK g ++ (rdK fa ++ (Bf args ++ rk)),(Ah ps (encE b) ++ w).map (λx=>.o x.1),af)]) K (kt b)) (hkb : Nat.blt k 4096 = true:=by rfl) :
  TrO Γ (⟨none,.call fa args,g,af⟩ :: r) nv ⟨e,o,n⟩ d acc K (m.bind kt) :=
 PE λb hb=>ha.elim λa ha=>EM a hg hf hΓ hde.ok hr hk hc ha.2 (ha.1.trans hb) (h b hb) hkb
theorem EG (hg : gOn e g = true) (hf : Aa e fa = some (.clo k caps)) (hΓ : Γ (k + 4096 * AN (Al e args)) = some (ON [] .ground enc dec f encR encE)) [hde : PZ enc dec] (hr : (Ae [] 0 (Al e args ++ caps)).run ⟨e,o,n⟩ = (c,ds,w,ps))
  (hk : (Ae [] 0 (Al e args ++ caps)).rd ⟨e,o,n⟩ = rk) (hc : c) (ha : ∃ a,f a = m /\ ds = enc a) (hgr : ∀ b,isGround (encR b) = true)
  (h : ∀ b,m = some b -> TrO Γ r (nv + 1) ⟨(dst,encR b) :: e,o,n⟩ d (acc ++ [(gK g ++ (rdK fa ++ (Bf args ++ rk)),[.e dst],af)]) K (kt b)) (hkb : Nat.blt k 4096 = true:=by rfl) :
  TrO Γ (⟨some dst,.call fa args,g,af⟩ :: r) nv ⟨e,o,n⟩ d acc K (m.bind kt) :=
 PE λb hb=>ha.elim λa ha=>DU a hg hf hΓ hde.ok hr hk hc ha.2 (ha.1.trans hb) (hgr b) (h b hb) hkb
theorem Gx {lf : B -> List α} {en : α -> D} (hg : gOn e g = true) (hf : Aa e fa = some (.clo k caps)) (hΓ : Γ (k + 4096 * AN (Al e args)) = some (ON ptr (.row s ty) enc dec f encR encE)) [hde : PZ enc dec] (hr : (Ae ptr 0 (Al e args ++ caps)).run ⟨e,o,n⟩ = (c,ds,w,ps))
  (hk : (Ae ptr 0 (Al e args ++ caps)).rd ⟨e,o,n⟩ = rk) (hc : c) (ha : ∃ a,f a = m /\ ds = enc a) (hl : ∀ b,encR b = .sl ((lf b).map en))
  (h : ∀ b,m = some b -> TrO Γ r (nv + 1) ⟨(dst,.osl dst nv 0 (lf b).length) :: e,((dst,some (nv,⟨false,false,s,ty,(lf b).map en⟩)) :: (Ah ps (encE b) ++ w)) ++ o,n⟩ d (acc ++ [(gK g ++ (rdK fa ++ (Bf args ++ rk)),.e dst :: .o dst :: (Ah ps (encE b) ++ w).map (λx=>.o x.1),af)]) K (kt b)) (hkb : Nat.blt k 4096 = true:=by rfl) :
  TrO Γ (⟨some dst,.call fa args,g,af⟩ :: r) nv ⟨e,o,n⟩ d acc K (m.bind kt) :=
 PE λb hb=>ha.elim λa ha=>Fq a hg hf hΓ hde.ok hr hk hc ha.2 (ha.1.trans hb) (hl b) (h b hb) hkb
theorem Gw (hg : gOn e g = true) (hf : Aa e fa = some (.clo k caps)) (hΓ : Γ (k + 4096 * AN (Al e args)) = some (ON ptr (.ptr s ty) enc dec f encR encE)) [hde : PZ enc dec] (hr : (Ae ptr 0 (Al e args ++ caps)).run ⟨e,o,n⟩ = (c,ds,w,ps))
  (hk : (Ae ptr 0 (Al e args ++ caps)).rd ⟨e,o,n⟩ = rk) (hc : c) (ha : ∃ a,f a = m /\ ds = enc a)
  (h : ∀ b,m = some b -> TrO Γ r (nv + 1) ⟨(dst,.optr dst nv 0 0) :: e,((dst,some (nv,⟨false,true,s,ty,[encR b]⟩)) :: (Ah ps (encE b) ++ w)) ++ o,n⟩ d (acc ++ [(gK g ++ (rdK fa ++ (Bf args ++ rk)),.e dst :: .o dst :: (Ah ps (encE b) ++ w).map (λx=>.o x.1),af)]) K (kt b)) (hkb : Nat.blt k 4096 = true:=by rfl) :
  TrO Γ (⟨some dst,.call fa args,g,af⟩ :: r) nv ⟨e,o,n⟩ d acc K (m.bind kt) :=
 PE λb hb=>ha.elim λa ha=>Fp a hg hf hΓ hde.ok hr hk hc ha.2 (ha.1.trans hb) (h b hb) hkb
variable {b : B} {t : Option X}
theorem GB (hg : gOn e g = true) (hf : Aa e fa = some (.clo k caps)) (hΓ : Γ (k + 4096 * AN (Al e args)) = some (ON ptr .val enc dec f encR encE)) [hde : PZ enc dec] (hr : (Ae ptr 0 (Al e args ++ caps)).run ⟨e,o,n⟩ = (c,ds,w,ps))
  (hk : (Ae ptr 0 (Al e args ++ caps)).rd ⟨e,o,n⟩ = rk) (hm : m = some b) (hc : c) (ha : ∃ a,f a = m /\ ds = enc a)
  (h : TrO Γ r (nv + 1) ⟨(dst,encR b) :: e,(Ah ps (encE b) ++ w) ++ o,n⟩ d (acc ++ [(gK g ++ (rdK fa ++ (Bf args ++ rk)),.e dst :: (Ah ps (encE b) ++ w).map (λx=>.o x.1),af)]) K t) (hkb : Nat.blt k 4096 = true:=by rfl) :
  TrO Γ (⟨some dst,.call fa args,g,af⟩ :: r) nv ⟨e,o,n⟩ d acc K t :=
 ha.elim λa ha=>Fs a hg hf hΓ hde.ok hr hk hc ha.2 (ha.1.trans hm) h hkb
theorem FI (hg : gOn e g = true) (hf : Aa e fa = some (.clo k caps)) (hΓ : Γ (k + 4096 * AN (Al e args)) = some (ON ptr .val enc dec f encR encE)) [hde : PZ enc dec] (hr : (Ae ptr 0 (Al e args ++ caps)).run ⟨e,o,n⟩ = (c,ds,w,ps))
  (hk : (Ae ptr 0 (Al e args ++ caps)).rd ⟨e,o,n⟩ = rk) (hm : m = some b) (hc : c) (ha : ∃ a,f a = m /\ ds = enc a)
  (h : TrO Γ r (nv + 1) ⟨e,(Ah ps (encE b) ++ w) ++ o,n⟩ d (acc ++ [(gK g ++ (rdK fa ++ (Bf args ++ rk)),(Ah ps (encE b) ++ w).map (λx=>.o x.1),af)]) K t) (hkb : Nat.blt k 4096 = true:=by rfl) :
  TrO Γ (⟨none,.call fa args,g,af⟩ :: r) nv ⟨e,o,n⟩ d acc K t :=
 ha.elim λa ha=>EM a hg hf hΓ hde.ok hr hk hc ha.2 (ha.1.trans hm) h hkb
theorem EH (hg : gOn e g = true) (hf : Aa e fa = some (.clo k caps)) (hΓ : Γ (k + 4096 * AN (Al e args)) = some (ON [] .ground enc dec f encR encE)) [hde : PZ enc dec] (hr : (Ae [] 0 (Al e args ++ caps)).run ⟨e,o,n⟩ = (c,ds,w,ps))
  (hk : (Ae [] 0 (Al e args ++ caps)).rd ⟨e,o,n⟩ = rk) (hm : m = some b) (hc : c) (ha : ∃ a,f a = m /\ ds = enc a) (hgr : isGround (encR b) = true)
  (h : TrO Γ r (nv + 1) ⟨(dst,encR b) :: e,o,n⟩ d (acc ++ [(gK g ++ (rdK fa ++ (Bf args ++ rk)),[.e dst],af)]) K t) (hkb : Nat.blt k 4096 = true:=by rfl) :
  TrO Γ (⟨some dst,.call fa args,g,af⟩ :: r) nv ⟨e,o,n⟩ d acc K t :=
 ha.elim λa ha=>DU a hg hf hΓ hde.ok hr hk hc ha.2 (ha.1.trans hm) hgr h hkb
theorem GA {l : List α} {en : α -> D} (hg : gOn e g = true) (hf : Aa e fa = some (.clo k caps)) (hΓ : Γ (k + 4096 * AN (Al e args)) = some (ON ptr (.row s ty) enc dec f encR encE)) [hde : PZ enc dec] (hr : (Ae ptr 0 (Al e args ++ caps)).run ⟨e,o,n⟩ = (c,ds,w,ps))
  (hk : (Ae ptr 0 (Al e args ++ caps)).rd ⟨e,o,n⟩ = rk) (hm : m = some b) (hc : c) (ha : ∃ a,f a = m /\ ds = enc a) (hl : encR b = .sl (l.map en))
  (h : TrO Γ r (nv + 1) ⟨(dst,.osl dst nv 0 l.length) :: e,((dst,some (nv,⟨false,false,s,ty,l.map en⟩)) :: (Ah ps (encE b) ++ w)) ++ o,n⟩ d (acc ++ [(gK g ++ (rdK fa ++ (Bf args ++ rk)),.e dst :: .o dst :: (Ah ps (encE b) ++ w).map (λx=>.o x.1),af)]) K t) (hkb : Nat.blt k 4096 = true:=by rfl) :
  TrO Γ (⟨some dst,.call fa args,g,af⟩ :: r) nv ⟨e,o,n⟩ d acc K t :=
 ha.elim λa ha=>Fq a hg hf hΓ hde.ok hr hk hc ha.2 (ha.1.trans hm) hl h hkb
theorem Gz (hg : gOn e g = true) (hf : Aa e fa = some (.clo k caps)) (hΓ : Γ (k + 4096 * AN (Al e args)) = some (ON ptr (.ptr s ty) enc dec f encR encE)) [hde : PZ enc dec] (hr : (Ae ptr 0 (Al e args ++ caps)).run ⟨e,o,n⟩ = (c,ds,w,ps))
  (hk : (Ae ptr 0 (Al e args ++ caps)).rd ⟨e,o,n⟩ = rk) (hm : m = some b) (hc : c) (ha : ∃ a,f a = m /\ ds = enc a)
  (h : TrO Γ r (nv + 1) ⟨(dst,.optr dst nv 0 0) :: e,((dst,some (nv,⟨false,true,s,ty,[encR b]⟩)) :: (Ah ps (encE b) ++ w)) ++ o,n⟩ d (acc ++ [(gK g ++ (rdK fa ++ (Bf args ++ rk)),.e dst :: .o dst :: (Ah ps (encE b) ++ w).map (λx=>.o x.1),af)]) K t) (hkb : Nat.blt k 4096 = true:=by rfl) :
  TrO Γ (⟨some dst,.call fa args,g,af⟩ :: r) nv ⟨e,o,n⟩ d acc K t :=
 ha.elim λa ha=>Fp a hg hf hΓ hde.ok hr hk hc ha.2 (ha.1.trans hm) h hkb
end
def Hl (o : List (Nat × Ac)) : List Nat -> List (Nat × Ac)
 | []=>[]
 | g :: r=>(g,(lkO o g).map λx=>(x.1,{ x.2 with fz:=true })) :: Hl o r
theorem Kn {o : List (Nat × Ac)} : ∀ {gs : List Nat},(gs.all λg=>match lkO o g with | some (_,p)=>!p.var | none=>false) = true -> FzB o (Hl o gs)
 | [],_=>trivial
 | g :: r,h=>by
  simp only [List.all_cons,Bool.and_eq_true] at h
  refine ⟨?_,Kn h.2⟩
  cases hg : lkO o g with
  | none=>rw [hg] at h; cases h.1
  | some x =>
   rw [hg] at h
   exact ⟨x.1,x.2,rfl,by simpa using h.1,rfl⟩
theorem MV {e E : List (Nat × D)} {o O : List (Nat × Ac)} {n : Nat} (gs : List Nat) (hw : (gs.all λg=>match lkO o g with | some (_,p)=>!p.var | none=>false) = true) (hE : HL e o n (Hl o gs) E) (hO : HM e o n (Hl o gs) O) : Has ⟨e,o,n⟩ E O:=Vd _ (Kn hw) hE hO
section
variable {Γ : Ar} {R ι γ : Type} {K : R -> Au -> S -> Prop} {τ : S} {t : Option R} {E : ι -> γ -> List (Nat × D)} {O : ι -> γ -> List (Nat × Ac)} {j : ι -> Option R}
theorem NJ (h : ∃ s g,j s = t /\ Has τ (E s g) (O s g)) : TrX .normal (Ih E O j K) τ t:=by
 obtain ⟨s,g,rfl,h⟩:=h; exact WE g h
theorem HG {id : Nat} (h : ∃ s g,j s = t /\ Has τ (E s g) (O s g)) : TrX .normal (Dm id E O j K) τ t:=by
 obtain ⟨s,g,rfl,h⟩:=h; exact Hb g h
theorem IC {id : Nat} (h : ∃ s g,j s = t /\ Has τ (E s g) (O s g)) : TrX (.exit id) (Dm id E O j K) τ t:=by
 obtain ⟨s,g,rfl,h⟩:=h; exact HK g h
theorem MW {s : ι} (h : ∃ g,Has τ (E s g) (O s g)) : TrX .normal (GK E O K) τ (cnt s):=by
 obtain ⟨g,h⟩:=h; exact Wo g h
theorem exU {p : Unit -> Prop} (h : p ()) : ∃ s,p s:=⟨_,h⟩
theorem exP {α β : Type} {p : α × β -> Prop} (h : ∃ a b,p (a,b)) : ∃ s,p s:=h.elim λa h=>h.elim λb h=>⟨(a,b),h⟩
end
section
variable {A B : Type} {ptr : List (Nat × (Nat × Nat))} {kind : Kind} {enc : A -> List D} {dec : List D -> A} {f : A -> Option B} {encR : B -> D} {encE : B -> List D}
theorem fn2 {P : Program} {Γ : Ar} {k : Nat} {fn : Func} {dc : Pf} {rs : List AS} [hde : PZ enc dec] (np : Nat) (hΓ : ∀ k sp,Γ k = some sp -> OM P (k % 4096) sp) (hf : P.funcs[k]? = some fn)
  (hT : ∀ a,Tr Γ dc (Bv ptr kind rs encR encE) ⟨Dk ptr 0 (enc a),Cv ptr 0 (enc a),262144⟩ (f a))
  (hc : (fn.body.bind (PD P fn.ntmps)) = some dc:=by conv=>lhs; cbv) (hr : fn.results.toList.mapM (RJ P) = some rs:=by conv=>lhs; cbv)
  (hname : (fn.name == "runtime.NumGoroutine") = false:=by decide) (hnp : np <= fn.ntmps:=by decide) (hlen : ∀ a,(enc a).length = np:=by exact λ_=>rfl) (hkeys : ∀ a,BE ptr 0 (enc a) = ptr.map Prod.fst:=by exact λ_=>rfl) (hptr : EA ptr = true:=by decide)
  (hni : BH kind = none:=by rfl) (hno : Dp kind = none:=by rfl) : OM P k (ON ptr kind enc dec f encR encE) :=
 NK hΓ hf hname hc hr hnp hde.ok hlen hkeys hptr (λa=>Nz (hT a)) hni hno
end
structure Ct (n : Nat) : Prop
theorem Ct.dec {n : Nat} (_ : Ct (n + 1)) : Ct n:=⟨⟩
end Go.Dw
