/-
  THE LAYER Dw, PART 12: every operation does what 'evalOp' says.
-/
import Derived.Test.YtihomlbcppfngaaDw11
namespace Go.Dw

section
variable {N : Nat} {w0 : World} {F0 : Fz} {M : List Nat} {B0 : Bt} {σ : S} {F : Fz} {β : Bt} {a : Act} {w : World} {P : Program}

theorem ground_noptr {ptr : List (Nat × (Nat × Nat))} (hp : ptr = []) : ∀ (ds : List D) (j : Nat) (σ : S), ((callArgs ptr j ds).run σ).2.2.2 = []
  | [], _, _ => rfl
  | d :: ds, j, σ => by
    subst hp
    unfold callArgs
    simp only [look, R.run_bind, R.run_pure]
    exact ground_noptr rfl ds (j + 1) σ

/-- a call -/
theorem call_ok {f : Nat} {sp : Spec} (hsp : SpecOk P f sp) (h : Sim N w0 F0 M B0 σ F β a w) {nv : Nat} (hnv : β nv = none) {dst : Option Nat} (hd : ∀ t, dst = some t → t < N) {ds : List D} {xs : List Value} (hl : ds.length = xs.length)
    (hv : ∀ (q : Nat) d x, ds[q]? = some d → xs[q]? = some x → Val F β d x) {u : Out}
    (hu : u = callOut dst nv sp ((callArgs sp.ptr 0 ds).run σ).1 ((callArgs sp.ptr 0 ds).run σ).2.1 ((callArgs sp.ptr 0 ds).run σ).2.2.1 ((callArgs sp.ptr 0 ds).run σ).2.2.2) (hc : u.c) :
    Calls P f xs.toArray w (fun e w' => ∃ v F' β', e = .returned v ∧ Bsub β β' ∧ (∀ x, x ≠ nv → β' x = β x) ∧ Sim N w0 F0 M B0 (σ.app u) F' β' (a.put dst v) w') := by
  have hcargs : ((callArgs sp.ptr 0 ds).run σ).1 := by
    subst hu
    unfold callOut at hc
    split at hc
    · exact hc.1
    · exact hc.1
    · split at hc
      · exact hc.1
      · exact hc.elim
    · exact hc.1
    · split at hc
      · exact hc.1
      · exact hc.elim
  have hpre : sp.pre ((callArgs sp.ptr 0 ds).run σ).2.1 := by
    subst hu
    unfold callOut at hc
    split at hc
    · exact hc.2
    · exact hc.2.1
    · split at hc
      · exact hc.2.1
      · exact hc.elim
    · exact hc.2.1
    · split at hc
      · exact hc.2.1
      · exact hc.elim
  obtain ⟨f1, Mb, hps, hargs⟩ := callArgs_ok h ds xs 0 hl hv hcargs
  have hgr := fun hp => ground_noptr (ptr := sp.ptr) hp ds 0 σ
  generalize ((callArgs sp.ptr 0 ds).run σ).2.1 = ds' at *
  generalize ((callArgs sp.ptr 0 ds).run σ).2.2.1 = ws at *
  generalize ((callArgs sp.ptr 0 ds).run σ).2.2.2 = ps at *
  obtain ⟨F1, hF1, hS1⟩ := h.freeze f1
  have hA := hargs ws F1 f1 (fun _ hp => hp) hF1 hS1
  refine (hsp.2 w F1 ds' xs Mb hS1.frz hS1.fin hA hpre).mono ?_
  rintro e w' ⟨v, F', rfl, hok, hfin, hst, hres, hback⟩
  -- the objects that are handed over are not frozen
  have hps1 : PsOk (S.mk σ.e (ws ++ σ.o) σ.n) β ps Mb := by
    obtain ⟨p1, p2, p3⟩ := hps
    refine ⟨p1, fun k g v o hk => ?_, p3⟩
    obtain ⟨q1, q2, q3, q4⟩ := p2 k g v o hk
    refine ⟨?_, q2, q3, q4⟩
    rcases f1.go g with ⟨v2, o2, k1, k2, _, _⟩ | ⟨_, k2⟩
    · rw [q1] at k1; cases k1; rw [q3] at k2; cases k2
    · rw [k2]; exact q1
  subst hu
  unfold callOut at hc ⊢
  cases hk : sp.kind with
  | val =>
    rw [hk] at hres
    simp only [hk] at hc ⊢
    obtain ⟨b1, b2, b3⟩ := call_change hS1 hnv hps1 hok hfin hst hback (E := []) (.inl ⟨rfl, rfl⟩) hd (Env.of_fro hres) (((callArgs sp.ptr 0 ds).run σ).1 ∧ sp.pre ds')
    refine ⟨v, F', _, rfl, b1, b2, ?_⟩
    have e : (σ.app ⟨((callArgs sp.ptr 0 ds).run σ).1 ∧ sp.pre ds', put1 dst (sp.res ds'), handBack ps (sp.eff ds') ++ ws⟩) = (S.mk σ.e (ws ++ σ.o) σ.n).app ⟨((callArgs sp.ptr 0 ds).run σ).1 ∧ sp.pre ds', put1 dst (sp.res ds'), [] ++ handBack ps (sp.eff ds')⟩ := by
      simp [S.app]
    rw [e]; exact b3
  | ground =>
    rw [hk] at hres
    simp only [hk] at hc ⊢
    obtain ⟨_, _, hg, hptr⟩ := hc
    have hMb : Mb = [] := args_noptr hptr hA
    subst hMb
    refine ⟨v, F, β, rfl, Bsub.refl _, fun _ _ => rfl, ?_⟩
    refine h.change (row := fun _ => False) hst.os hst.tape hst.output hst.size (fun b hb _ => hst.block b hb (by simp)) (fun _ hr => hr.elim) (Fsub.refl _) (fun _ _ _ => rfl)
      (fun b i x hx => hok b i x (hst.sub _ _ _ (hF1 b i x hx))) (fun b i x hx => Nat.lt_of_lt_of_le (h.fin b i x hx) hst.size) (Bsub.refl _) (by rw [act_size]; exact h.size) (by rw [act_defers]; exact h.defers)
      (h.env_put (Fsub.refl _) (Bsub.refl _) hd (Env.of_fro (fro_ground hg hres))) (fun g v' o' hg' => .inl ⟨hg', fun _ _ _ _ _ => id⟩) ?_
    intro g1 g2 v1 v2 o1 o2 L1 L2 b hg1 hg2 hf1 hf2 hL1 hL2 hb1 hb2 _
    exact h.dist g1 g2 v1 v2 o1 o2 L1 L2 b hg1 hg2 hf1 hf2 hL1 hL2 hb1 hb2
  | row s ty =>
    rw [hk] at hres
    obtain ⟨es, L, hes, rfl, hown, hL⟩ := hres
    simp only [hk, hes] at hc ⊢
    obtain ⟨_, _, hds⟩ := hc
    obtain ⟨t, rfl⟩ := Option.isSome_iff_exists.1 hds
    obtain ⟨b1, b2, b3⟩ := call_change hS1 hnv hps1 hok hfin hst hback (E := putO (some t) (some (nv, ⟨false, false, s, ty, es⟩))) (.inr ⟨t, _, L, rfl, rfl, rfl, hown, hL⟩) hd (d := .osl t nv 0 es.length) (v := .slice (L.b.map fun b => ⟨b, 0, none⟩) es.length L.cap)
      (by
        refine ⟨L, _, upB_self _ _ _, rfl, by simpa using hown.2.2.1, fun _ => rfl, fun hp => ?_⟩
        cases hLb : L.b with
        | none =>
          obtain ⟨_, _, k3, _, _, k6⟩ := hown
          rw [hLb] at k6
          simp only at k3
          omega
        | some b => exact ⟨b, rfl, by simp⟩) (((callArgs sp.ptr 0 ds).run σ).1 ∧ sp.pre ds' ∧ (some t).isSome = true)
    refine ⟨_, F', _, rfl, b1, b2, ?_⟩
    have e : ∀ (c : Prop) (we : List (Nat × D)) (x : List (Nat × Obj?)), (σ.app ⟨c, we, x ++ handBack ps (sp.eff ds') ++ ws⟩) = (S.mk σ.e (ws ++ σ.o) σ.n).app ⟨c, we, x ++ handBack ps (sp.eff ds')⟩ := by
      intro c we x; simp [S.app]
    rw [e]; exact b3
  | ptr s ty =>
    rw [hk] at hres
    obtain ⟨b, rfl, hown, hb1, hb2, hb3⟩ := hres
    simp only [hk] at hc ⊢
    obtain ⟨_, _, hds⟩ := hc
    obtain ⟨t, rfl⟩ := Option.isSome_iff_exists.1 hds
    obtain ⟨b1, b2, b3⟩ := call_change hS1 hnv hps1 hok hfin hst hback (E := putO (some t) (some (nv, ⟨false, true, s, ty, [sp.res ds']⟩))) (.inr ⟨t, _, ⟨some b, 1, s⟩, rfl, rfl, rfl, hown, fun b' hb' => by cases hb'; exact ⟨hb1, hb2, hb3⟩⟩) hd (d := .optr t nv 0 0) (v := .pointer (some ⟨b, 0, none⟩))
      ⟨_, b, upB_self _ _ _, rfl, by simp⟩ (((callArgs sp.ptr 0 ds).run σ).1 ∧ sp.pre ds' ∧ (some t).isSome = true)
    refine ⟨_, F', _, rfl, b1, b2, ?_⟩
    have e : ∀ (c : Prop) (we : List (Nat × D)) (x : List (Nat × Obj?)), (σ.app ⟨c, we, x ++ handBack ps (sp.eff ds') ++ ws⟩) = (S.mk σ.e (ws ++ σ.o) σ.n).app ⟨c, we, x ++ handBack ps (sp.eff ds')⟩ := by
      intro c we x; simp [S.app]
    rw [e]; exact b3
  | tupPtr q s ty =>
    rw [hk] at hres
    obtain ⟨rs, vs, b, hrs, rfl, hlen, hfro, hq, hown, hb1, hb2, hb3⟩ := hres
    simp only [hk, hrs] at hc ⊢
    obtain ⟨_, _, hds⟩ := hc
    obtain ⟨t, rfl⟩ := Option.isSome_iff_exists.1 hds
    obtain ⟨b1, b2, b3⟩ := call_change hS1 hnv hps1 hok hfin hst hback (E := putO (some t) (some (nv, ⟨false, true, s, ty, [rs.getD q .top]⟩))) (.inr ⟨t, _, ⟨some b, 1, s⟩, rfl, rfl, rfl, hown, fun b' hb' => by cases hb'; exact ⟨hb1, hb2, hb3⟩⟩) hd (d := .tup (rs.set q (.optr t nv 0 0))) (v := .tuple vs.toArray)
      (by
        refine ⟨vs, rfl, by simp [hlen], fun j c x hj hx => ?_⟩
        by_cases hjq : j = q
        · subst hjq
          have hlt : j < rs.length := by rw [hlen]; exact (List.getElem?_eq_some_iff.1 hx).1
          rw [List.getElem?_set_self hlt] at hj
          cases hj
          rw [hq] at hx; cases hx
          exact ⟨_, b, upB_self _ _ _, rfl, by simp⟩
        · rw [List.getElem?_set_ne (fun e => hjq e.symm)] at hj
          exact Cel.of_fro (hfro j c x hjq hj hx)) (((callArgs sp.ptr 0 ds).run σ).1 ∧ sp.pre ds' ∧ (some t).isSome = true)
    refine ⟨_, F', _, rfl, b1, b2, ?_⟩
    have e : ∀ (c : Prop) (we : List (Nat × D)) (x : List (Nat × Obj?)), (σ.app ⟨c, we, x ++ handBack ps (sp.eff ds') ++ ws⟩) = (S.mk σ.e (ws ++ σ.o) σ.n).app ⟨c, we, x ++ handBack ps (sp.eff ds')⟩ := by
      intro c we x; simp [S.app]
    rw [e]; exact b3

end
end Go.Dw
