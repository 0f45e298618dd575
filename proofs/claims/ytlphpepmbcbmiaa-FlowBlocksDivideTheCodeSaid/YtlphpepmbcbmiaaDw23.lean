/-
  THE LAYER Dw, PART 23: functions: the theorem.
-/
import Derived.Test.YtlphpepmbcbmiaaDw22
namespace Go.Dw

section
variable {N : Nat} {P : Program}

/-- the start of a call -/
theorem init_ok {F : Fz} {w : World} {ptr : List (Nat × (Nat × Nat))} {j : Nat} {ds : List D} {xs : List Value} {Mb : List (Nat × Nat × Nat)} (h : ArgsOk F w ptr j ds xs Mb) :
    ∃ PB : Bt, (∀ v L, PB v = some L → j ≤ v ∧ v < j + ds.length) ∧
      (∀ t d, look (initE ptr j ds) t = some d → ∃ x, j ≤ t ∧ xs[t - j]? = some x ∧ Env F PB d x) ∧
      (∀ g y, look (initO ptr j ds) g = some y → ∃ b s ty d, y = some (g, ⟨false, true, s, ty, [d]⟩) ∧ PB g = some ⟨some b, 1, s⟩ ∧ varAt F w b s ty d ∧ (∀ i, F b i = none) ∧ b < w.heap.size ∧ b ∈ Mb.map Prod.fst) ∧
      (∀ v v' L L' b, PB v = some L → PB v' = some L' → L.b = some b → L'.b = some b → v = v') ∧
      (∀ v L b, PB v = some L → L.b = some b → b ∈ Mb.map Prod.fst) := by
  induction h with
  | nil j => exact ⟨noB, fun v L h => (by cases h), fun t d h => by simp [initE, look] at h, fun g y h => by simp [initO, look] at h, fun v v' L L' b h => (by cases h), fun v L b h => by cases h⟩
  | val j d ds x xs M hp hx _ ih =>
    obtain ⟨PB, h1, h2, h3, h4, h5⟩ := ih
    refine ⟨PB, fun v L h => ?_, fun t d' h => ?_, fun g y h => ?_, h4, h5⟩
    · have := h1 v L h; simp; omega
    · simp only [initE, hp, look] at h
      split at h
      · rename_i e
        cases h
        subst e
        exact ⟨x, Nat.le_refl _, by simp, Env.of_fro hx⟩
      · obtain ⟨x', q1, q2, q3⟩ := h2 t d' h
        refine ⟨x', by omega, ?_, q3⟩
        rw [show t - j = (t - (j + 1)) + 1 by omega, List.getElem?_cons_succ]
        exact q2
    · simp only [initO, hp, List.nil_append] at h
      exact h3 g y h
  | ptr j d ds xs M b s ty hp hv hF hb hM _ ih =>
    obtain ⟨PB, h1, h2, h3, h4, h5⟩ := ih
    have hj : PB j = none := by
      cases hh : PB j with
      | none => rfl
      | some L => have := h1 j L hh; omega
    have hsub := upB_sub (β := PB) (nv := j) ⟨some b, 1, s⟩ hj
    refine ⟨upB PB j ⟨some b, 1, s⟩, fun v L h => ?_, fun t d' h => ?_, fun g y h => ?_, ?_, ?_⟩
    · by_cases e : v = j
      · subst e; simp
      · rw [upB_ne _ _ e] at h
        have := h1 v L h; simp; omega
    · simp only [initE, hp, look] at h
      split at h
      · rename_i e
        cases h
        subst e
        exact ⟨_, Nat.le_refl _, by simp; rfl, ⟨_, b, upB_self _ _ _, rfl, by simp⟩⟩
      · obtain ⟨x', q1, q2, q3⟩ := h2 t d' h
        refine ⟨x', by omega, ?_, q3.mono (Fsub.refl _) hsub⟩
        rw [show t - j = (t - (j + 1)) + 1 by omega, List.getElem?_cons_succ]
        exact q2
    · simp only [initO, hp, List.singleton_append, look] at h
      split at h
      · rename_i e
        cases h
        subst e
        exact ⟨b, s, ty, d, rfl, upB_self _ _ _, hv, hF, hb, by simp⟩
      · obtain ⟨b', s', ty', d', q1, q2, q3, q4, q5, q6⟩ := h3 g y h
        exact ⟨b', s', ty', d', q1, hsub _ _ q2, q3, q4, q5, by simp only [List.map_cons, List.mem_cons]; exact .inr q6⟩
    · intro v v' L L' b' hv hv' hL hL'
      have key : ∀ v L, upB PB j ⟨some b, 1, s⟩ v = some L → L.b = some b' → (v = j ∧ b' = b) ∨ (v ≠ j ∧ PB v = some L ∧ b' ≠ b) := by
        intro v1 L1 hv1 hL1
        by_cases e : v1 = j
        · subst e
          rw [upB_self] at hv1; cases hv1; cases hL1
          exact .inl ⟨rfl, rfl⟩
        · rw [upB_ne _ _ e] at hv1
          refine .inr ⟨e, hv1, fun eb => ?_⟩
          obtain ⟨m, hm1, hm2⟩ := List.mem_map.1 (h5 v1 L1 b' hv1 hL1)
          exact hM m hm1 (hm2.trans eb)
      rcases key v L hv hL with ⟨rfl, hb1⟩ | ⟨e1, k1, hb1⟩
      · rcases key v' L' hv' hL' with ⟨rfl, _⟩ | ⟨_, _, hb2⟩
        · rfl
        · exact absurd hb1 hb2
      · rcases key v' L' hv' hL' with ⟨_, hb2⟩ | ⟨_, k2, _⟩
        · exact absurd hb2 hb1
        · exact h4 v v' L L' b' k1 k2 hL hL'
    · intro v L b' hv hL
      by_cases e : v = j
      · subst e
        rw [upB_self] at hv; cases hv; cases hL
        simp
      · rw [upB_ne _ _ e] at hv
        simp only [List.map_cons, List.mem_cons]
        exact .inr (h5 v L b' hv hL)

/-- what the start's names are -/
theorem init_names {F : Fz} {w : World} {ptr : List (Nat × (Nat × Nat))} {j : Nat} {ds : List D} {xs : List Value} {Mb : List (Nat × Nat × Nat)} (h : ArgsOk F w ptr j ds xs Mb) (PB : Bt) (hPB : ∀ g y, look (initO ptr j ds) g = some y → ∃ b s ty d, y = some (g, (⟨false, true, s, ty, [d]⟩ : Own)) ∧ PB g = some ⟨some b, 1, s⟩ ∧ True) : True := trivial

theorem sim_init {sp : Spec} {F : Fz} {w : World} {ds : List D} {xs : List Value} {Mb : List (Nat × Nat × Nat)} (hF : Fok F w) (hfin : ∀ b i x, F b i = some x → b < w.heap.size) (h : ArgsOk F w sp.ptr 0 ds xs Mb) {k : Nat} (hN : xs.length + k = N) :
    ∃ PB : Bt, Sim N w F (Mb.map Prod.fst) PB (initS sp ds) F PB { tmps := xs.toArray ++ Array.replicate k undef, defers := [] } w ∧ (∀ v, ds.length ≤ v → PB v = none) ∧
      (∀ g y, look (initO sp.ptr 0 ds) g = some y → ∃ b s ty d, y = some (g, ⟨false, true, s, ty, [d]⟩) ∧ PB g = some ⟨some b, 1, s⟩ ∧ varAt F w b s ty d ∧ (∀ i, F b i = none) ∧ b < w.heap.size ∧ b ∈ Mb.map Prod.fst) := by
  obtain ⟨PB, h1, h2, h3, h4, h5⟩ := init_ok h
  refine ⟨PB, ?_, ?_, h3⟩
  · refine { nam := Bsub.refl _, size := by simp [hN], defers := rfl, env := fun t => ?_, own := ?_, dist := ?_, sep := ?_, frz := hF, fin := hfin, step := Stp.refl _ _ _ }
    · simp only [S.ge, initS]
      cases hl : look (initE sp.ptr 0 ds) t with
      | none => exact Env.top _
      | some d =>
        obtain ⟨x, _, q2, q3⟩ := h2 t d hl
        simp only [Nat.sub_zero] at q2
        have hlt : t < xs.length := (List.getElem?_eq_some_iff.1 q2).1
        have : (xs.toArray ++ Array.replicate k undef).getD t undef = x := by
          rw [Array.getD_eq_getD_getElem?, Array.getElem?_append_left (by simpa using hlt)]
          simp [q2]
        simp only [Option.getD_some, this]
        exact q3
    · intro g v o hg
      simp only [S.go, initS] at hg
      cases hl : look (initO sp.ptr 0 ds) g with
      | none => rw [hl] at hg; cases hg
      | some y =>
        rw [hl] at hg
        obtain ⟨b, s, ty, d, rfl, q2, q3, _⟩ := h3 g y hl
        simp only [Option.getD_some, Option.some.injEq, Prod.mk.injEq] at hg
        obtain ⟨rfl, rfl⟩ := hg
        exact ⟨_, q2, fun e => (by cases e), fun _ => q3.keep (Fsub.refl _) (noB_sub _) (fun _ _ => rfl)⟩
    · intro g g' v v' o o' L L' b hg hg' _ _ hL hL' hb hb'
      have key : ∀ g v o, (initS sp ds).go g = some (v, o) → v = g := by
        intro g v o hg
        simp only [S.go, initS] at hg
        cases hl : look (initO sp.ptr 0 ds) g with
        | none => rw [hl] at hg; cases hg
        | some y =>
          rw [hl] at hg
          obtain ⟨b, s, ty, d, rfl, _⟩ := h3 g y hl
          simp only [Option.getD_some, Option.some.injEq, Prod.mk.injEq] at hg
          exact hg.1.symm
      have := h4 v v' L L' b hL hL' hb hb'
      rw [← key g v o hg, ← key g' v' o' hg', this]
    · intro g v o L b hg _ hL hb
      simp only [S.go, initS] at hg
      cases hl : look (initO sp.ptr 0 ds) g with
      | none => rw [hl] at hg; cases hg
      | some y =>
        rw [hl] at hg
        obtain ⟨b', s, ty, d, rfl, q2, q3, q4, q5, q6⟩ := h3 g y hl
        simp only [Option.getD_some, Option.some.injEq, Prod.mk.injEq] at hg
        obtain ⟨rfl, rfl⟩ := hg
        rw [hL] at q2; cases q2; cases hb
        exact ⟨q4, q5, .inr ⟨q6, rfl⟩⟩
  · intro v hv
    cases hh : PB v with
    | none => rfl
    | some L => have := h1 v L hh; omega

section
variable {w0 : World} {F0 : Fz} {M : List Nat} {B0 : Bt} {σ : S} {F : Fz} {β : Bt} {a : Act} {w : World}

/-- what the variables that were handed over hold in the end -/
theorem effR_ok {ptr : List (Nat × (Nat × Nat))} (h : Sim N w0 F0 M B0 σ F β a w) {Fi : Fz} {wi : World} {j : Nat} {ds : List D} {xs : List Value} {Mb : List (Nat × Nat × Nat)} (hA : ArgsOk Fi wi ptr j ds xs Mb)
    (hB : ∀ k b s ty, look ptr k = some (s, ty) → j ≤ k → xs[k - j]? = some (.pointer (some ⟨b, 0, none⟩)) → B0 k = some ⟨some b, 1, s⟩) (hc : ((effR ptr j ds.length).run σ).1) :
    FzList σ ((effR ptr j ds.length).run σ).2.2 ∧ ∀ (ws : List (Nat × Obj?)) F', FzList σ ws → (∀ p ∈ ((effR ptr j ds.length).run σ).2.2, p ∈ ws) → Fsub F F' → Sim N w0 F0 M B0 ⟨σ.e, ws ++ σ.o, σ.n⟩ F' β a w → BackOk F' w Mb ((effR ptr j ds.length).run σ).2.1 := by
  induction hA with
  | nil j => exact ⟨FzList.nil σ, fun _ _ _ _ _ _ k b s ty hk => by simp at hk⟩
  | val j d ds x xs M hp hx _ ih =>
    simp only [List.length_cons, effR, hp] at hc ⊢
    exact ih (fun k b s ty hk hj hx' => hB k b s ty hk (by omega) (by rw [show k - j = (k - (j + 1)) + 1 by omega, List.getElem?_cons_succ]; exact hx')) hc
  | ptr j d ds xs M b s ty hp hv hF hb hM _ ih =>
    simp only [List.length_cons, effR, hp, R.run_bind, R.run_pure] at hc ⊢
    obtain ⟨c1, c2⟩ := hc
    have hβj : β j = some ⟨some b, 1, s⟩ := h.nam _ _ (hB j b s ty hp (Nat.le_refl _) (by simp))
    obtain ⟨f1, g, v, o, b', _, _, _, _, k5, k6, r1⟩ := retP_ok h (s := s) (ty := ty) (d := .optr j j 0 0) (x := .pointer (some ⟨b, 0, none⟩)) ⟨_, b, hβj, rfl, by simp⟩ c1
    obtain ⟨f2, r2⟩ := ih (fun k b s ty hk hj hx' => hB k b s ty hk (by omega) (by rw [show k - j = (k - (j + 1)) + 1 by omega, List.getElem?_cons_succ]; exact hx')) c2
    refine ⟨f1.append f2, fun ws F' q1 q2 q3 q4 k b2 s2 ty2 hk => ?_⟩
    rcases k with _ | k
    · simp only [List.getElem?_cons_zero, Option.some.injEq, Prod.mk.injEq] at hk
      obtain ⟨rfl, rfl, rfl⟩ := hk
      obtain ⟨z1, z2, _⟩ := r1 ws F' q1 (fun p hp => q2 p (by simp [hp])) q3 q4
      have : b' = b := by cases k6; rfl
      subst this
      exact ⟨by simpa using z1, z2⟩
    · simp only [List.getElem?_cons_succ] at hk
      have := r2 ws F' q1 (fun p hp => q2 p (by simp [hp])) q3 q4 k b2 s2 ty2 hk
      simpa using this

end

theorem init_B {sp : Spec} {F : Fz} {w : World} {PB : Bt} {ptr : List (Nat × (Nat × Nat))} {j : Nat} {ds : List D} {xs : List Value} {Mb : List (Nat × Nat × Nat)} (hA : ArgsOk F w ptr j ds xs Mb)
    (h2 : ∀ t d, look (initE ptr j ds) t = some d → ∃ x, j ≤ t ∧ xs[t - j]? = some x ∧ Env F PB d x) : True := trivial

theorem noM {F : Fz} {w : World} {ptr : List (Nat × (Nat × Nat))} {j : Nat} {ds : List D} {xs : List Value} {Mb : List (Nat × Nat × Nat)} (hp : ptr = []) (hA : ArgsOk F w ptr j ds xs Mb) : Mb.map Prod.fst = [] := by
  induction hA with
  | nil => rfl
  | val _ _ _ _ _ _ _ _ _ ih => exact ih
  | ptr _ _ _ _ _ _ _ _ h => rw [hp] at h; cases h

theorem take_get {α : Type} {l : List α} {q i : Nat} {x : α} (h : (l.take q)[i]? = some x) : l[i]? = some x := by
  rw [List.getElem?_take] at h
  split at h
  · exact h
  · cases h

/-- FROM A BODY TO A SPEC. -/
theorem fun_ok {Γ : Specs} (hΓ : ∀ k sp, Γ k = some sp → SpecOk P k sp) {f : Nat} {fn : Func} {c : Code} {sp : Spec} {dc : DCode} {rs : List DRes} (hf : P.funcs[f]? = some fn) (hname : (fn.name == "runtime.NumGoroutine") = false) (hb : fn.body = some c)
    (hc : cCode P fn.ntmps c = some dc) (hr : fn.results.toList.mapM (cRes P) = some rs) {np : Nat} (hnp : np ≤ fn.ntmps) (hpre : ∀ ds, sp.pre ds → ds.length = np) (hok : FunOk Γ sp np rs dc) (hni : inplOf sp.kind = none) : SpecOk P f sp := by
  refine ⟨⟨fn, hf, hname, by rw [hb]; rfl⟩, (fun q hq => by rw [hni] at hq; cases hq), fun _ w F ds xs Mb hF hfin hA hp => ?_⟩
  have hlen : ds.length = xs.length := by
    clear hp
    generalize 0 = j at hA
    induction hA with
    | nil => rfl
    | val _ _ _ _ _ _ _ _ _ ih => simp [ih]
    | ptr _ _ _ _ _ _ _ _ _ _ _ _ _ _ ih => simp [ih]
  have hdl := hpre ds hp
  obtain ⟨PB, hS, hfresh, hini⟩ := sim_init (N := fn.ntmps) (k := fn.ntmps - xs.length) hF hfin hA (by omega)
  refine calls_of_wp hf hb ?_
  have e0 : (xs.toArray.size) = xs.length := by simp
  rw [e0]
  refine wp_mono (code_sound hΓ c dc hc _ (initS sp ds) F PB _ w hS hfresh (hok ds hp hdl)) fun e a' w' hq => ?_
  obtain ⟨τ, F', β', k1, _, k3⟩ := hq
  have fin : RetOk sp rs ds τ → (a'.defers = [] ∧ ∃ v, (results fn a'.tmps).run P w' = .ok v w' ∧ SpecPost sp w F ds Mb (.returned v) w') := by
    rintro ⟨r1, r2, r3⟩
    have hBk : ∀ k b s ty, look sp.ptr k = some (s, ty) → 0 ≤ k → xs[k - 0]? = some (.pointer (some ⟨b, 0, none⟩)) → PB k = some ⟨some b, 1, s⟩ := by
      intro k b s ty hk _ hx
      have hkl : k < ds.length := by rw [hlen]; exact (List.getElem?_eq_some_iff.1 hx).1
      have he : ∀ (ds : List D) (j k : Nat) s ty, look sp.ptr k = some (s, ty) → j ≤ k → k < j + ds.length → look (initE sp.ptr j ds) k = some (.optr k k 0 0) ∧ ∃ d, look (initO sp.ptr j ds) k = some (some (k, ⟨false, true, s, ty, [d]⟩)) := by
        intro ds
        induction ds with
        | nil => intro j k s ty _ h1 h2; simp at h2; omega
        | cons d ds ih =>
          intro j k s ty hk h1 h2
          by_cases e : k = j
          · subst e
            simp [initE, initO, look, hk]
          · obtain ⟨q1, d', q2⟩ := ih (j + 1) k s ty hk (by omega) (by simp at h2; omega)
            refine ⟨by simp only [initE, look, if_neg e]; exact q1, d', ?_⟩
            simp only [initO, look_append]
            cases hj : look sp.ptr j with
            | none => simpa [look] using q2
            | some st => simp only [look, if_neg e, Option.none_or]; exact q2
      obtain ⟨q1, d', q2⟩ := he ds 0 k s ty hk (Nat.zero_le _) (by omega)
      obtain ⟨b', s', ty', d'', z1, z2, _⟩ := hini k _ q2
      cases z1
      -- the pointer is the same
      have henv := hS.env k
      have hge : (initS sp ds).ge k = .optr k k 0 0 := by simp [S.ge, initS, q1]
      rw [hge] at henv
      obtain ⟨L, b2, y1, y2, y3⟩ := henv
      rw [z2] at y1; cases y1; cases y2
      have : (xs.toArray ++ Array.replicate (fn.ntmps - xs.length) undef).getD k undef = .pointer (some ⟨b, 0, none⟩) := by
        simp only [Nat.sub_zero] at hx
        rw [Array.getD_eq_getD_getElem?, Array.getElem?_append_left (by simpa [hlen] using hkl)]
        simp [hx]
      rw [this] at y3
      simp at y3
      rw [z2, y3]
    obtain ⟨fe, be⟩ := effR_ok k1 hA hBk r1
    have ending : ∀ (ws : List (Nat × Obj?)) (v : Value), FzList τ ws → (∀ p ∈ ((effR sp.ptr 0 ds.length).run τ).2.2, p ∈ ws) → (∀ F2, Fsub F' F2 → Sim fn.ntmps w F (Mb.map Prod.fst) PB ⟨τ.e, ws ++ τ.o, τ.n⟩ F2 β' a' w' → ResOk w F2 w' (sp.res ds) v sp.kind) →
        SpecPost sp w F ds Mb (.returned v) w' := by
      intro ws v hws hsub hres
      obtain ⟨F2, hF2, hS2⟩ := k1.freeze hws
      refine ⟨v, F2, rfl, hS2.frz, hS2.fin, hS2.step, hres F2 hF2 hS2, ?_⟩
      rw [← r2]
      exact be ws F2 hws hsub hF2 hS2
    refine ⟨k1.defers, ?_⟩
    have one : (sp.kind = .val ∨ sp.kind = .ground) → ∀ r, rs = [r] → ((retV r).run τ).1 → ((retV r).run τ).2.1 = sp.res ds → ∃ v, (results fn a'.tmps).run P w' = .ok v w' ∧ SpecPost sp w F ds Mb (.returned v) w' := by
      rintro hk r rfl c1 c2
      simp only [retV, R.run_bind, R.run_pure] at c1 c2
      obtain ⟨d1, d2⟩ := c1
      obtain ⟨vs, v1, v2, v3⟩ := results_run (P := P) k1 hr (fun r' hr' => by simp only [List.mem_singleton] at hr'; subst hr'; exact d1)
      have hl1 : vs.length = 1 := v2
      rw [dif_pos hl1] at v1
      refine ⟨_, v1, ?_⟩
      have hval := v3 0 r vs[0] rfl (List.getElem?_eq_getElem (by omega))
      obtain ⟨f1, g1⟩ := res_ok k1 _ hval d2
      refine ending (((res ((resR r).run τ).2).run τ).2.2 ++ ((effR sp.ptr 0 ds.length).run τ).2.2) _ (f1.append fe) (fun p hp => by simp [hp]) (fun F2 hF2 hS2 => ?_)
      have := g1 _ F2 (f1.append fe) (fun p hp => by simp [hp]) hF2 hS2
      rw [c2] at this
      rcases hk with hk | hk <;> (rw [hk]; exact this)
    have many : (sp.kind = .val ∨ sp.kind = .ground) → ((retVs rs).run τ).1 → .tup ((retVs rs).run τ).2.1 = sp.res ds → rs.length ≠ 1 → ∃ v, (results fn a'.tmps).run P w' = .ok v w' ∧ SpecPost sp w F ds Mb (.returned v) w' := by
      intro hk c1 c2 c3
      obtain ⟨vs, v1, v2, v3⟩ := results_run (P := P) k1 hr (retVs_conds rs c1)
      have hl1 : ¬ vs.length = 1 := by rw [v2]; exact c3
      rw [dif_neg hl1] at v1
      refine ⟨_, v1, ?_⟩
      obtain ⟨f1, l1, g1⟩ := retVs_ok k1 rs vs v2.symm (fun i r v h1 h2 _ => v3 i r v h1 h2) c1
      refine ending (((retVs rs).run τ).2.2 ++ ((effR sp.ptr 0 ds.length).run τ).2.2) _ (f1.append fe) (fun p hp => by simp [hp]) (fun F2 hF2 hS2 => ?_)
      have hh := g1 _ F2 (f1.append fe) (fun p hp => by simp [hp]) hF2 hS2
      have : Fro F2 (sp.res ds) (.tuple vs.toArray) := by
        rw [← c2]
        exact .tup _ vs l1 hh
      rcases hk with hk | hk <;> (rw [hk]; exact this)
    cases hk : sp.kind with
    | inpl r fl fk => rw [hk] at hni; cases hni
    | val =>
      rw [hk] at r3
      match rs, r3, one, many with
      | [r], r3, one, _ => exact one (.inl hk) r rfl r3.1 r3.2
      | [], r3, _, many => exact many (.inl hk) r3.1 r3.2.1 r3.2.2
      | _ :: _ :: _, r3, _, many => exact many (.inl hk) r3.1 r3.2.1 r3.2.2
    | ground =>
      rw [hk] at r3
      match rs, r3, one, many with
      | [r], r3, one, _ => exact one (.inr hk) r rfl r3.1 r3.2
      | [], r3, _, many => exact many (.inr hk) r3.1 r3.2.1 r3.2.2
      | _ :: _ :: _, r3, _, many => exact many (.inr hk) r3.1 r3.2.1 r3.2.2
    | row s ty =>
      rw [hk] at r3
      match rs, r3, hr with
      | [r], ⟨d1, d2, d3, d4⟩, hr =>
        obtain ⟨vs, v1, v2, v3⟩ := results_run (P := P) k1 hr (fun r' hr' => by simp only [List.mem_singleton] at hr'; subst hr'; exact d1)
        have hl1 : vs.length = 1 := v2
        rw [dif_pos hl1] at v1
        refine ⟨_, v1, ?_⟩
        have hval := v3 0 r vs[0] rfl (List.getElem?_eq_getElem (by omega))
        obtain ⟨es, L, g1, g2, g3⟩ := retS_ok k1 hval d2
        refine ending _ _ fe (fun p hp => hp) (fun F2 hF2 hS2 => ?_)
        obtain ⟨g4, g5⟩ := g3 _ F2 d4 hF2 hS2
        rw [hk]
        exact ⟨es, L, d3.symm.trans g1, g2, g4, g5⟩
      | [], r3, _ => exact r3.elim
      | _ :: _ :: _, r3, _ => exact r3.elim
    | ptr s ty =>
      rw [hk] at r3
      match rs, r3, hr with
      | [r], ⟨d1, d2, d3, d4⟩, hr =>
        obtain ⟨vs, v1, v2, v3⟩ := results_run (P := P) k1 hr (fun r' hr' => by simp only [List.mem_singleton] at hr'; subst hr'; exact d1)
        have hl1 : vs.length = 1 := v2
        rw [dif_pos hl1] at v1
        refine ⟨_, v1, ?_⟩
        have hval := v3 0 r vs[0] rfl (List.getElem?_eq_getElem (by omega))
        obtain ⟨f1, g, v, o, b, g1, g2, g3, g4, g5, g6, g7⟩ := retP_ok k1 hval d2
        refine ending (((retP s ty ((resR r).run τ).2).run τ).2.2.1 ++ ((effR sp.ptr 0 ds.length).run τ).2.2) _ (f1.append fe) (fun p hp => by simp [hp]) (fun F2 hF2 hS2 => ?_)
        obtain ⟨z1, z2, z3, z4⟩ := g7 _ F2 (f1.append fe) (fun p hp => by simp [hp]) hF2 hS2
        rw [hk]
        refine ⟨b, g6, by rw [← d3]; exact z1, ?_, z3, z2⟩
        rcases z4 with z4 | z4
        · exact z4
        · rw [noM d4 hA] at z4; cases z4
      | [], r3, _ => exact r3.elim
      | _ :: _ :: _, r3, _ => exact r3.elim
    | tupPtr q s ty =>
      rw [hk] at r3
      have r3' : q < rs.length ∧ rs.length ≠ 1 ∧ sp.ptr = [] ∧ ((retVs (rs.take q)).run τ).1 ∧ ((retVs (rs.drop (q + 1))).run τ).1 ∧ ((resR (rs.getD q (.t 0))).run τ).1 ∧ ((retP s ty ((resR (rs.getD q (.t 0))).run τ).2).run τ).1 ∧
          .tup (((retVs (rs.take q)).run τ).2.1 ++ ((retP s ty ((resR (rs.getD q (.t 0))).run τ).2).run τ).2.1 :: ((retVs (rs.drop (q + 1))).run τ).2.1) = sp.res ds := by
        cases rs with
        | nil => exact r3
        | cons r0 rs => cases rs <;> exact r3
      obtain ⟨t1, t2, t3, t4, t5, t6, t7, t8⟩ := r3'
      have hq : rs[q]? = some (rs.getD q (.t 0)) := by simp [t1]
      generalize rs.getD q (.t 0) = rq at *
      have hsplit : rs = rs.take q ++ rq :: rs.drop (q + 1) := by
        obtain ⟨hl, he⟩ := List.getElem?_eq_some_iff.1 hq
        rw [← he, ← List.drop_eq_getElem_cons hl, List.take_append_drop]
      have conds : ∀ r ∈ rs, ((resR r).run τ).1 := by
        intro r hr'
        rw [hsplit, List.mem_append, List.mem_cons] at hr'
        rcases hr' with h1 | rfl | h1
        · exact retVs_conds _ t4 r h1
        · exact t6
        · exact retVs_conds _ t5 r h1
      obtain ⟨vs, v1, v2, v3⟩ := results_run (P := P) k1 hr conds
      rw [dif_neg (by rw [v2]; exact t2)] at v1
      refine ⟨_, v1, ?_⟩
      have hvl : q < vs.length := by omega
      have hvq : vs[q]? = some vs[q] := List.getElem?_eq_getElem hvl
      obtain ⟨fP, g, v, o, b, g1, g2, g3, g4, g5, g6, g7⟩ := retP_ok k1 (v3 q rq vs[q] hq hvq) t7
      obtain ⟨fA, lA, gA⟩ := retVs_ok k1 (rs.take q) (vs.take q) (by simp [v2]) (fun i r v h1 h2 _ => v3 i r v (take_get h1) (take_get h2)) t4
      obtain ⟨fB, lB, gB⟩ := retVs_ok k1 (rs.drop (q + 1)) (vs.drop (q + 1)) (by simp [v2]) (fun i r v h1 h2 _ => v3 (q + 1 + i) r v (by rw [← List.getElem?_drop]; exact h1) (by rw [← List.getElem?_drop]; exact h2)) t5
      refine ending (((retVs (rs.take q)).run τ).2.2 ++ (((retP s ty ((resR rq).run τ).2).run τ).2.2.1 ++ (((retVs (rs.drop (q + 1))).run τ).2.2 ++ ((effR sp.ptr 0 ds.length).run τ).2.2))) _ (fA.append (fP.append (fB.append fe))) (fun p hp => by simp [hp]) (fun F2 hF2 hS2 => ?_)
      have hws := fA.append (fP.append (fB.append fe))
      obtain ⟨z1, z2, z3, z4⟩ := g7 _ F2 hws (fun p hp => by simp [hp]) hF2 hS2
      have zA := gA _ F2 hws (fun p hp => by simp [hp]) hF2 hS2
      have zB := gB _ F2 hws (fun p hp => by simp [hp]) hF2 hS2
      have lA' : ((retVs (rs.take q)).run τ).2.1.length = q := by rw [lA]; simp; omega
      rw [hk]
      refine ⟨_, vs, b, t8.symm, rfl, ?_, ?_, ?_, ?_, ?_, z3, z2⟩
      · simp only [List.length_append, List.length_cons, lA', lB, List.length_drop]; omega
      · intro j c x hj hc hx
        rcases Nat.lt_trichotomy j q with h1 | h1 | h1
        · rw [List.getElem?_append_left (by omega)] at hc
          exact zA j c x hc (by rw [List.getElem?_take]; simp [h1, hx])
        · exact absurd h1 hj
        · obtain ⟨i, rfl⟩ : ∃ i, j = q + 1 + i := ⟨j - (q + 1), by omega⟩
          rw [List.getElem?_append_right (by omega), lA', show q + 1 + i - q = i + 1 by omega, List.getElem?_cons_succ] at hc
          exact zB i c x hc (by rw [List.getElem?_drop]; exact hx)
      · rw [hvq, g6]
      · rw [List.getD_eq_getElem?_getD, List.getElem?_append_right (by omega), lA', Nat.sub_self]
        exact z1
      · rcases z4 with z4 | z4
        · exact z4
        · rw [noM t3 hA] at z4; cases z4
  cases e with
  | normal => exact fin k3
  | ret => exact fin k3
  | exit id => exact k3.elim
  | goto l => exact k3.elim
  | panic ch => exact k3.elim
  | outgrown => exact k3.elim

end
end Go.Dw
