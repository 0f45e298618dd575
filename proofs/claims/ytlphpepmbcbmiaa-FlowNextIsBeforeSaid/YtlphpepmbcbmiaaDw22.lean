/-
  THE LAYER Dw, PART 22: functions: from a body's 'DWp' to 'SpecOk'.
-/
import Derived.Test.YtlphpepmbcbmiaaDw21
namespace Go.Dw

section
variable {N : Nat} {w0 : World} {F0 : Fz} {M : Nat → Prop} {B0 : Bt} {P : Program} {σ : S} {F : Fz} {β : Bt} {a : Act} {w : World}

def resOf (a : Act) : ResultVar → Sem Value
  | .tmp t => pure (a.tmps.getD t undef)
  | .cell c t => do loadVar t (← asAddr (a.tmps.getD c undef))

theorem resR_ok' (h : Sim N w0 F0 M B0 σ F β a w) {rv : ResultVar} {r : DRes} (hr : cRes P rv = some r) (hc : ((resR r).run σ).1) :
    ∃ v, (resOf a rv).run P w = .ok v w ∧ Val F β ((resR r).run σ).2 v := by
  have := resR_ok (P := P) h hr hc
  cases rv <;> exact this

theorem results_list (h : Sim N w0 F0 M B0 σ F β a w) : ∀ (rvs : List ResultVar) (rs : List DRes), rvs.mapM (cRes P) = some rs → (∀ r ∈ rs, ((resR r).run σ).1) →
    ∃ vs : List Value, (rvs.mapM (resOf a)).run P w = .ok vs w ∧ vs.length = rs.length ∧ rvs.length = rs.length ∧ ∀ (i : Nat) r v, rs[i]? = some r → vs[i]? = some v → Val F β ((resR r).run σ).2 v
  | [], rs, hm, _ => by
    simp at hm
    subst hm
    exact ⟨[], rfl, rfl, rfl, fun i r v hi => by simp at hi⟩
  | rv :: rvs, rs, hm, hc => by
    simp only [List.mapM_cons, Option.bind_eq_bind, Option.bind_eq_some_iff] at hm
    obtain ⟨r, hr, rs', hrs, he⟩ := hm
    cases he
    obtain ⟨v, v1, v2⟩ := resR_ok' (P := P) h hr (hc r (by simp))
    obtain ⟨vs, k1, k2, k3, k4⟩ := results_list h rvs rs' hrs (fun r hr => hc r (by simp [hr]))
    refine ⟨v :: vs, by simp [List.mapM_cons, v1, k1], by simp [k2], by simp [k3], fun i r' v' hi hv => ?_⟩
    rcases i with _ | i
    · simp only [List.getElem?_cons_zero, Option.some.injEq] at hi hv
      subst hi; subst hv
      exact v2
    · simp only [List.getElem?_cons_succ] at hi hv
      exact k4 i r' v' hi hv

theorem results_run (h : Sim N w0 F0 M B0 σ F β a w) {fn : Func} {rs : List DRes} (hm : fn.results.toList.mapM (cRes P) = some rs) (hc : ∀ r ∈ rs, ((resR r).run σ).1) :
    ∃ vs : List Value, (results fn a.tmps).run P w = .ok (if h : vs.length = 1 then vs[0] else .tuple vs.toArray) w ∧ vs.length = rs.length ∧ ∀ (i : Nat) r v, rs[i]? = some r → vs[i]? = some v → Val F β ((resR r).run σ).2 v := by
  obtain ⟨vs, k1, k2, _, k4⟩ := results_list (P := P) h _ rs hm hc
  refine ⟨vs, ?_, k2, k4⟩
  have hmap : (fn.results.mapM (resOf a)).run P w = .ok vs.toArray w := by
    rw [Array.mapM_eq_mapM_toList]
    simp [k1]
  have e : results fn a.tmps = (do let vs ← fn.results.mapM (resOf a); pure (if h : vs.size = 1 then vs[0] else .tuple vs)) := by
    unfold results
    have : (fun
      | .tmp t => pure (a.tmps.getD t undef)
      | .cell b t => do loadVar t (← asAddr (a.tmps.getD b undef)) : ResultVar → Sem Value) = resOf a := by
      funext rv; cases rv <;> rfl
    rw [← this]
    rfl
  rw [e]
  simp only [Sem.run_bind]
  rw [hmap]
  simp only [Result.andThen_ok, Sem.run_pure]
  congr 1

/-- an own variable's contents, made free of references -/
theorem retP_ok (h : Sim N w0 F0 M B0 σ F β a w) {s ty : Nat} {d : D} {x : Value} (hx : Val F β d x) (hc : ((retP s ty d).run σ).1) :
    FzList σ ((retP s ty d).run σ).2.2.1 ∧ ∃ g v o b, ((retP s ty d).run σ).2.2.2 = g ∧ σ.go g = some (v, o) ∧ o.fz = false ∧ o.var = true ∧ β v = some ⟨some b, 1, s⟩ ∧ x = .pointer (some ⟨b, 0, none⟩) ∧
      ∀ (ws : List (Nat × Obj?)) F', FzList σ ws → (∀ p ∈ ((retP s ty d).run σ).2.2.1, p ∈ ws) → Fsub F F' → Sim N w0 F0 M B0 ⟨σ.e, ws ++ σ.o, σ.n⟩ F' β a w → varAt F' w b s ty ((retP s ty d).run σ).2.1 ∧ (∀ i, F' b i = none) ∧ b < w.heap.size ∧ (w0.heap.size ≤ b ∨ M b) := by
  cases d <;> try exact hc.elim
  case optr g v i off =>
    simp only [retP, R.run] at hc ⊢
    cases hg : σ.go g with
    | none => rw [hg] at hc; exact hc.elim
    | some p =>
      obtain ⟨v', o⟩ := p
      rw [hg] at hc
      simp only [R.run_bind, R.run_pure] at hc ⊢
      obtain ⟨⟨rfl, rfl, rfl, hfz, hvar, hlen, rfl, rfl⟩, hc1⟩ := hc
      obtain ⟨L, b, hL, hb, rfl⟩ := hx
      obtain ⟨L', hL', _, hk⟩ := h.own g v o hg
      rw [hL] at hL'; cases hL'
      obtain ⟨e1, e2, e3, e4, e5, e6⟩ := hk hfz
      rw [hb] at e6
      obtain ⟨C, hC, hCs, hcell⟩ := e6
      obtain ⟨e, he⟩ : ∃ e, o.es = [e] := List.length_eq_one_iff.1 hlen
      have hge : o.es.getD 0 .top = e := by simp [he]
      rw [hge] at hc1 ⊢
      have hX : ∀ (j : Nat) c, (cells e)[j]? = some c → ∃ x, C[j]? = some x ∧ x.oneCell' = true ∧ Cel F β c x := by
        intro j c hj
        obtain ⟨x, x1, x2, x3⟩ := hcell 0 j e c (by simp [he]) hj
        rw [hvar] at x3
        exact ⟨x, by simpa using x1, x2, by simpa using x3⟩
      obtain ⟨f1, l1, r1⟩ := res_cells h e (fun j => C[j]?) hX hc1
      have hcap : L.cap = 1 := by
        rw [hvar] at e4
        simp only [if_true] at e4
        have : o.es.length = 1 := hlen
        omega
      have hLe : L = ⟨some b, 1, o.s⟩ := by cases L; simp_all
      refine ⟨f1, g, v, o, b, rfl, hg, hfz, hvar, by rw [hL, hLe], by simp, fun ws F' q1 q2 q3 q4 => ?_⟩
      have hgo : (S.mk σ.e (ws ++ σ.o) σ.n).go g = some (v, o) := by
        rcases q1.go g with ⟨v2, o2, k1, k2, _, _⟩ | ⟨_, k2⟩
        · rw [hg] at k1; cases k1; rw [hvar] at k2; cases k2
        · rw [k2]; exact hg
      obtain ⟨s1, s2, s3⟩ := q4.sep g v o L b hgo hfz hL hb
      refine ⟨⟨rfl, e2, by simp, by simp, fun q hq => ?_, C, hC, by rw [hCs, hcap], fun i j c' c hc' hj => ?_⟩, s1, s2, s3.imp id And.left⟩
      · simp only [List.mem_singleton] at hq
        subst hq
        rw [l1]
        exact e5 e (by simp [he])
      · rcases i with _ | i
        · simp only [List.getElem?_cons_zero, Option.some.injEq] at hc'
          subst hc'
          obtain ⟨x, x1, x2, x3⟩ := r1 ws F' q1 q2 q3 q4 j c hj
          exact ⟨x, by simpa using x1, x2, by simpa using Cel.of_fro x3⟩
        · simp at hc'

/-- an own variable's contents, as they are handed back -/
theorem retE_ok {L : Loc} {b : Nat} (h : Sim N w0 F0 M B0 σ F β a w) {s ty g v : Nat} (hL : β v = some L) (hb : L.b = some b) (hLs : L.cap = 1 ∧ L.s = s) (hc : ((retE s ty (.optr g v 0 0)).run σ).1) :
    FzList σ ((retE s ty (.optr g v 0 0)).run σ).2.2 ∧ ∃ o, σ.go g = some (v, o) ∧ o.fz = false ∧ o.var = true ∧
      ∀ (ws : List (Nat × Obj?)) F' φ, FzList σ ws → (∀ p ∈ ((retE s ty (.optr g v 0 0)).run σ).2.2, p ∈ ws) → Fsub F F' → Sim N w0 F0 M B0 ⟨σ.e, ws ++ σ.o, σ.n⟩ F' β a w → RichOK F' β w0.heap.size M ⟨σ.e, ws ++ σ.o, σ.n⟩ w φ →
        HdOk F' w ⟨b, s, ty, φ g 0⟩ ((retE s ty (.optr g v 0 0)).run σ).2.1 ∧ (S.mk σ.e (ws ++ σ.o) σ.n).go g = some (v, o) := by
  simp only [retE, R.run] at hc ⊢
  cases hg : σ.go g with
  | none => rw [hg] at hc; exact hc.elim
  | some p =>
    obtain ⟨v', o⟩ := p
    rw [hg] at hc
    simp only [R.run_bind, R.run_pure] at hc ⊢
    obtain ⟨⟨rfl, _, _, hfz, hvar, hlen, rfl, rfl⟩, hc1⟩ := hc
    obtain ⟨L', hL', _, hk⟩ := h.own g v o hg
    rw [hL] at hL'; cases hL'
    obtain ⟨e1, e2, e3, e4, e5, e6⟩ := hk hfz
    rw [hb] at e6
    obtain ⟨C, hC, hCs, hcell⟩ := e6
    obtain ⟨e, he⟩ : ∃ e, o.es = [e] := List.length_eq_one_iff.1 hlen
    have hge : o.es.getD 0 .top = e := by simp [he]
    rw [hge] at hc1 ⊢
    obtain ⟨hc1, hpe, hpr⟩ := pas_res hc1
    have hpe' : (pas (rich g) e).run σ = (((pas (rich g) e).run σ).1, ((res e).run σ).2) := Prod.ext rfl hpe
    rw [hpe']
    dsimp only
    have hX : ∀ (j : Nat) c, (cells e)[j]? = some c → ∃ x, C[j]? = some x ∧ x.oneCell' = true ∧ Cel F β c x := by
      intro j c hj
      obtain ⟨x, x1, x2, x3⟩ := hcell 0 j e c (by simp [he]) hj
      rw [hvar] at x3
      exact ⟨x, by simpa using x1, x2, by simpa using x3⟩
    obtain ⟨f1, l1, r1⟩ := res_cells h e (fun j => C[j]?) hX hc1
    refine ⟨f1, o, rfl, hfz, hvar, fun ws F' φ q1 q2 q3 q4 hφ => ?_⟩
    have hgo : (S.mk σ.e (ws ++ σ.o) σ.n).go g = some (v, o) := by
      rcases q1.go g with ⟨v2, o2, k1, k2, _, _⟩ | ⟨_, k2⟩
      · rw [hg] at k1; cases k1; rw [hvar] at k2; cases k2
      · rw [k2]; exact hg
    obtain ⟨s1, s2, _⟩ := q4.sep g v o L b hgo hfz hL hb
    refine ⟨⟨⟨rfl, e2, by simp, by simp, fun q hq => ?_, C, hC, by rw [hCs, hLs.1], fun i j c' c hc' hj => ?_⟩, s1, s2, hφ.none_ g 0, hφ.lt g 0, fun j b' hb' e' => ?_, fun j j' b' h1 h2 => (hφ.dis _ _ _ _ _ _ _ h1 h2).2.2, fun C' j x s ty es hC' hj hx => ?_, fun j u n hj => (hpr j _ hj).2 u n rfl⟩, hgo⟩
    · simp only [List.mem_singleton] at hq
      subst hq
      rw [l1]
      exact e5 e (by simp [he])
    · rcases i with _ | i
      · simp only [List.getElem?_cons_zero, Option.some.injEq] at hc'
        subst hc'
        obtain ⟨x, x1, x2, x3⟩ := r1 ws F' q1 q2 q3 q4 j c hj
        exact ⟨x, by simpa using x1, x2, by simpa using Cel.of_fro x3⟩
      · simp at hc'
    · simp only at e'
      subst e'
      exact hφ.sep g 0 j _ g v o L hb' hgo hfz hL hb
    · obtain ⟨z1, z2⟩ := (hpr j _ hj).1 s ty es rfl
      exact hφ.row g v o L b C' 0 j e x s ty es z1 hgo hfz hL hb hC' (by simp [he]) z2 (by simpa using hx)

/-- an own row -/
theorem retS_ok (h : Sim N w0 F0 M B0 σ F β a w) {r : Bool} {s ty : Nat} {d : D} {x : Value} (hx : Val F β d x) (hc : ((retS r s ty d).run σ).1) :
    ∃ es L g v o, ((retS r s ty d).run σ).2.1 = .sl es ∧ x = .slice (L.b.map fun b => ⟨b, 0, none⟩) es.length L.cap ∧ rich g = r ∧ o.fz = false ∧ o.s = s ∧ o.ty = ty ∧ β v = some L ∧ (∃ n, es = o.es.take n) ∧ (r = true → ∀ e ∈ o.es, ∀ c ∈ cells e, ∀ u m, c ≠ .hole u m) ∧
      ∀ (ws : List (Nat × Obj?)) F', ws.all (fun x => x.1 != ((retS r s ty d).run σ).2.2) = true → Fsub F F' → Sim N w0 F0 M B0 ⟨σ.e, ws ++ σ.o, σ.n⟩ F' β a w → OwnOK F' noB w L ⟨false, false, s, ty, es⟩ ∧ (S.mk σ.e (ws ++ σ.o) σ.n).go g = some (v, o) ∧ ∀ b, L.b = some b → (w0.heap.size ≤ b ∨ (r = true ∧ M b)) ∧ b < w.heap.size ∧ ∀ i, F' b i = none := by
  cases d <;> try exact hc.elim
  case osl g v i n =>
    simp only [retS, R.run] at hc ⊢
    cases hg : σ.go g with
    | none => rw [hg] at hc; exact hc.elim
    | some p =>
      obtain ⟨v', o⟩ := p
      rw [hg] at hc
      simp only [R.run] at hc ⊢
      obtain ⟨rfl, rfl, hn, hfz, hvar, rfl, rfl, hrg, hnh⟩ := hc
      obtain ⟨L, a', hL, rfl, hcap, ha, _⟩ := hx
      refine ⟨o.es.take n, L, g, v, o, rfl, by rw [ha rfl]; simp [Nat.min_eq_left hn], hrg, hfz, rfl, rfl, hL, ⟨n, rfl⟩, hnh, fun ws F' hws hF hS => ?_⟩
      have hgo : (S.mk σ.e (ws ++ σ.o) σ.n).go g = some (v, o) := by
        have : look ws g = none := by
          cases hl : look ws g with
          | none => rfl
          | some y =>
            have := List.all_eq_true.1 hws _ (look_mem hl)
            simp at this
        simp only [S.go, look_append, this, Option.none_or]
        exact hg
      obtain ⟨L', hL', _, hk⟩ := hS.own g v o hgo
      rw [hL] at hL'; cases hL'
      obtain ⟨e1, e2, e3, e4, e5, e6⟩ := hk hfz
      refine ⟨⟨e1, e2, ?_, ?_, fun e he => e5 e (List.mem_of_mem_take he), ?_⟩, hgo, fun b hb => ?_⟩
      · simp only [List.length_take]; omega
      · simpa [hvar] using e4
      · cases hb : L.b with
        | none => rw [hb] at e6; exact ⟨e6.1, rfl⟩
        | some b =>
          rw [hb] at e6
          obtain ⟨C, hC, hCs, hcell⟩ := e6
          refine ⟨C, hC, hCs, fun i j e d he hd => ?_⟩
          have he' : o.es[i]? = some e := by
            rw [List.getElem?_take] at he
            split at he
            · exact he
            · cases he
          obtain ⟨x, x1, x2, x3⟩ := hcell i j e d he' hd
          rw [hvar] at x3
          exact ⟨x, x1, x2, by simpa using x3⟩
      · obtain ⟨s1, s2, s3⟩ := hS.sep g v o L b hgo hfz hL hb
        refine ⟨?_, s2, s1⟩
        rcases s3 with s3 | s3
        · exact .inl s3
        · rw [hvar, hrg] at s3
          exact .inr ⟨s3.2.resolve_left (by simp), s3.1⟩

theorem retVs_ok (h : Sim N w0 F0 M B0 σ F β a w) : ∀ (rs : List DRes) (vs : List Value), rs.length = vs.length → (∀ (i : Nat) r v, rs[i]? = some r → vs[i]? = some v → ((resR r).run σ).1 → Val F β ((resR r).run σ).2 v) → ((retVs rs).run σ).1 →
    FzList σ ((retVs rs).run σ).2.2 ∧ ((retVs rs).run σ).2.1.length = vs.length ∧ ∀ (ws : List (Nat × Obj?)) F', FzList σ ws → (∀ p ∈ ((retVs rs).run σ).2.2, p ∈ ws) → Fsub F F' → Sim N w0 F0 M B0 ⟨σ.e, ws ++ σ.o, σ.n⟩ F' β a w →
      ∀ (j : Nat) c v, ((retVs rs).run σ).2.1[j]? = some c → vs[j]? = some v → Fro F' c v
  | [], vs, hl, _, _ => ⟨FzList.nil σ, by simpa [retVs, R.run] using hl, fun _ _ _ _ _ _ j c v hj => by simp [retVs, R.run] at hj⟩
  | r :: rs, [], hl, _, _ => by simp at hl
  | r :: rs, v :: vs, hl, hv, hc => by
    simp only [retVs, retV, R.run_bind, R.run_pure] at hc ⊢
    obtain ⟨⟨c1, c2⟩, c3⟩ := hc
    obtain ⟨f1, r1⟩ := res_ok h _ (hv 0 r v rfl rfl c1) c2
    obtain ⟨f2, l2, r2⟩ := retVs_ok h rs vs (by simpa using hl) (fun i r' v' h1 h2 => hv (i + 1) r' v' (by simpa using h1) (by simpa using h2)) c3
    refine ⟨f1.append f2, by simp [l2], fun ws F' q1 q2 q3 q4 j c v' hj hv' => ?_⟩
    rcases j with _ | j
    · simp only [List.getElem?_cons_zero, Option.some.injEq] at hj hv'
      subst hj; subst hv'
      exact r1 ws F' q1 (fun p hp => q2 p (by simp [hp])) q3 q4
    · simp only [List.getElem?_cons_succ] at hj hv'
      exact r2 ws F' q1 (fun p hp => q2 p (by simp [hp])) q3 q4 j c v' hj hv'

theorem retVs_conds : ∀ (rs : List DRes), ((retVs rs).run σ).1 → ∀ r ∈ rs, ((resR r).run σ).1
  | [], _, r, hr => by cases hr
  | r0 :: rs, hc, r, hr => by
    simp only [retVs, retV, R.run_bind, R.run_pure] at hc
    cases hr with
    | head => exact hc.1.1
    | tail _ hr => exact retVs_conds rs hc.2 r hr

end
end Go.Dw
