/-
  THE LAYER Dw, PART 17: operations with their guards; regions.
-/
import Derived.Test.YtlphpepmbcbmiaaDw16
namespace Go.Dw

section
variable {N : Nat} {w0 : World} {F0 : Fz} {M : Nat → Prop} {B0 : Bt} {σ : S} {F : Fz} {β : Bt} {a : Act} {w : World} {P : Program}

/-- the state behind a guarded operation that was not wanted -/
theorem Sim.skip (h : Sim N w0 F0 M B0 σ F β a w) {dst : Option Nat} (hd : ∀ t, dst = some t → t < N) (c : Prop) :
    Sim N w0 F0 M B0 (σ.app ⟨c, put1 dst (.when false (.bool false)), []⟩) F β (a.put dst undef) w := by
  have henv : ∀ t, Env F β ((σ.app ⟨c, put1 dst (.when false (.bool false)), []⟩).ge t) ((a.put dst undef).tmps.getD t undef) := by
    intro t
    rw [put_tmps]
    by_cases hdt : dst = some t
    · rw [if_pos ⟨hdt, by rw [h.size]; exact hd t hdt⟩]
      subst hdt
      simp only [S.ge, S.app, put1, List.cons_append, List.nil_append, look, if_true, Option.getD_some]
      exact ⟨fun e => (by cases e), fun _ => rfl⟩
    · rw [if_neg (fun e => hdt e.1)]
      have : (σ.app ⟨c, put1 dst (.when false (.bool false)), []⟩).ge t = σ.ge t := by
        cases dst with
        | none => rfl
        | some t' =>
          simp only [S.ge, S.app, put1, List.cons_append, List.nil_append, look]
          rw [if_neg (fun e => hdt (by rw [e]))]
      rw [this]
      exact h.env t
  exact { nam := h.nam, size := by rw [act_size]; exact h.size, defers := by rw [act_defers]; exact h.defers, env := henv, own := h.own, dist := h.dist, sep := h.sep, rich := (by obtain ⟨φ, hφ⟩ := h.rich; exact ⟨φ, hφ.congr fun _ => rfl⟩), frz := h.frz, fin := h.fin, step := h.step }

/-- an operation with its guard -/
theorem oper_sound {Γ : Specs} (hΓ : ∀ k sp, Γ k = some sp → SpecOk P (k % 4096) sp) (h : Sim N w0 F0 M B0 σ F β a w) {ops : Array Oper} {draw : Bool} {i : Nat} {o : Oper} {o' : DOper} (hop : cOper P N ops draw i o = some o') {nv : Nat} (hnv : β nv = none)
    (hc : ((evalOper Γ nv o').run σ).c) (K : Act → World → Prop) (Q : Exit → Act → World → Prop)
    (hK : ∀ a' w' F' β', Sim N w0 F0 M B0 (σ.app ((evalOper Γ nv o').run σ)) F' β' a' w' → Bsub β β' → (∀ v, v ≠ nv → β' v = β v) → K a' w') :
    if Region.wanted o (yielded ops a.tmps) then o.wp P a w K Q else K (a.put o.dst undef) w := by
  unfold cOper at hop
  simp only [Option.bind_eq_some_iff] at hop
  obtain ⟨dop, hdop, g, hg, he⟩ := hop
  split at he
  · rename_i hcond
    simp only [Bool.and_eq_true] at hcond
    obtain ⟨hdst, _⟩ := hcond
    cases he
    have hsnd := fun hc => op_sound hΓ h hdop hdst hnv hc
    cases hgd : o.guard with
    | none =>
      rw [hgd] at hg
      simp only [cGuard, Option.some.injEq] at hg
      subst hg
      rw [if_pos (by simp [Region.wanted, hgd])]
      exact hsnd hc K Q hK
    | some p =>
      obtain ⟨j, want⟩ := p
      rw [hgd] at hg
      simp only [cGuard, Option.bind_eq_some_iff] at hg
      obtain ⟨oj, hoj, t, ht, hg⟩ := hg
      cases hg
      simp only [evalOper, R.run_ge] at hc hK
      have hwant : Region.wanted o (yielded ops a.tmps) = (guardOf (σ.ge t) want).2 := by
        have hy : yielded ops a.tmps j = match a.tmps[t]? with | some (.bool b) => some b | _ => none := by
          simp only [yielded, hoj, Option.bind_some, ht]
          rcases a.tmps[t]? with _ | v
          · rfl
          · cases v <;> rfl
        have henv := h.env t
        have hget : ∀ b : Bool, a.tmps.getD t undef = .bool b → a.tmps[t]? = some (.bool b) := by
          intro b hb
          rw [Array.getD_eq_getD_getElem?] at hb
          cases hh : a.tmps[t]? with
          | none => rw [hh] at hb; cases hb
          | some v => rw [hh] at hb; simp only [Option.getD_some] at hb; rw [hb]
        have hgc : (guardOf (σ.ge t) want).1 := by
          split at hc
          · simp only [R.run_bind, R.run_pure] at hc; exact hc.1
          · exact hc
        simp only [Region.wanted, hgd]
        rw [hy]
        generalize σ.ge t = d at henv hgc ⊢
        cases d <;> try exact hgc.elim
        case bool b =>
          rw [hget b (val_bool (β := β) (F := F) henv)]
          simp only [guardOf]
          cases b <;> cases want <;> rfl
        case when p d =>
          cases d <;> try exact hgc.elim
          case bool b =>
            cases p with
            | true =>
              rw [hget b (val_bool (β := β) (F := F) (henv.1 rfl))]
              simp only [guardOf, Bool.true_and]
              cases b <;> cases want <;> rfl
            | false =>
              have hz := henv.2 rfl
              simp only [guardOf, Bool.false_and]
              have : ∀ b : Bool, a.tmps[t]? ≠ some (.bool b) := by
                intro b e
                rw [Array.getD_eq_getD_getElem?, e] at hz
                cases hz
              split
              · rename_i b e; exact absurd e (this b)
              · rfl
      rw [hwant]
      cases hq : (guardOf (σ.ge t) want).2 with
      | true =>
        simp only [hq, if_true, R.run_bind, R.run_pure] at hc hK ⊢
        exact hsnd hc.2 K Q hK
      | false =>
        simp only [hq, Bool.false_eq_true, if_false, R.run_ret] at hc hK ⊢
        exact hK _ w F β (h.skip (dst_lt hdst) _) (Bsub.refl _) (fun _ _ => rfl)
  · cases he

end
end Go.Dw
