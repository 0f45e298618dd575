/-
  THE LAYER Dw, PART 19: regions in any order; code; functions.
-/
import Derived.Test.YtlphpepmbcbmiaaDw18
namespace Go.Dw

section
variable {N : Nat} {w0 : World} {F0 : Fz} {M : Nat → Prop} {B0 : Bt} {P : Program}

theorem any_sound {Γ : Specs} (hΓ : ∀ k sp, Γ k = some sp → SpecOk P (k % 4096) sp) {ops : Array Oper} {ds : List DOper} (hds : cOpers P N ops true 0 ops.toList = some ds) {σ : S} {n : Nat} {KD : S → Prop} (hw : Dw.wpOps Γ ds n σ KD) (hdraw : drawOk (feet Γ ds n σ) = true)
    {Q : Exit → Act → World → Prop} (hQ : ∀ τ F' β' a' w', Sim N w0 F0 M B0 τ F' β' a' w' → (∀ v, n + ds.length ≤ v → β' v = none) → (∃ τ', KD τ' ∧ ∀ k, τ'.get k = τ.get k) → Q .normal a' w') :
    ∀ (fuel : Nat) (listed : Array Bool) (F : Fz) (β : Bt) (a : Act) (w : World), listed.size = ops.size → (List.range ops.size).countP (fun i => !listed.getD i true) = fuel →
      (∀ (j : Nat) o, ops[j]? = some o → listed.getD j true = true → ∀ e ∈ cAfter true o, listed.getD e true = true) →
      (∀ v, n ≤ v → β v ≠ none → v - n < ops.size ∧ listed.getD (v - n) true = true) →
      Sim N w0 F0 M B0 (appL (fun i => listed.getD i true) (outs Γ ds n σ) 0 σ) F β a w → wpAny P .any ops Q fuel listed a w := by
  obtain ⟨hlen, hget⟩ := cOpers_get ops.toList 0 ds hds
  simp only [Array.length_toList] at hlen
  have hall := (outs_spec Γ ds n σ 0 (fun _ => true) (fun _ => rfl)).2 KD hw
  have hol := (outs_spec Γ ds n σ 0 (fun _ => true) (fun _ => rfl)).1
  -- what is ready has all that it waits for
  have hready : ∀ (listed : Array Bool) i, i ∈ Region.ready .any ops listed ↔ i < ops.size ∧ listed.getD i true = false ∧ ∃ o, ops[i]? = some o ∧ ∀ e ∈ cAfter true o, listed.getD e false = true := by
    intro listed i
    simp only [Region.ready, List.mem_filter, List.mem_range, Bool.and_eq_true, Bool.not_eq_true']
    constructor
    · rintro ⟨h1, h2, h3⟩
      refine ⟨h1, h2, ops[i], Array.getElem?_eq_getElem h1, fun e he => ?_⟩
      rw [Array.getElem?_eq_getElem h1] at h3
      simp only [Option.map_some, Option.getD_some, Array.all_eq_true'] at h3
      simp only [cAfter, if_true, List.mem_map, List.mem_filter] at he
      obtain ⟨ed, ⟨he1, he2⟩, rfl⟩ := he
      have := h3 ed (by simpa using he1)
      rw [he2] at this
      simpa using this
    · rintro ⟨h1, h2, o, ho, h3⟩
      refine ⟨h1, h2, ?_⟩
      rw [ho]
      simp only [Option.map_some, Option.getD_some, Array.all_eq_true']
      intro ed hed
      cases hb : Region.binds .any ed with
      | false => rfl
      | true =>
        have := h3 ed.on (by
          simp only [cAfter, if_true, List.mem_map, List.mem_filter]
          exact ⟨ed, ⟨by simpa using hed, hb⟩, rfl⟩)
        simpa using this
  have hafter : ∀ (j : Nat) o, ops[j]? = some o → ∀ e ∈ cAfter true o, e < j := by
    intro j o ho
    obtain ⟨o', _, h2⟩ := hget j o (by simpa using ho)
    have := (cOper_after h2).2
    simpa using this
  -- nothing is ready: all is listed
  have hnone : ∀ (listed : Array Bool), listed.size = ops.size → Region.ready .any ops listed = [] → ∀ i, i < ops.size → listed.getD i true = true := by
    intro listed hsz hr i
    induction i using Nat.strongRecOn with
    | _ i ih =>
      intro hi
      cases hli : listed.getD i true with
      | true => rfl
      | false =>
        exfalso
        have : i ∈ Region.ready .any ops listed := by
          rw [hready]
          refine ⟨hi, hli, ops[i], Array.getElem?_eq_getElem hi, fun e he => ?_⟩
          have hlt := hafter i _ (Array.getElem?_eq_getElem hi) e he
          have := ih e hlt (by omega)
          have hel : e < listed.size := by omega
          simpa [hel] using this
        rw [hr] at this
        cases this
  have hfin : ∀ (listed : Array Bool) (F : Fz) (β : Bt) (a : Act) (w : World), listed.size = ops.size → (∀ i, i < ops.size → listed.getD i true = true) → (∀ v, n ≤ v → β v ≠ none → v - n < ops.size ∧ listed.getD (v - n) true = true) →
      Sim N w0 F0 M B0 (appL (fun i => listed.getD i true) (outs Γ ds n σ) 0 σ) F β a w → Q .normal a w := by
    intro listed F β a w hsz hl hfr hS
    refine hQ _ F β a w hS (fun v hv => ?_) ⟨_, hall.1, fun k => ?_⟩
    · cases hb : β v with
      | none => rfl
      | some L =>
        have := (hfr v (by omega) (by rw [hb]; simp)).1
        omega
    · refine appL_get _ _ k _ 0 σ σ (fun j u hj _ => ?_) rfl
      have hj' : j < ops.size := by rw [← hlen, ← hol]; exact (List.getElem?_eq_some_iff.1 hj).1
      simp only [Nat.zero_add]
      exact (hl j hj').symm
  intro fuel
  induction fuel with
  | zero =>
    intro listed F β a w hsz hcount hclosed hfr hS
    have hl : ∀ i, i < ops.size → listed.getD i true = true := by
      intro i hi
      rw [List.countP_eq_zero] at hcount
      have := hcount i (List.mem_range.2 hi)
      simpa using this
    refine ⟨?_, hfin listed F β a w hsz hl hfr hS⟩
    rw [List.eq_nil_iff_forall_not_mem]
    intro i hi
    obtain ⟨h1, h2, _⟩ := (hready listed i).1 hi
    rw [hl i h1] at h2
    cases h2
  | succ fuel ih =>
    intro listed F β a w hsz hcount hclosed hfr hS
    refine ⟨fun hr => hfin listed F β a w hsz (hnone listed hsz hr) hfr hS, fun i hi => ?_⟩
    obtain ⟨hi1, hi2, o, ho, hdone⟩ := (hready listed i).1 hi
    obtain ⟨o', ho1, ho2⟩ := hget i o (by simpa using ho)
    simp only [Nat.zero_add] at ho2
    obtain ⟨haf, _⟩ := cOper_after ho2
    obtain ⟨u, u1, u2, u3⟩ := outs_get Γ ds n σ 0 i o' ho1
    simp only [Nat.zero_add] at u2 u3
    have hdone' : ∀ e ∈ o'.after, listed.getD e true = true := by
      intro e he
      rw [haf] at he
      have h1 := hdone e he
      have hel : e < listed.size := by
        have := hafter i o ho e he
        omega
      simpa [hel] using h1
    -- any other operation that touches the same
    have hother : ∀ (j : Nat) v, (outs Γ ds n σ)[j]? = some v → ∃ oj, ops[j]? = some oj ∧ ∃ oj', ds[j]? = some oj' ∧ oj'.after = cAfter true oj ∧ ∃ rd, (feet Γ ds n σ)[j]? = some (rd, wrs v, oj'.after) := by
      intro j v hv
      have hj : j < ops.size := by rw [← hlen, ← hol]; exact (List.getElem?_eq_some_iff.1 hv).1
      obtain ⟨oj', q1, q2⟩ := hget j ops[j] (by simp [hj])
      obtain ⟨v', v1, _, v3⟩ := outs_get Γ ds n σ 0 j oj' q1
      rw [hv] at v1; cases v1
      exact ⟨ops[j], Array.getElem?_eq_getElem hj, oj', q1, (cOper_after q2).1, _, v3⟩
    have hfeet : ∀ (j : Nat) a, ((feet Γ ds n σ).map fun x => x.2.2)[j]? = some a → ∃ oj, ops[j]? = some oj ∧ a = cAfter true oj := by
      intro j a hja
      rw [List.getElem?_map, Option.map_eq_some_iff] at hja
      obtain ⟨x, hx, rfl⟩ := hja
      have hfl : ∀ (ds : List DOper) (nv : Nat) (σ : S), (feet Γ ds nv σ).length = (outs Γ ds nv σ).length := by
        intro ds
        induction ds with
        | nil => intro _ _; rfl
        | cons o r ih => intro nv σ; simp [feet, outs, ih]
      have hjl : j < (outs Γ ds n σ).length := by rw [← hfl]; exact (List.getElem?_eq_some_iff.1 hx).1
      obtain ⟨oj, p1, oj', _, p3, rd, p4⟩ := hother j _ (List.getElem?_eq_getElem hjl)
      rw [hx] at p4
      cases p4
      exact ⟨oj, p1, p3⟩
    have hdep : ∀ (j q : Nat), Dep ((feet Γ ds n σ).map fun x => x.2.2) j q → listed.getD j true = true → listed.getD q true = true := by
      intro j q hd
      induction hd with
      | one h he =>
        intro hl
        obtain ⟨oj, p1, rfl⟩ := hfeet _ _ h
        exact hclosed _ oj p1 hl _ he
      | more h he _ ih =>
        intro hl
        obtain ⟨oj, p1, rfl⟩ := hfeet _ _ h
        exact ih (hclosed _ oj p1 hl _ he)
    have hlater : ∀ (j : Nat) v (k : Key), i < j → (outs Γ ds n σ)[j]? = some v → k ∈ wrs v → (k ∈ (evalOper Γ (n + i) o').rd (appL (fun q => decide (q < i)) (outs Γ ds n σ) 0 σ) ∨ k ∈ wrs u) → listed.getD j true = false := by
      intro j v k hij hv hk hk'
      obtain ⟨oj, p1, oj', _, p3, rd, p4⟩ := hother j v hv
      have hmem := drawOk_spec hdraw hij u3 p4 (by
        unfold clash
        rcases hk' with hk' | hk'
        · rw [meet_of hk' hk]; simp
        · rw [meet_of hk' hk]; simp)
      cases hlj : listed.getD j true with
      | false => rfl
      | true =>
        have := hdep j i hmem hlj
        rw [hi2] at this; cases this
    -- the operation reads what it reads in the order of the text
    have hsame : ∀ k ∈ (evalOper Γ (n + i) o').rd (appL (fun q => decide (q < i)) (outs Γ ds n σ) 0 σ), (appL (fun q => decide (q < i)) (outs Γ ds n σ) 0 σ).same (appL (fun q => listed.getD q true) (outs Γ ds n σ) 0 σ) k := by
      intro k hk
      rw [S.same_iff]
      refine appL_get _ _ k _ 0 σ σ (fun j v hv hkv => ?_) rfl
      simp only [Nat.zero_add]
      rcases Nat.lt_trichotomy j i with hji | hji | hji
      · have hlj : listed.getD j true = true := by
          obtain ⟨oj, p1, oj', _, _, rd, p4⟩ := hother j v hv
          have hmem := drawOk_spec hdraw hji p4 u3 (by unfold clash; rw [meet_of hkv hk]; simp)
          cases hmem with
          | one h he =>
            rw [List.getElem?_map, u3] at h
            cases h
            exact hdone' j he
          | more h he hd =>
            rw [List.getElem?_map, u3] at h
            cases h
            exact hdep _ j hd (hdone' _ he)
        rw [hlj]; simp [hji]
      · subst hji; rw [hi2]; simp
      · rw [hlater j v k hji hv hkv (.inl hk)]
        have : ¬ j < i := by omega
        simp [this]
    obtain ⟨hrun, _⟩ := R.local _ _ _ hsame
    have hu : (evalOper Γ (n + i) o').run (appL (fun q => listed.getD q true) (outs Γ ds n σ) 0 σ) = u := by rw [hrun, ← u2]
    have hβi : β (n + i) = none := by
      cases hb : β (n + i) with
      | none => rfl
      | some L =>
        have := (hfr (n + i) (by omega) (by rw [hb]; simp)).2
        rw [show n + i - n = i by omega, hi2] at this
        cases this
    have huc : u.c := hall.2 u (List.mem_of_getElem? u1)
    unfold wpOp
    rw [ho]
    simp only
    have key := oper_sound hΓ hS ho2 hβi (by rw [hu]; exact huc) (wpAny P .any ops Q fuel (listed.setIfInBounds i true)) Q (fun a' w' F' β' hS' hb1 hb2 => by
      have hsetne : ∀ j, j ≠ i → (listed.setIfInBounds i true).getD j true = listed.getD j true := fun j hj => getD_set_ne true (Ne.symm hj)
      have hset : (listed.setIfInBounds i true).getD i true = true := by
        rw [Array.getD_eq_getD_getElem?, Array.getElem?_setIfInBounds_self_of_lt (by omega)]; rfl
      refine ih _ F' β' a' w' (by simpa using hsz) ?_ ?_ ?_ (hS'.congr fun k => ?_)
      · have hcl := count_less (fun j => !listed.getD j true) i (List.range ops.size) List.nodup_range (List.mem_range.2 hi1) (by rw [hi2]; rfl)
        rw [hcount] at hcl
        have : (List.range ops.size).countP (fun j => !(listed.setIfInBounds i true).getD j true) = (List.range ops.size).countP (fun j => (!listed.getD j true) && j != i) := by
          apply List.countP_congr
          intro j _
          by_cases hj : j = i
          · subst hj; rw [hset]; simp
          · rw [hsetne j hj]; simp [hj]
        omega
      · intro j oj hoj hlj e he
        by_cases hj : j = i
        · subst hj
          rw [ho] at hoj; cases hoj
          have h1 := hdone' e (by rw [haf]; exact he)
          by_cases hei : e = j
          · subst hei; exact hset
          · rw [hsetne e hei]; exact h1
        · rw [hsetne j hj] at hlj
          have h1 := hclosed j oj hoj hlj e he
          by_cases hei : e = i
          · subst hei; exact hset
          · rw [hsetne e hei]; exact h1
      · intro v hv hb
        by_cases hvi : v = n + i
        · subst hvi
          rw [show n + i - n = i by omega]
          exact ⟨hi1, hset⟩
        · rw [hb2 v hvi] at hb
          obtain ⟨h1, h2⟩ := hfr v hv hb
          refine ⟨h1, ?_⟩
          rw [hsetne _ (by omega)]
          exact h2
      · rw [hu]
        by_cases hk : k ∈ wrs u
        · -- the last writer is this operation
          have h2 : ∀ (us : List Out) (i0 : Nat) (τ τ' : S) (L : Nat → Bool) (q : Nat), us[q]? = some u → L (i0 + q) = true → (∀ (j : Nat) v, q < j → us[j]? = some v → k ∈ wrs v → L (i0 + j) = false) → (appL L us i0 τ).get k = (τ'.app u).get k := by
            intro us
            induction us with
            | nil => intro i0 τ τ' L q hq; simp at hq
            | cons v us ihu =>
              intro i0 τ τ' L q hq hL hlast
              rcases q with _ | q
              · simp only [List.getElem?_cons_zero, Option.some.injEq] at hq
                subst hq
                simp only [Nat.add_zero] at hL
                simp only [appL, hL, if_true]
                have := appL_get L (fun _ => false) k us (i0 + 1) (τ.app v) (τ.app v) (fun j v' hj hk' => by
                  have := hlast (j + 1) v' (by omega) (by simpa using hj) hk'
                  rw [show i0 + (j + 1) = i0 + 1 + j by omega] at this
                  exact this) rfl
                rw [this]
                have hid : ∀ (us : List Out) (i : Nat) (τ : S), appL (fun _ => false) us i τ = τ := by
                  intro us
                  induction us with
                  | nil => intro i τ; rfl
                  | cons v us ih => intro i τ; simp only [appL, Bool.false_eq_true, if_false]; exact ih _ _
                rw [hid]
                exact get_app_of_mem _ _ _ _ hk
              · simp only [List.getElem?_cons_succ] at hq
                simp only [appL]
                exact ihu (i0 + 1) _ τ' L q hq (by rw [show i0 + 1 + q = i0 + (q + 1) by omega]; exact hL) (fun j v' hj hv' hk' => by
                  rw [show i0 + 1 + j = i0 + (j + 1) by omega]
                  exact hlast (j + 1) v' (by omega) (by simpa using hv') hk')
          exact h2 _ 0 σ (appL (fun q => listed.getD q true) (outs Γ ds n σ) 0 σ) _ i u1 (by rw [Nat.zero_add]; exact hset) (fun j v hj hv hk' => by
            simp only [Nat.zero_add]
            rw [hsetne j (by omega)]
            exact hlater j v k hj hv hk' (.inr hk))
        · rw [get_app_of_not _ _ _ hk]
          refine appL_get _ _ k _ 0 σ σ (fun j v hv hkv => ?_) rfl
          simp only [Nat.zero_add]
          refine hsetne j ?_
          rintro rfl
          rw [u1] at hv; cases hv
          exact hk hkv)
    split
    · rename_i hwant
      rw [if_pos hwant] at key
      exact .inl key
    · rename_i hwant
      rw [if_neg hwant] at key
      exact key

end
end Go.Dw
