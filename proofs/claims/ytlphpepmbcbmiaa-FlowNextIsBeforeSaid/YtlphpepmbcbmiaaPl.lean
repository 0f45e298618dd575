/-
  Plain lemmas on typed programs.
-/
import Derived.Test.YtlphpepmbcbmiaaDx1
namespace Go.Dw

section
variable {ι R α : Type} {body : ι → Option (ι ⊕ R)} {v : R}

/-- a loop that goes through given states and then ends -/
theorem loop_steps (st : Nat → ι) (n : Nat) (h : ∀ i, i < n → body (st i) = some (.inl (st (i + 1)))) (hend : body (st n) = some (.inr v)) : LoopT body (st 0) = some v := by
  have : ∀ k i, i + k = n → LoopT body (st i) = some v := by
    intro k
    induction k with
    | zero => intro i hi; simp only [Nat.add_zero] at hi; subst hi; rw [LoopT_eq, hend]
    | succ k ih => intro i hi; rw [LoopT_eq, h i (by omega)]; exact ih (i + 1) (by omega)
  exact this n 0 (by omega)

theorem loop_some (I : ι → Prop) (μ : ι → Nat) {s : ι} (h0 : I s) (hb : ∀ s, I s → (∃ s', body s = some (.inl s') ∧ I s' ∧ μ s' < μ s) ∨ body s = some (.inr v)) : LoopT body s = some v := by
  obtain ⟨r, h1, h2⟩ := LoopT_inv I (fun r => r = v) μ h0 (fun s hs => (hb s hs).imp id fun h => ⟨v, h, rfl⟩)
  rw [h1, h2]

/-- a loop over a list, by what it comes to on the rest of the list -/
theorem loop_list {α β : Type} (s : List α) (mk : β → Int → ι) (I : β → Nat → Prop) (F : β → List α → Option R)
    (hnil : ∀ acc, I acc s.length → ∃ v, body (mk acc s.length) = some (.inr v) ∧ F acc [] = some v)
    (hcons : ∀ acc (i : Nat) x r, I acc i → s.drop i = x :: r → i < s.length → s[i]? = some x →
      (∃ acc', I acc' (i + 1) ∧ body (mk acc i) = some (.inl (mk acc' ((i + 1 : Nat) : Int))) ∧ F acc (x :: r) = F acc' r) ∨ (∃ v, body (mk acc i) = some (.inr v) ∧ F acc (x :: r) = some v))
    (acc : β) (h0 : I acc 0) : LoopT body (mk acc 0) = F acc s := by
  have : ∀ k i acc, i + k = s.length → I acc i → LoopT body (mk acc (i : Nat)) = F acc (s.drop i) := by
    intro k
    induction k with
    | zero =>
      intro i acc hi hI
      simp only [Nat.add_zero] at hi
      subst hi
      obtain ⟨v, h1, h2⟩ := hnil acc hI
      rw [LoopT_eq, h1, List.drop_length, h2]
    | succ k ih =>
      intro i acc hi hI
      have hl : i < s.length := by omega
      have hd := List.drop_eq_getElem_cons hl
      rw [hd]
      rcases hcons acc i _ _ hI hd hl (List.getElem?_eq_getElem hl) with ⟨acc', h1, h2, h3⟩ | ⟨v, h1, h2⟩
      · rw [LoopT_eq, h2, h3]
        exact ih (i + 1) acc' (by omega) h1
      · rw [LoopT_eq, h1, h2]
  have := this s.length 0 acc (by omega) h0
  simpa using this

@[simp] theorem ixO_nat (l : List α) (i : Nat) : ixO l (i : Int) = l[i]? := by
  unfold ixO
  rw [if_neg (by omega)]
  simp
theorem ixO_pos (l : List α) {i : Int} (h : 0 ≤ i) : ixO l i = l[i.toNat]? := by
  unfold ixO
  rw [if_neg (by omega)]
@[simp] theorem ixO_succ (l : List α) (i : Nat) : ixO l ((i : Int) + 1) = l[i + 1]? := by
  have := ixO_nat l (i + 1)
  simpa using this
@[simp] theorem ixO_zero (l : List α) : ixO l 0 = l[0]? := ixO_pos l (Int.le_refl 0)
theorem wrap64 {n : Int} (h0 : -9223372036854775808 ≤ n) (h1 : n ≤ 9223372036854775807) : IntKind.i64.wrap n = n := wrap_id h0 h1
@[simp] theorem wrap_0 : IntKind.i64.wrap 0 = 0 := by decide
@[simp] theorem wrap_1 : IntKind.i64.wrap 1 = 1 := by decide
@[simp] theorem wrap_2 : IntKind.i64.wrap 2 = 2 := by decide
@[simp] theorem wrap_3 : IntKind.i64.wrap 3 = 3 := by decide
theorem wrap_succ {i : Nat} (h : i < 9223372036854775807) : IntKind.i64.wrap ((i : Int) + 1) = ((i + 1 : Nat) : Int) := by
  rw [wrap64 (by omega) (by omega)]; rfl
@[simp] theorem lft_some (r : R) : (lft (some r) : Option (ι ⊕ R)) = some (.inr r) := rfl
@[simp] theorem lft_none : (lft none : Option (ι ⊕ R)) = none := rfl
@[simp] theorem cnt_def (s : ι) : (cnt s : Option (ι ⊕ R)) = some (.inl s) := rfl
theorem wrap_pred {i : Nat} (h : i < 9223372036854775807) : IntKind.i64.wrap (((i + 1 : Nat) : Int) - 1) = (i : Int) := by
  rw [wrap64 (by omega) (by omega)]; omega
theorem mid_eq {a : Int} (h0 : 0 ≤ a) (h1 : a ≤ 9223372036854775807) : IntKind.i64.wrap ((IntKind.u64.wrap (IntKind.i64.wrap a)).fdiv (2 ^ (Nat.min (1 : Int).toNat IntKind.u64.bits))) = a / 2 := by
  rw [wrap64 (by omega) h1]
  have e1 : IntKind.u64.wrap a = a := by simp [IntKind.wrap, IntKind.signed, IntKind.bits]; omega
  have e2 : (2 : Int) ^ (Nat.min (1 : Int).toNat IntKind.u64.bits) = 2 := by decide
  rw [e1, e2, Int.fdiv_eq_ediv_of_nonneg _ (by omega), wrap64 (by omega) (by omega)]
theorem maxI_eq (a b : Int) : maxI a b = max a b := by unfold maxI; split <;> omega
theorem minI_eq (a b : Int) : minI a b = min a b := by unfold minI; split <;> omega
end

/-- two lists of one length that differ: where they do first -/
theorem first_diff {α : Type} {a b : List α} (hl : a.length = b.length) (hne : a ≠ b) : ∃ (m : Nat) (x y : α), a[m]? = some x ∧ b[m]? = some y ∧ x ≠ y ∧ ∀ i : Nat, i < m → ∃ z, a[i]? = some z ∧ b[i]? = some z := by
  induction a generalizing b with
  | nil => cases b with
    | nil => exact (hne rfl).elim
    | cons y b => simp at hl
  | cons x a ih => cases b with
    | nil => simp at hl
    | cons y b =>
      by_cases hxy : x = y
      · subst hxy
        obtain ⟨m, x', y', h1, h2, h3, h4⟩ := ih (b := b) (by simpa using hl) (fun e => hne (by rw [e]))
        refine ⟨m + 1, x', y', by simpa using h1, by simpa using h2, h3, fun i hi => ?_⟩
        cases i with
        | zero => exact ⟨x, rfl, rfl⟩
        | succ i => simpa using h4 i (by omega)
      · exact ⟨0, x, y, rfl, rfl, hxy, fun i hi => absurd hi (Nat.not_lt_zero _)⟩

/-- what a loop over a list of numbered places collects -/
theorem take_succ_map {α β : Type} (f : α → β) {l : List α} {i : Nat} {x : α} (h : l[i]? = some x) : (l.take (i + 1)).map f = (l.take i).map f ++ [f x] := by
  obtain ⟨hl, rfl⟩ := List.getElem?_eq_some_iff.1 h
  rw [List.take_succ_eq_append_getElem hl, List.map_append]; rfl
end Go.Dw
