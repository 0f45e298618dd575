/-
  Plain laws about the typed programs.
-/
import Derived.Test.YtcelninhkmhjkaaDoorDc
import Derived.Test.YtcelninhkmhjkaaDoorDxP
namespace Go.Dw

section
variable {ι R α : Type} {body : ι → Option (ι ⊕ R)} {v : R}

/-- a loop that goes through given states and then ends -/
theorem loop_steps (st : Nat → ι) (n : Nat) (h : ∀ i, i < n → body (st i) = some (.inl (st (i + 1)))) (hend : body (st n) = some (.inr v)) : LoopT body (st 0) = some v := by
  have : ∀ k i, i + k = n → LoopT body (st i) = some v := by
    intro k
    induction k with
    | zero => intro i hi; simp only [Nat.add_zero] at hi; subst hi; rw [LoopT_eq, hend]
    | succ k ih => intro i hi; rw [LoopT_eq, h i (by omega)]; exact ih (i + 1) (by omega)
  exact this n 0 (by omega)

theorem loop_some (I : ι → Prop) (μ : ι → Nat) {s : ι} (h0 : I s) (hb : ∀ s, I s → (∃ s', body s = some (.inl s') ∧ I s' ∧ μ s' < μ s) ∨ body s = some (.inr v)) : LoopT body s = some v := by
  obtain ⟨r, h1, h2⟩ := LoopT_inv I (fun r => r = v) μ h0 (fun s hs => (hb s hs).imp id fun h => ⟨v, h, rfl⟩)
  rw [h1, h2]

/-- a loop over a list, by what it comes to on the rest of the list -/
theorem loop_list {α β : Type} (s : List α) (mk : β → Int → ι) (I : β → Nat → Prop) (F : β → List α → Option R)
    (hnil : ∀ acc, I acc s.length → ∃ v, body (mk acc s.length) = some (.inr v) ∧ F acc [] = some v)
    (hcons : ∀ acc (i : Nat) x r, I acc i → s.drop i = x :: r → i < s.length → s[i]? = some x →
      (∃ acc', I acc' (i + 1) ∧ body (mk acc i) = some (.inl (mk acc' ((i + 1 : Nat) : Int))) ∧ F acc (x :: r) = F acc' r) ∨ (∃ v, body (mk acc i) = some (.inr v) ∧ F acc (x :: r) = some v))
    (acc : β) (h0 : I acc 0) : LoopT body (mk acc 0) = F acc s := by
  have : ∀ k i acc, i + k = s.length → I acc i → LoopT body (mk acc (i : Nat)) = F acc (s.drop i) := by
    intro k
    induction k with
    | zero =>
      intro i acc hi hI
      simp only [Nat.add_zero] at hi
      subst hi
      obtain ⟨v, h1, h2⟩ := hnil acc hI
      rw [LoopT_eq, h1, List.drop_length, h2]
    | succ k ih =>
      intro i acc hi hI
      have hl : i < s.length := by omega
      have hd := List.drop_eq_getElem_cons hl
      rw [hd]
      rcases hcons acc i _ _ hI hd hl (List.getElem?_eq_getElem hl) with ⟨acc', h1, h2, h3⟩ | ⟨v, h1, h2⟩
      · rw [LoopT_eq, h2, h3]
        exact ih (i + 1) acc' (by omega) h1
      · rw [LoopT_eq, h1, h2]
  have := this s.length 0 acc (by omega) h0
  simpa using this

@[simp] theorem ixO_nat (l : List α) (i : Nat) : ixO l (i : Int) = l[i]? := by
  unfold ixO
  rw [if_neg (by omega)]
  simp
theorem ixO_pos (l : List α) {i : Int} (h : 0 ≤ i) : ixO l i = l[i.toNat]? := by
  unfold ixO
  rw [if_neg (by omega)]
@[simp] theorem ixO_succ (l : List α) (i : Nat) : ixO l ((i : Int) + 1) = l[i + 1]? := by
  have := ixO_nat l (i + 1)
  simpa using this
@[simp] theorem ixO_zero (l : List α) : ixO l 0 = l[0]? := ixO_pos l (Int.le_refl 0)
theorem wrap64 {n : Int} (h0 : -9223372036854775808 ≤ n) (h1 : n ≤ 9223372036854775807) : IntKind.i64.wrap n = n := wrap_id h0 h1
@[simp] theorem wrap_0 : IntKind.i64.wrap 0 = 0 := by decide
@[simp] theorem wrap_1 : IntKind.i64.wrap 1 = 1 := by decide
@[simp] theorem wrap_2 : IntKind.i64.wrap 2 = 2 := by decide
@[simp] theorem wrap_3 : IntKind.i64.wrap 3 = 3 := by decide
theorem wrap_succ {i : Nat} (h : i < 9223372036854775807) : IntKind.i64.wrap ((i : Int) + 1) = ((i + 1 : Nat) : Int) := by
  rw [wrap64 (by omega) (by omega)]; rfl
@[simp] theorem lft_some (r : R) : (lft (some r) : Option (ι ⊕ R)) = some (.inr r) := rfl
@[simp] theorem lft_none : (lft none : Option (ι ⊕ R)) = none := rfl
@[simp] theorem cnt_def (s : ι) : (cnt s : Option (ι ⊕ R)) = some (.inl s) := rfl
theorem wrap_pred {i : Nat} (h : i < 9223372036854775807) : IntKind.i64.wrap (((i + 1 : Nat) : Int) - 1) = (i : Int) := by
  rw [wrap64 (by omega) (by omega)]; omega
theorem mid_eq {a : Int} (h0 : 0 ≤ a) (h1 : a ≤ 9223372036854775807) : IntKind.i64.wrap ((IntKind.u64.wrap (IntKind.i64.wrap a)).fdiv (2 ^ (Nat.min (1 : Int).toNat IntKind.u64.bits))) = a / 2 := by
  rw [wrap64 (by omega) h1]
  have e1 : IntKind.u64.wrap a = a := by simp [IntKind.wrap, IntKind.signed, IntKind.bits]; omega
  have e2 : (2 : Int) ^ (Nat.min (1 : Int).toNat IntKind.u64.bits) = 2 := by decide
  rw [e1, e2, Int.fdiv_eq_ediv_of_nonneg _ (by omega), wrap64 (by omega) (by omega)]
theorem maxI_eq (a b : Int) : maxI a b = max a b := by unfold maxI; split <;> omega
theorem minI_eq (a b : Int) : minI a b = min a b := by unfold minI; split <;> omega
end

/-- two lists of one length that differ: where they do first -/
theorem first_diff {α : Type} {a b : List α} (hl : a.length = b.length) (hne : a ≠ b) : ∃ (m : Nat) (x y : α), a[m]? = some x ∧ b[m]? = some y ∧ x ≠ y ∧ ∀ i : Nat, i < m → ∃ z, a[i]? = some z ∧ b[i]? = some z := by
  induction a generalizing b with
  | nil => cases b with
    | nil => exact (hne rfl).elim
    | cons y b => simp at hl
  | cons x a ih => cases b with
    | nil => simp at hl
    | cons y b =>
      by_cases hxy : x = y
      · subst hxy
        obtain ⟨m, x', y', h1, h2, h3, h4⟩ := ih (b := b) (by simpa using hl) (fun e => hne (by rw [e]))
        refine ⟨m + 1, x', y', by simpa using h1, by simpa using h2, h3, fun i hi => ?_⟩
        cases i with
        | zero => exact ⟨x, rfl, rfl⟩
        | succ i => simpa using h4 i (by omega)
      · exact ⟨0, x, y, rfl, rfl, hxy, fun i hi => absurd hi (Nat.not_lt_zero _)⟩

/-- what a loop over a list of numbered places collects -/
theorem take_succ_map {α β : Type} (f : α → β) {l : List α} {i : Nat} {x : α} (h : l[i]? = some x) : (l.take (i + 1)).map f = (l.take i).map f ++ [f x] := by
  obtain ⟨hl, rfl⟩ := List.getElem?_eq_some_iff.1 h
  rw [List.take_succ_eq_append_getElem hl, List.map_append]; rfl
end Go.Dw
namespace Go.Dw
open Go

/-- the program ends, and P holds of what it gives -/
def Hs {α : Type} (m : Option α) (P : α → Prop) : Prop := ∃ r, m = some r ∧ P r

section
variable {α β ι R : Type}
theorem Hs.pure {a : α} {P : α → Prop} (h : P a) : Hs (some a) P := ⟨a, rfl, h⟩
theorem Hs.bind {m : Option α} {f : α → Option β} {P : α → Prop} {Q : β → Prop} (h : Hs m P) (hf : ∀ r, P r → Hs (f r) Q) : Hs (m.bind f) Q := by
  obtain ⟨r, rfl, hr⟩ := h
  exact hf r hr
theorem Hs.mono {m : Option α} {P Q : α → Prop} (h : Hs m P) (hf : ∀ r, P r → Q r) : Hs m Q := by
  obtain ⟨r, h1, hr⟩ := h
  exact ⟨r, h1, hf r hr⟩
theorem Hs.chk {p : Prop} [Decidable p] {m : Option α} {P : α → Prop} (hp : p) (h : Hs m P) : Hs (chk p m) P := by
  rw [chk_pos hp]; exact h
theorem Hs.cond {b : Bool} {x y : Option α} {P : α → Prop} (h1 : b = true → Hs x P) (h2 : b = false → Hs y P) : Hs (bif b then x else y) P := by
  cases b
  · exact h2 rfl
  · exact h1 rfl
theorem Hs.dec {p : Prop} [Decidable p] {x y : Option α} {P : α → Prop} (h1 : p → Hs x P) (h2 : ¬ p → Hs y P) : Hs (bif decide p then x else y) P :=
  Hs.cond (fun h => h1 (of_decide_eq_true h)) (fun h => h2 (of_decide_eq_false h))
theorem Hs.beq {a b : Int} {x y : Option α} {P : α → Prop} (h1 : a = b → Hs x P) (h2 : a ≠ b → Hs y P) : Hs (bif a == b then x else y) P :=
  Hs.cond (fun h => h1 (by simpa using h)) (fun h => h2 (by simpa using h))
theorem Hs.bne {a b : Int} {x y : Option α} {P : α → Prop} (h1 : a ≠ b → Hs x P) (h2 : a = b → Hs y P) : Hs (bif a != b then x else y) P :=
  Hs.cond (fun h => h1 (by simpa using h)) (fun h => h2 (by simpa using h))
theorem Hs.cnt {s : ι} {P : ι ⊕ R → Prop} (h : P (.inl s)) : Hs (Go.Dw.cnt s) P := ⟨_, rfl, h⟩
theorem Hs.lft {m : Option R} {P : ι ⊕ R → Prop} (h : Hs m fun r => P (.inr r)) : Hs (Go.Dw.lft m) P := by
  obtain ⟨r, rfl, h⟩ := h
  exact ⟨_, rfl, h⟩
/-- what a round gives: the next state, closer to the end, or the result -/
def Rnd (I : ι → Prop) (μ : ι → Nat) (s : ι) (Q : R → Prop) : ι ⊕ R → Prop
  | .inl s' => I s' ∧ μ s' < μ s
  | .inr r => Q r
theorem Hs.loop {body : ι → Option (ι ⊕ R)} {s : ι} {Q : R → Prop} (I : ι → Prop) (μ : ι → Nat) (h0 : I s) (hb : ∀ s, I s → Hs (body s) (Rnd I μ s Q)) : Hs (LoopT body s) Q := by
  refine LoopT_inv I Q μ h0 fun s hs => ?_
  obtain ⟨z, hz, hq⟩ := hb s hs
  cases z with
  | inl s' => exact .inl ⟨s', hz, hq⟩
  | inr r => exact .inr ⟨r, hz, hq⟩
theorem Hs.get {l : List α} {i : Int} {P : α → Prop} (h0 : 0 ≤ i) (h1 : i < l.length) (h : ∀ x, l[i.toNat]? = some x → P x) : Hs (l[i.toNat]?) P := by
  have : l[i.toNat]? = some (l[i.toNat]'(by omega)) := List.getElem?_eq_getElem _
  exact ⟨_, this, h _ this⟩
theorem Hs.ix {l : List α} {i : Int} {P : α → Prop} (h0 : 0 ≤ i) (h1 : i < l.length) (h : ∀ x, l[i.toNat]? = some x → P x) : Hs (ixO l i) P := by
  rw [ixO_pos _ h0]; exact Hs.get h0 h1 h
end
theorem u64_rng (n : Int) : 0 ≤ IntKind.u64.wrap n ∧ IntKind.u64.wrap n < 18446744073709551616 := by
  simp [IntKind.wrap, IntKind.signed, IntKind.bits]; omega
end Go.Dw
namespace Go.Proofs.YtcelninhkmhjkaaDoor
open Go Go.Dw Go.Proofs

attribute [local simp] chk_pos Bool.cond_eq_ite

theorem good_eq (n : Int) : ref04_good n = some (decide (0 ≤ n ∧ n < 512)) := by
  unfold ref04_good
  by_cases h : 0 ≤ n <;> simp [h]

theorem good_true {n : Int} (h : 0 ≤ n ∧ n < 512) : ref04_good n = some true := by rw [good_eq, decide_eq_true h]
theorem good_false {n : Int} (h : ¬ (0 ≤ n ∧ n < 512)) : ref04_good n = some false := by rw [good_eq, decide_eq_false h]

theorem has_eq (s : List Int) (n : Int) (hs : s.length ≤ 9223372036854775807) : ref04_Has s n = some (decide (n ∈ s)) := by
  unfold ref04_Has
  refine loop_list s (fun (_ : Unit) i => i) (fun _ _ => True) (fun _ l => some (decide (n ∈ l))) (fun _ _ => ⟨_, by simp [ref04_Has_b1], rfl⟩) (fun _ i x r _ hd hi hx => ?_) () trivial
  have w := wrap_succ (show i < 9223372036854775807 by omega)
  by_cases h : x = n
  · exact .inr ⟨true, by simp [ref04_Has_b1, hi, List.getElem?_eq_some_iff.1 hx, (List.getElem?_eq_some_iff.1 hx).2, h], by simp [h]⟩
  · refine .inl ⟨(), trivial, ?_, ?_⟩
    · obtain ⟨_, rfl⟩ := List.getElem?_eq_some_iff.1 hx
      simp [ref04_Has_b1, hi, h, w]
    · have : n ≠ x := fun e => h e.symm
      simp [this]

/-- a number put into an ascending list -/
def insN (n : Int) : List Int → List Int
  | [] => [n]
  | x :: r => if x < n then x :: insN n r else if x = n then x :: r else n :: x :: r
theorem insN_length (n : Int) : ∀ s, (insN n s).length ≤ s.length + 1
  | [] => by simp [insN]
  | x :: r => by
    have := insN_length n r
    simp only [insN]
    split
    · simp; omega
    · split <;> simp

def addN (n : Int) (s : List Int) : List Int := if 0 ≤ n ∧ n < 512 then insN n s else s

theorem add_eq (s : List Int) (n : Int) (hs : s.length ≤ 1000000) : ref04_Add s n = some (addN n s) := by
  unfold ref04_Add addN
  rw [good_eq]
  simp only [Option.bind_some]
  have key : ∀ d : Bool, LoopT (fun s_1 : List Int × Bool × Int => ref04_Add_b1 s n s_1.1 s_1.2.1 s_1.2.2) ([], d, 0) = some (if d then s else insN n s) := by
    intro d
    have := loop_list (body := fun s_1 : List Int × Bool × Int => ref04_Add_b1 s n s_1.1 s_1.2.1 s_1.2.2) s (fun (p : List Int × Bool) i => (p.1, p.2, i)) (fun p i => p.1.length ≤ i + (if p.2 then 1 else 0)) (fun p l => some (p.1 ++ (if p.2 then l else insN n l)))
      (fun p hp => by
        obtain ⟨out, done⟩ := p
        cases done <;> simp only [if_true, Bool.false_eq_true, if_false] at hp
        · exact ⟨out ++ [n], by simp [ref04_Add_b1, show out.length ≤ 16777215 by omega], by simp [insN]⟩
        · exact ⟨out, by simp [ref04_Add_b1], by simp⟩)
      (fun p i x r hp hd hi hx => by
        obtain ⟨out, done⟩ := p
        have w := wrap_succ (show i < 9223372036854775807 by omega)
        obtain ⟨_, rfl⟩ := List.getElem?_eq_some_iff.1 hx
        left
        cases done <;> simp only [if_true, Bool.false_eq_true, if_false] at hp
        · by_cases h1 : n ≤ s[i]
          · by_cases h2 : n < s[i]
            · refine ⟨(out ++ [n] ++ [s[i]], true), by simp; omega, ?_, ?_⟩
              · simp [ref04_Add_b1, ref04_Add_j3, ref04_Add_j2, hi, h1, h2, w, show out.length ≤ 16777215 by omega, show out.length ≤ 16777214 by omega]
              · simp [insN, show ¬ s[i] < n by omega, show ¬ s[i] = n by omega]
            · refine ⟨(out ++ [s[i]], true), by simp; omega, ?_, ?_⟩
              · simp [ref04_Add_b1, ref04_Add_j3, ref04_Add_j2, hi, h1, h2, w, show out.length ≤ 16777215 by omega]
              · simp [insN, show ¬ s[i] < n by omega, show s[i] = n by omega]
          · refine ⟨(out ++ [s[i]], false), by simp; omega, ?_, ?_⟩
            · simp [ref04_Add_b1, ref04_Add_j3, ref04_Add_j2, hi, h1, w, show out.length ≤ 16777215 by omega]
            · simp [insN, show s[i] < n by omega]
        · refine ⟨(out ++ [s[i]], true), by simp; omega, ?_, ?_⟩
          · simp [ref04_Add_b1, ref04_Add_j3, ref04_Add_j2, hi, w, show out.length ≤ 16777215 by omega]
          · simp)
      ([], d) (by simp)
    simpa using this
  rw [key]
  by_cases h : 0 ≤ n ∧ n < 512 <;> simp [h]

/-- a list is a set: ascending, its numbers from 0 to 511 -/
def ascB : Option Int → List Int → Bool
  | _, [] => true
  | p, x :: r => decide (0 ≤ x ∧ x < 512) && (match p with | none => true | some y => decide (y < x)) && ascB (some x) r

theorem check_eq (s : List Int) (hs : s.length ≤ 9223372036854775807) : ref04_Check s = some (ascB none s) := by
  unfold ref04_Check
  refine loop_list s (fun (_ : Option Int) i => i) (fun p i => match i with | 0 => p = none | k + 1 => s[k]? = p ∧ p ≠ none) (fun p l => some (ascB p l)) (fun _ _ => ⟨true, by simp [ref04_Check_b1], by simp [ascB]⟩) (fun p i x r hp hd hi hx => ?_) none rfl
  have w := wrap_succ (show i < 9223372036854775807 by omega)
  obtain ⟨_, rfl⟩ := List.getElem?_eq_some_iff.1 hx
  by_cases hg : 0 ≤ s[i] ∧ s[i] < 512
  · cases i with
    | zero =>
      simp only at hp
      subst hp
      exact .inl ⟨some s[0], ⟨hx, by simp⟩, by simp [ref04_Check_b1, hi, good_true hg], by simp [ascB, hg]⟩
    | succ k =>
      obtain ⟨hp, hpn⟩ := hp
      have hk : k < s.length := by omega
      rw [List.getElem?_eq_getElem hk] at hp
      subst hp
      have w : IntKind.i64.wrap ((k : Int) + 1 + 1) = (k : Int) + 1 + 1 := wrap64 (by omega) (by omega)
      have wp : IntKind.i64.wrap (k : Int) = k := wrap64 (by omega) (by omega)
      have e0 : (k : Int) + 1 - 1 = k := by omega
      by_cases hlt : s[k] < s[k + 1]
      · exact .inl ⟨some s[k + 1], ⟨hx, by simp⟩, by simp [ref04_Check_b1, hi, good_true hg, w, wp, e0, hk, show ¬ s[k + 1] ≤ s[k] by omega, show (0 : Int) < k + 1 by omega, show (k : Int) + 1 < s.length by omega], by simp [ascB, hg, hlt]⟩
      · exact .inr ⟨false, by simp [ref04_Check_b1, hi, good_true hg, w, wp, e0, hk, show s[k + 1] ≤ s[k] by omega, show (0 : Int) < k + 1 by omega, show (k : Int) + 1 < s.length by omega], by simp [ascB, hlt]⟩
  · exact .inr ⟨false, by simp [ref04_Check_b1, hi, good_false hg], by simp [ascB, hg]⟩

/-- ascending, from 0 to 511 -/
def IsSet (s : List Int) : Prop := s.Pairwise (· < ·) ∧ ∀ x ∈ s, 0 ≤ x ∧ x < 512
theorem ascB_iff : ∀ (p : Option Int) (s : List Int), ascB p s = true ↔ IsSet s ∧ ∀ y, p = some y → ∀ x ∈ s, y < x
  | p, [] => by simp [ascB, IsSet]
  | p, x :: r => by
    simp only [ascB, Bool.and_eq_true, ascB_iff (some x) r, decide_eq_true_eq, IsSet, List.pairwise_cons, List.mem_cons, forall_eq_or_imp, Option.some.injEq]
    constructor
    · rintro ⟨⟨h1, h2⟩, ⟨h3, h4⟩, h5⟩
      have h5' := h5 x rfl
      refine ⟨⟨⟨h5', h3⟩, h1, h4⟩, fun y hy => ?_⟩
      subst hy
      simp only [decide_eq_true_eq] at h2
      exact ⟨h2, fun z hz => Int.lt_trans h2 (h5' z hz)⟩
    · rintro ⟨⟨⟨h1, h2⟩, h3, h4⟩, h5⟩
      refine ⟨⟨h3, ?_⟩, ⟨h2, h4⟩, fun y hy z hz => by subst hy; exact h1 z hz⟩
      cases p with
      | none => rfl
      | some y => simpa using (h5 y rfl).1
theorem asc_iff (s : List Int) : ascB none s = true ↔ IsSet s := by
  rw [ascB_iff]; simp
theorem IsSet.length_le {s : List Int} (h : IsSet s) : s.length ≤ 512 := by
  have : ∀ (s : List Int) (a : Int), s.Pairwise (· < ·) → (∀ x ∈ s, a ≤ x ∧ x < 512) → a ≤ 512 → (s.length : Int) ≤ 512 - a := by
    intro s
    induction s with
    | nil => intro a _ _ ha; simp; omega
    | cons x r ih =>
      intro a hp hb ha
      rw [List.pairwise_cons] at hp
      have hx := hb x (by simp)
      have := ih (x + 1) hp.2 (fun y hy => ⟨by have := hp.1 y hy; omega, (hb y (by simp [hy])).2⟩) (by omega)
      simp only [List.length_cons]
      omega
  have := this s 0 h.1 h.2 (by omega)
  omega
theorem mem_insN (n m : Int) : ∀ s, m ∈ insN n s ↔ m = n ∨ m ∈ s
  | [] => by simp [insN]
  | x :: r => by
    simp only [insN]
    split
    · simp only [List.mem_cons, mem_insN n m r]
      constructor
      · rintro (h | h | h) <;> simp [h]
      · rintro (h | h | h) <;> simp [h]
    · split
      · rename_i h; subst h; simp
      · simp
theorem IsSet.insN {n : Int} {s : List Int} (h : IsSet s) (hn : 0 ≤ n ∧ n < 512) : IsSet (Proofs.YtcelninhkmhjkaaDoor.insN n s) := by
  refine ⟨?_, fun x hx => ?_⟩
  · replace h := h.1
    clear hn
    induction s with
    | nil => simp [Proofs.YtcelninhkmhjkaaDoor.insN]
    | cons x r ih =>
      rw [List.pairwise_cons] at h
      simp only [Proofs.YtcelninhkmhjkaaDoor.insN]
      split
      · rw [List.pairwise_cons]
        refine ⟨fun y hy => ?_, ih h.2⟩
        rw [mem_insN] at hy
        rcases hy with rfl | hy
        · assumption
        · exact h.1 y hy
      · split
        · rw [List.pairwise_cons]; exact h
        · rw [List.pairwise_cons, List.pairwise_cons]
          refine ⟨fun y hy => ?_, h⟩
          rcases List.mem_cons.1 hy with rfl | hy
          · omega
          · have := h.1 y hy; omega
  · rw [mem_insN] at hx
    rcases hx with rfl | hx
    · exact hn
    · exact h.2 x hx
theorem IsSet.nil : IsSet [] := ⟨List.Pairwise.nil, fun x hx => by cases hx⟩

end Go.Proofs.YtcelninhkmhjkaaDoor
namespace Go.Proofs.YtcelninhkmhjkaaDoor
open Go Go.Dw Go.Proofs

attribute [local simp] chk_pos Bool.cond_eq_ite

theorem within_eq (n : Int) : bitset_within_int n = some (decide (0 ≤ n ∧ n < 512)) := by
  unfold bitset_within_int
  by_cases h : 0 ≤ n <;> simp [h]
theorem within_true {n : Int} (h : 0 ≤ n ∧ n < 512) : bitset_within_int n = some true := by rw [within_eq, decide_eq_true h]
theorem within_false {n : Int} (h : ¬ (0 ≤ n ∧ n < 512)) : bitset_within_int n = some false := by rw [within_eq, decide_eq_false h]
theorem bcheck_eq (s : List Int) (hs : s.length ≤ 9223372036854775807) : bitset_Check s = some (ascB none s) := by
  unfold bitset_Check
  refine loop_list s (fun (_ : Option Int) i => i) (fun p i => match i with | 0 => p = none | k + 1 => s[k]? = p ∧ p ≠ none) (fun p l => some (ascB p l)) (fun _ _ => ⟨true, by simp [bitset_Check_b1], by simp [ascB]⟩) (fun p i x r hp hd hi hx => ?_) none rfl
  have w := wrap_succ (show i < 9223372036854775807 by omega)
  obtain ⟨_, rfl⟩ := List.getElem?_eq_some_iff.1 hx
  by_cases hg : 0 ≤ s[i] ∧ s[i] < 512
  · cases i with
    | zero =>
      simp only at hp
      subst hp
      exact .inl ⟨some s[0], ⟨hx, by simp⟩, by simp [bitset_Check_b1, hi, within_true hg], by simp [ascB, hg]⟩
    | succ k =>
      obtain ⟨hp, hpn⟩ := hp
      have hk : k < s.length := by omega
      rw [List.getElem?_eq_getElem hk] at hp
      subst hp
      have w : IntKind.i64.wrap ((k : Int) + 1 + 1) = (k : Int) + 1 + 1 := wrap64 (by omega) (by omega)
      have wp : IntKind.i64.wrap (k : Int) = k := wrap64 (by omega) (by omega)
      have e0 : (k : Int) + 1 - 1 = k := by omega
      by_cases hlt : s[k] < s[k + 1]
      · exact .inl ⟨some s[k + 1], ⟨hx, by simp⟩, by simp [bitset_Check_b1, hi, within_true hg, w, wp, e0, hk, show ¬ s[k + 1] ≤ s[k] by omega, show (0 : Int) < k + 1 by omega, show (k : Int) + 1 < s.length by omega], by simp [ascB, hg, hlt]⟩
      · exact .inr ⟨false, by simp [bitset_Check_b1, hi, within_true hg, w, wp, e0, hk, show s[k + 1] ≤ s[k] by omega, show (0 : Int) < k + 1 by omega, show (k : Int) + 1 < s.length by omega], by simp [ascB, hlt]⟩
  · exact .inr ⟨false, by simp [bitset_Check_b1, hi, within_false hg], by simp [ascB, hg]⟩
end Go.Proofs.YtcelninhkmhjkaaDoor
namespace Go.Proofs.YtcelninhkmhjkaaDoor
open Go Go.Dw Go.Proofs

attribute [local simp] chk_pos Bool.cond_eq_ite

theorem same_eq (a b : List Int) (h : a.length ≤ 9223372036854775807) : ref04_Same a b = some (decide (a = b)) := by
  unfold ref04_Same
  by_cases hl : a.length = b.length
  · have := loop_list (body := fun i : Int => ref04_Same_b1 a b i) a (fun (_ : List Int) i => i) (fun acc i => b.drop i = acc) (fun acc l => some (decide (l = acc)))
      (fun acc hacc => ⟨true, by simp [ref04_Same_b1], by rw [hl] at hacc; simp at hacc; simp [← hacc]⟩) (fun acc i x r hacc hd hi hx => by
        have w := wrap_succ (show i < 9223372036854775807 by omega)
        obtain ⟨_, rfl⟩ := List.getElem?_eq_some_iff.1 hx
        have hib : i < b.length := by omega
        have hdb := List.drop_eq_getElem_cons hib
        by_cases e : a[i] = b[i]
        · exact .inl ⟨b.drop (i + 1), rfl, by simp [ref04_Same_b1, hi, hib, e, w], by rw [← hacc, hdb]; simp only [List.cons.injEq, e, true_and]⟩
        · exact .inr ⟨false, by simp [ref04_Same_b1, hi, hib, e], by rw [← hacc, hdb]; simp only [List.cons.injEq, e, false_and, decide_false]⟩)
      b (by simp)
    simpa [hl] using this
  · have : ¬ a = b := fun e => hl (by rw [e])
    simp [this, show ¬ (a.length : Int) = b.length by omega]

end Go.Proofs.YtcelninhkmhjkaaDoor
namespace Go.Proofs.YtcelninhkmhjkaaDoor
open Go Go.Dw Go.Proofs

attribute [local simp] chk_pos Bool.cond_eq_ite

theorem sameall_eq (a b : List (List Int)) (h : a.length ≤ 9223372036854775807) (hr : ∀ s ∈ a, s.length ≤ 9223372036854775807) : ref04_SameAll a b = some (decide (a = b)) := by
  unfold ref04_SameAll
  by_cases hl : a.length = b.length
  · have := loop_list (body := fun i : Int => ref04_SameAll_b1 a b i) a (fun (_ : List (List Int)) i => i) (fun acc i => b.drop i = acc) (fun acc l => some (decide (l = acc)))
      (fun acc hacc => ⟨true, by simp [ref04_SameAll_b1], by rw [hl] at hacc; simp at hacc; simp [← hacc]⟩) (fun acc i x r hacc hd hi hx => by
        have w := wrap_succ (show i < 9223372036854775807 by omega)
        obtain ⟨_, rfl⟩ := List.getElem?_eq_some_iff.1 hx
        have hib : i < b.length := by omega
        have hdb := List.drop_eq_getElem_cons hib
        have hs := same_eq a[i] b[i] (hr _ (List.getElem_mem _))
        by_cases e : a[i] = b[i]
        · refine .inl ⟨b.drop (i + 1), rfl, ?_, by rw [← hacc, hdb]; simp only [List.cons.injEq, e, true_and]⟩
          rw [decide_eq_true e] at hs
          simp [ref04_SameAll_b1, hi, hib, hs, w]
        · refine .inr ⟨false, ?_, by rw [← hacc, hdb]; simp only [List.cons.injEq, e, false_and, decide_false]⟩
          rw [decide_eq_false e] at hs
          simp [ref04_SameAll_b1, hi, hib, hs])
      b (by simp)
    simpa [hl] using this
  · have : ¬ a = b := fun e => hl (by rw [e])
    simp [this, show ¬ (a.length : Int) = b.length by omega]

end Go.Proofs.YtcelninhkmhjkaaDoor
namespace Go.Proofs.YtcelninhkmhjkaaDoor
open Go Go.Dw Go.Proofs

attribute [local simp] chk_pos Bool.cond_eq_ite

theorem remove_eq (s : List Int) (n : Int) (hs : s.length ≤ 16777215) : ref04_Remove s n = some (s.filter (· != n)) := by
  unfold ref04_Remove
  have := loop_list (body := fun p : List Int × Int => ref04_Remove_b1 s n p.1 p.2) s (fun (out : List Int) i => (out, i)) (fun out i => out.length ≤ i) (fun out l => some (out ++ l.filter (· != n)))
    (fun out _ => ⟨out, by simp [ref04_Remove_b1], by simp⟩) (fun out i x r ho hd hi hx => by
      have w := wrap_succ (show i < 9223372036854775807 by omega)
      obtain ⟨_, rfl⟩ := List.getElem?_eq_some_iff.1 hx
      left
      by_cases h : s[i] = n
      · exact ⟨out, by omega, by simp [ref04_Remove_b1, hi, h, w], by simp [h]⟩
      · exact ⟨out ++ [s[i]], by simp; omega, by simp [ref04_Remove_b1, hi, h, w, show out.length ≤ 16777215 by omega], by simp [h]⟩)
    [] (by simp)
  simpa using this

/-- the union, element by element -/
def unionN (a b : List Int) : List Int := b.foldl (fun o x => addN x o) a
theorem addN_length (n : Int) (s : List Int) : (addN n s).length ≤ s.length + 1 := by
  unfold addN
  split
  · exact insN_length n s
  · omega
theorem union_eq (a b : List Int) (h : a.length + b.length ≤ 1000000) : ref04_Union a b = some (unionN a b) := by
  unfold ref04_Union unionN
  rw [chk_pos (by simp; omega)]
  have := loop_list (body := fun p : List Int × Int => ref04_Union_b1 b p.1 p.2) b (fun (out : List Int) i => (out, i)) (fun out i => out.length ≤ a.length + i) (fun out l => some (l.foldl (fun o x => addN x o) out))
    (fun out _ => ⟨out, by simp [ref04_Union_b1], by simp⟩) (fun out i x r ho hd hi hx => by
      have w := wrap_succ (show i < 9223372036854775807 by omega)
      obtain ⟨_, rfl⟩ := List.getElem?_eq_some_iff.1 hx
      have hl := addN_length b[i] out
      left
      exact ⟨addN b[i] out, by omega, by simp [ref04_Union_b1, hi, add_eq out b[i] (by omega), w], by simp⟩)
    a (by simp)
  simpa using this

/-- an ascending list in another one -/
theorem asc_sub : ∀ {a b : List Int}, a.Pairwise (· < ·) → b.Pairwise (· < ·) → (∀ v ∈ a, v ∈ b) → a.Sublist b
  | [], _, _, _, _ => List.nil_sublist _
  | x :: a, [], _, _, h => by have := h x (List.mem_cons_self ..); cases this
  | x :: a, y :: b, ha, hb, h => by
    rw [List.pairwise_cons] at ha hb
    by_cases e : x = y
    · subst e
      refine (asc_sub ha.2 hb.2 fun v hv => ?_).cons_cons x
      rcases List.mem_cons.1 (h v (List.mem_cons_of_mem _ hv)) with h1 | h1
      · have := ha.1 v hv; omega
      · exact h1
    · have hx : x ∈ b := by
        rcases List.mem_cons.1 (h x (List.mem_cons_self ..)) with h1 | h1
        · exact (e h1).elim
        · exact h1
      have hyx := hb.1 x hx
      refine (asc_sub (List.pairwise_cons.2 ha) hb.2 fun v hv => ?_).cons y
      rcases List.mem_cons.1 (h v hv) with h1 | h1
      · subst h1
        rcases List.mem_cons.1 hv with h2 | h2
        · omega
        · have := ha.1 v h2; omega
      · exact h1
theorem IsSet.sub {a b : List Int} (ha : IsSet a) (hb : IsSet b) (h : ∀ v ∈ a, v ∈ b) : a.Sublist b := asc_sub ha.1 hb.1 h
theorem IsSet.ext {a b : List Int} (ha : IsSet a) (hb : IsSet b) (h : ∀ v, v ∈ a ↔ v ∈ b) : a = b :=
  (ha.sub hb fun v hv => (h v).1 hv).eq_of_length_le (hb.sub ha fun v hv => (h v).2 hv).length_le
theorem IsSet.filter {a : List Int} (ha : IsSet a) (p : Int → Bool) : IsSet (a.filter p) :=
  ⟨ha.1.sublist List.filter_sublist, fun x hx => ha.2 x ((List.mem_filter.1 hx).1)⟩
theorem SetIn.addU {n m : Int} {s : List Int} (h : IsSet s ∧ ∀ x ∈ s, x < n) (hm : 0 ≤ m ∧ m < n) (hn : n ≤ 512) : IsSet (addN m s) ∧ (∀ x ∈ addN m s, x < n) ∧ ∀ v, v ∈ addN m s ↔ v = m ∨ v ∈ s := by
  unfold addN
  rw [if_pos (by omega)]
  refine ⟨h.1.insN (by omega), fun x hx => ?_, fun v => mem_insN _ _ _⟩
  rw [mem_insN] at hx
  rcases hx with rfl | hx
  · exact hm.2
  · exact h.2 x hx
theorem unionN_set {n : Int} (hn : n ≤ 512) : ∀ {b a : List Int}, (IsSet a ∧ ∀ x ∈ a, x < n) → (∀ x ∈ b, 0 ≤ x ∧ x < n) → (IsSet (unionN a b) ∧ ∀ x ∈ unionN a b, x < n) ∧ ∀ v, v ∈ unionN a b ↔ v ∈ a ∨ v ∈ b
  | [], a, ha, _ => ⟨ha, fun v => by simp [unionN]⟩
  | x :: b, a, ha, hb => by
    obtain ⟨h1, h2, h3⟩ := SetIn.addU ha (hb x (List.mem_cons_self ..)) hn
    obtain ⟨h4, h5⟩ := unionN_set hn ⟨h1, h2⟩ fun y hy => hb y (List.mem_cons_of_mem _ hy)
    refine ⟨h4, fun v => ?_⟩
    show v ∈ unionN (addN x a) b ↔ _
    rw [h5, h3, List.mem_cons]
    constructor
    · rintro ((h | h) | h)
      · exact .inr (.inl h)
      · exact .inl h
      · exact .inr (.inr h)
    · rintro (h | h | h)
      · exact .inl (.inr h)
      · exact .inl (.inl h)
      · exact .inr h
end Go.Proofs.YtcelninhkmhjkaaDoor
namespace Go.Proofs.YtcelninhkmhjkaaDoor
open Go Go.Dw Go.Proofs

attribute [local simp] chk_pos Bool.cond_eq_ite

/-- a list is the set of the numbers below 512 of which P holds -/
def SetOf (l : List Int) (p : Int → Prop) : Prop := IsSet l ∧ ∀ v, v ∈ l ↔ (0 ≤ v ∧ v < 512) ∧ p v
theorem SetOf.eq {l m : List Int} {p q : Int → Prop} (h : SetOf l p) (k : SetOf m q) (e : ∀ v, 0 ≤ v → v < 512 → (p v ↔ q v)) : l = m :=
  h.1.ext k.1 fun v => by
    rw [h.2, k.2]
    exact ⟨fun ⟨a, b⟩ => ⟨a, (e v a.1 a.2).1 b⟩, fun ⟨a, b⟩ => ⟨a, (e v a.1 a.2).2 b⟩⟩
theorem SetOf.of_set {l : List Int} (h : IsSet l) : SetOf l (· ∈ l) := ⟨h, fun v => ⟨fun k => ⟨h.2 v k, k⟩, fun k => k.2⟩⟩
theorem SetOf.mono {l : List Int} {p q : Int → Prop} (h : SetOf l p) (e : ∀ v, 0 ≤ v → v < 512 → (p v ↔ q v)) : SetOf l q :=
  ⟨h.1, fun v => by rw [h.2]; exact ⟨fun ⟨a, b⟩ => ⟨a, (e v a.1 a.2).1 b⟩, fun ⟨a, b⟩ => ⟨a, (e v a.1 a.2).2 b⟩⟩⟩

abbrev BS := Tbitset_set_int_
def WellB (t : BS) : Prop := ∀ w ∈ t.toList, WW w
theorem BS.len (t : BS) : t.toList.length = 8 := rfl
def wordB (t : BS) (i : Nat) : Int := (t.toList[i]?).getD 0
def hasB (t : BS) (v : Int) : Bool := bitW (wordB t (v.toNat / 64)) (v.toNat % 64)
theorem wordB_get {t : BS} {i : Nat} (h : i < 8) : t.toList[i]? = some (wordB t i) := by
  have : t.toList[i]? = some (t.toList[i]'(show i < 8 from h)) := List.getElem?_eq_getElem _
  simp [wordB, this]
theorem WellB.word {t : BS} (h : WellB t) {i : Nat} (hi : i < 8) : WW (wordB t i) := h _ (List.mem_of_getElem? (wordB_get hi))
theorem wordB_set {t : BS} {i j : Nat} {w : Int} (hi : i < 8) : wordB (t.set i w) j = if i = j then w else wordB t j := by
  unfold wordB
  rw [Tbitset_set_int__set, List.getElem?_set]
  by_cases h : i = j
  · subst h
    simp [show i < (Tbitset_set_int_.toList t).length from hi]
  · simp [h]
theorem WellB.set {t : BS} (h : WellB t) {i : Nat} {w : Int} (hw : WW w) : WellB (t.set i w) := by
  intro x hx
  rw [Tbitset_set_int__set] at hx
  rcases List.mem_or_eq_of_mem_set hx with h1 | rfl
  · exact h x h1
  · exact hw
theorem WellB.zero : WellB ⟨0, 0, 0, 0, 0, 0, 0, 0⟩ := by
  intro w hw
  simp [Tbitset_set_int_.toList] at hw
  subst hw
  exact ⟨by omega, by omega⟩
theorem hasB_zero (v : Int) : hasB ⟨0, 0, 0, 0, 0, 0, 0, 0⟩ v = false := by
  have : wordB ⟨0, 0, 0, 0, 0, 0, 0, 0⟩ (v.toNat / 64) = 0 := by
    unfold wordB
    have hl : ∀ i : Nat, (([0, 0, 0, 0, 0, 0, 0, 0] : List Int)[i]?).getD 0 = 0 := by
      intro i
      match i with
      | 0 | 1 | 2 | 3 | 4 | 5 | 6 | 7 => rfl
      | n + 8 => rfl
    exact hl _
  unfold hasB
  rw [this]
  simp [bitW]

theorem rem64 (n : Int) : 0 ≤ (IntKind.u64.wrap n).tmod 64 ∧ (0 ≤ n → n < 512 → ((IntKind.u64.wrap n).tmod 64).toNat = n.toNat % 64) := by
  obtain ⟨h0, h1⟩ := u64_rng n
  rw [Int.tmod_eq_emod_of_nonneg h0]
  refine ⟨by omega, fun ha hb => ?_⟩
  rw [u64_id ⟨ha, by omega⟩]
  omega
theorem quo64 {n : Int} (h0 : 0 ≤ n) (h1 : n < 512) : IntKind.i64.wrap (n.tdiv 64) = ((n.toNat / 64 : Nat) : Int) := by
  rw [Int.tdiv_eq_ediv_of_nonneg h0, wrap64 (by omega) (by omega)]
  omega
theorem bit_eq {n : Int} (h0 : 0 ≤ n) (h1 : n < 512) : IntKind.u64.wrap (1 * 2 ^ (Nat.min ((IntKind.u64.wrap n).tmod 64).toNat IntKind.u64.bits)) = ((2 ^ (n.toNat % 64) : Nat) : Int) := by
  rw [(rem64 n).2 h0 h1]
  have e : Nat.min (n.toNat % 64) IntKind.u64.bits = n.toNat % 64 := Nat.min_eq_left (by show n.toNat % 64 ≤ 64; omega)
  rw [e, Int.one_mul]
  have hp : 2 ^ (n.toNat % 64) < 18446744073709551616 := by
    have := Nat.pow_lt_pow_right (a := 2) (by decide) (show n.toNat % 64 < 64 by omega)
    simpa using this
  have := u64_of_nat hp
  rw [Int.natCast_pow] at this ⊢
  exact this
theorem pow_WW (j : Nat) (h : j < 64) : 2 ^ j < 18446744073709551616 := by
  have := Nat.pow_lt_pow_right (a := 2) (by decide) h
  simpa using this
theorem idx_ne {n v : Int} (h0 : 0 ≤ n) (h0' : 0 ≤ v) (hne : v ≠ n) (h : n.toNat / 64 = v.toNat / 64) : v.toNat % 64 ≠ n.toNat % 64 := by omega

theorem put_hs {t : BS} (ht : WellB t) (n : Int) (b : Bool) : Hs (bitset_set_int_put t n b) fun r => WellB r ∧ ∀ v, 0 ≤ v → v < 512 → hasB r v = if v = n then b else hasB t v := by
  unfold bitset_set_int_put
  refine .chk (rem64 n).1 ?_
  rw [within_eq, Option.bind_some]
  by_cases h : 0 ≤ n ∧ n < 512
  · rw [decide_eq_true h]
    obtain ⟨h0, h1⟩ := h
    have hi : n.toNat / 64 < 8 := by omega
    have hb := bit_eq h0 h1
    have hw := ht.word hi
    have hp : WW ((2 ^ (n.toNat % 64) : Nat) : Int) := WW.nat (pow_WW _ (by omega))
    have fin : ∀ (x : Nat), x < 18446744073709551616 → (∀ j, j < 64 → x.testBit j = if j = n.toNat % 64 then b else (wordB t (n.toNat / 64)).toNat.testBit j) →
        WellB (t.set (n.toNat / 64) (x : Int)) ∧ ∀ v, 0 ≤ v → v < 512 → hasB (t.set (n.toNat / 64) (x : Int)) v = if v = n then b else hasB t v := by
      intro x hx hbit
      refine ⟨ht.set (WW.nat hx), fun v hv0 hv1 => ?_⟩
      unfold hasB
      rw [wordB_set hi]
      by_cases he : v = n
      · subst he
        rw [if_pos rfl, if_pos rfl]
        show (x : Int).toNat.testBit _ = b
        rw [Int.toNat_natCast, hbit _ (by omega), if_pos rfl]
      · rw [if_neg he]
        by_cases hq : n.toNat / 64 = v.toNat / 64
        · rw [if_pos hq]
          show (x : Int).toNat.testBit _ = _
          rw [Int.toNat_natCast, hbit _ (by omega), if_neg (idx_ne h0 hv0 he hq), hq]
          rfl
        · rw [if_neg hq]
    cases b with
    | true =>
      simp only [Bool.not_true, cond_false, cond_true]
      rw [quo64 h0 h1]
      refine .chk (by omega) ?_
      rw [Int.toNat_natCast, wordB_get hi, Option.bind_some]
      refine .chk (by omega) ?_
      rw [Option.bind_some]
      refine .pure ?_
      rw [hb, or_W hw hp, Int.toNat_natCast]
      refine fin _ (or_lt' hw.toNat_lt (pow_WW _ (by omega))) fun j hj => ?_
      rw [Nat.testBit_or, Nat.testBit_two_pow]
      by_cases e : j = n.toNat % 64
      · simp [e]
      · rw [if_neg e]
        simp [show ¬ n.toNat % 64 = j from fun h => e h.symm]
    | false =>
      simp only [Bool.not_true, cond_false]
      rw [quo64 h0 h1]
      refine .chk (by omega) ?_
      rw [Int.toNat_natCast, wordB_get hi, Option.bind_some]
      refine .chk (by omega) ?_
      rw [Option.bind_some]
      refine .pure ?_
      rw [hb, andNot_W hw hp, Int.toNat_natCast]
      refine fin _ (and_lt' hw.toNat_lt) fun j hj => ?_
      rw [clrN_bit hw.toNat_lt (pow_WW _ (by omega)), Nat.testBit_two_pow]
      by_cases e : j = n.toNat % 64
      · simp [e]
      · rw [if_neg e]
        simp [show ¬ n.toNat % 64 = j from fun h => e h.symm]
  · rw [decide_eq_false h]
    simp only [Bool.not_false, cond_true]
    exact .pure ⟨ht, fun v h0 h1 => by rw [if_neg (fun e => h (by omega))]⟩

theorem of_hs (l : List Int) (hl : l.length ≤ 9000000000000000000) : Hs (bitset_of_int l) fun r => WellB r ∧ ∀ v, 0 ≤ v → v < 512 → hasB r v = decide (v ∈ l) := by
  unfold bitset_of_int
  refine Hs.loop (fun s => WellB s.1 ∧ ∃ k : Nat, s.2 = (k : Int) ∧ k ≤ l.length ∧ ∀ v, 0 ≤ v → v < 512 → hasB s.1 v = decide (v ∈ l.take k)) (fun s => l.length - s.2.toNat) ⟨WellB.zero, 0, rfl, Nat.zero_le _, fun v _ _ => by simp [hasB_zero]⟩ ?_
  rintro ⟨t, k'⟩ ⟨ht, k, hk', hk, hall⟩
  simp only at ht hk' hall
  subst hk'
  unfold bitset_of_int_b1
  refine .dec (fun hlt => ?_) fun hge => ?_
  · have hlt : k < l.length := by omega
    refine Hs.bind (P := fun x => l[k]? = some x) ⟨l[k], by simp [hlt], by simp [hlt]⟩ fun x hx => (put_hs ht x true).bind fun r hr => .cnt ?_
    rw [wrap_succ (by omega)]
    refine ⟨⟨hr.1, k + 1, rfl, hlt, fun v h0 h1 => ?_⟩, by simp only; omega⟩
    simp only
    rw [hr.2 v h0 h1, hall v h0 h1, List.take_add_one, hx]
    by_cases e : v = x
    · simp [e]
    · simp [e]
  · have : k = l.length := by omega
    subst this
    exact .lft (.pure ⟨ht, fun v h0 h1 => by rw [hall v h0 h1, List.take_length]⟩)

theorem IsSet.snoc {l : List Int} (h : IsSet l) {z : Int} (h0 : 0 ≤ z ∧ z < 512) (hz : ∀ x ∈ l, x < z) : IsSet (l ++ [z]) := by
  refine ⟨List.pairwise_append.2 ⟨h.1, List.pairwise_singleton _ _, fun a ha b hb => ?_⟩, fun x hx => ?_⟩
  · simp only [List.mem_singleton] at hb; subst hb; exact hz a ha
  · simp only [List.mem_append, List.mem_singleton] at hx
    rcases hx with h1 | rfl
    · exact h.2 x h1
    · exact h0

theorem bs_list_hs {t : BS} (ht : WellB t) : Hs (bitset_set_int_list t) fun r => r.2 = t ∧ SetOf r.1 (fun v => hasB t v = true) := by
  unfold bitset_set_int_list
  refine Hs.loop (fun s => ∃ i : Nat, s.2 = (i : Int) ∧ i ≤ 8 ∧ SetOf s.1 (fun v => v < 64 * i ∧ hasB t v = true)) (fun s => 8 - s.2.toNat) ⟨0, rfl, by omega, ⟨IsSet.nil, fun v => by simp; omega⟩⟩ ?_
  rintro ⟨l, i'⟩ ⟨i, hi', hi, hs⟩
  simp only at hi' hs
  subst hi'
  unfold bitset_set_int_list_b1
  refine .dec (fun hlt => ?_) fun hge => ?_
  · have hlt : i < 8 := by omega
    refine .chk (by omega) ?_
    rw [Int.toNat_natCast, wordB_get hlt, Option.bind_some]
    have hw := ht.word hlt
    refine Hs.loop (fun s => WW s.2 ∧ ∃ c : Nat, c ≤ 64 ∧ SetOf s.1 (fun v => v < 64 * i + c ∧ hasB t v = true) ∧ ∀ j, j < 64 → bitW s.2 j = (decide (c ≤ j) && bitW (wordB t i) j)) (fun s => s.2.toNat) ⟨hw, 0, by omega, by simpa using hs, fun j _ => by simp⟩ ?_
    rintro ⟨m, x⟩ ⟨hx, c, hc, hm, hb⟩
    simp only at hx hm hb
    unfold bitset_set_int_list_b2
    refine .bne (fun hne => ?_) fun he => ?_
    · have hx0 : 0 < x.toNat := by have := hx.1; omega
      obtain ⟨k1, k2, k3, k4⟩ := low_bits hx0 hx.toNat_lt
      generalize hk : Lib.ctz 64 x.toNat = k at k1 k2 k3 k4
      have ek : tz64 x = some (k : Int) := by
        unfold tz64
        rw [chk_pos (show 0 ≤ x ∧ x < 18446744073709551616 from hx), hk]
      rw [ek, Option.bind_some]
      have hck : c ≤ k := by
        have := hb k k1
        unfold bitW at this
        rw [k2] at this
        simp at this
        exact this.1
      have hwk : bitW (wordB t i) k = true := by
        have := hb k k1
        unfold bitW at this
        rw [k2] at this
        simp at this
        exact this.2
      have e1 : IntKind.i64.wrap (IntKind.i64.wrap (64 * (i : Int)) + (k : Int)) = ((64 * i + k : Nat) : Int) := by
        rw [wrap64 (n := 64 * (i : Int)) (by omega) (by omega), wrap64 (by omega) (by omega)]; omega
      have e2 : IntKind.u64.wrap (x - 1) = x - 1 := u64_id ⟨by omega, by have := hx.2; omega⟩
      have e3 : (x - 1).toNat = x.toNat - 1 := by omega
      have hz : ∀ v ∈ m, v < ((64 * i + k : Nat) : Int) := fun v hv => by
        have := ((hm.2 v).1 hv).2.1
        omega
      have hlen := hm.1.length_le
      refine .chk (by simp; omega) (.cnt ?_)
      rw [e1, e2, and_W hx ⟨by omega, by have := hx.2; omega⟩, e3]
      refine ⟨⟨WW.nat (and_lt' hx.toNat_lt), k + 1, by omega, ⟨hm.1.snoc (by omega) hz, fun v => ?_⟩, fun j hj => ?_⟩, ?_⟩
      · simp only [List.mem_append, List.mem_singleton, hm.2]
        constructor
        · rintro (⟨a, b, d⟩ | rfl)
          · exact ⟨a, by omega, d⟩
          · refine ⟨by omega, by omega, ?_⟩
            unfold hasB
            have q1 : (((64 * i + k : Nat) : Int).toNat) / 64 = i := by omega
            have q2 : (((64 * i + k : Nat) : Int).toNat) % 64 = k := by omega
            rw [q1, q2]
            exact hwk
        · rintro ⟨a, b, d⟩
          by_cases e : v = ((64 * i + k : Nat) : Int)
          · exact .inr e
          · refine .inl ⟨a, ?_, d⟩
            refine Int.not_le.1 fun hle => ?_
            have q1 : v.toNat / 64 = i := by omega
            have q3 : v.toNat % 64 < k := by omega
            have q4 : c ≤ v.toNat % 64 := by omega
            have q5 := hb (v.toNat % 64) (by omega)
            unfold bitW at q5
            rw [k3 _ q3] at q5
            unfold hasB at d
            rw [q1] at d
            unfold bitW at d
            rw [d] at q5
            simp [q4] at q5
      · simp only
        unfold bitW
        rw [Int.toNat_natCast, k4]
        have q := hb j hj
        unfold bitW at q
        by_cases h1 : j < k
        · rw [k3 _ h1]
          simp [show ¬ k + 1 ≤ j by omega]
        · by_cases h2 : j = k
          · subst h2
            simp [show ¬ j + 1 ≤ j by omega]
          · rw [q]
            simp [h2, show c ≤ j by omega, show k + 1 ≤ j by omega]
      · simp only [Int.toNat_natCast]
        have : x.toNat &&& (x.toNat - 1) ≤ x.toNat - 1 := Nat.and_le_right
        omega
    · have he : x = 0 := he
      subst he
      refine .lft (.cnt ?_)
      rw [wrap_succ (by omega)]
      refine ⟨⟨i + 1, rfl, hlt, hm.mono fun v h0 h1 => ⟨fun ⟨a, b⟩ => ⟨by omega, b⟩, fun ⟨a, b⟩ => ⟨?_, b⟩⟩⟩, by simp only; omega⟩
      refine Int.not_le.1 fun hle => ?_
      have q1 : v.toNat / 64 = i := by omega
      have q4 : c ≤ v.toNat % 64 := by omega
      have q5 := hb (v.toNat % 64) (by omega)
      unfold hasB at b
      rw [q1] at b
      rw [b] at q5
      simp [q4, bitW] at q5
  · have : i = 8 := by omega
    subst this
    exact .lft (.pure ⟨rfl, hs.mono fun v h0 h1 => ⟨fun h => h.2, fun h => ⟨by omega, h⟩⟩⟩)

theorem union1_eq {x y : Int} (hx : WW x) (hy : WW y) : bitset_Union_1 x y = some ((x.toNat ||| y.toNat : Nat) : Int) := by
  unfold bitset_Union_1; rw [or_W hx hy]
theorem minus1_eq {x y : Int} (hx : WW x) (hy : WW y) : bitset_Minus_1 x y = some ((clrN x.toNat y.toNat : Nat) : Int) := by
  unfold bitset_Minus_1; rw [andNot_W hx hy]

/-- what a word by word loop over two sets comes to -/
theorem with_hs {s t : BS} (hs : WellB s) (ht : WellB t) (g : Nat → Nat → Nat) (hg : ∀ x y, x < 18446744073709551616 → y < 18446744073709551616 → g x y < 18446744073709551616) (p : Bool → Bool → Bool)
    (hp : ∀ x y j, x < 18446744073709551616 → y < 18446744073709551616 → j < 64 → (g x y).testBit j = p (x.testBit j) (y.testBit j))
    {body : BS × Int → Option ((BS × Int) ⊕ (BS × BS × BS))} (hend : ∀ x, body (x, 8) = some (.inr (x, s, t)))
    (hstep : ∀ x (i : Nat), i < 8 → body (x, (i : Int)) = some (.inl (x.set i ((g (wordB s i).toNat (wordB t i).toNat : Nat) : Int), ((i + 1 : Nat) : Int)))) :
    Hs (LoopT body (⟨0, 0, 0, 0, 0, 0, 0, 0⟩, 0)) fun r => WellB r.1 ∧ ∀ v, 0 ≤ v → v < 512 → hasB r.1 v = p (hasB s v) (hasB t v) := by
  refine Hs.loop (fun q => WellB q.1 ∧ ∃ i : Nat, q.2 = (i : Int) ∧ i ≤ 8 ∧ ∀ j, j < i → wordB q.1 j = ((g (wordB s j).toNat (wordB t j).toNat : Nat) : Int)) (fun q => 8 - q.2.toNat) ⟨WellB.zero, 0, rfl, by omega, fun j hj => by omega⟩ ?_
  rintro ⟨x, i'⟩ ⟨hx, i, hi', hi, hall⟩
  simp only at hx hi' hall
  subst hi'
  by_cases hlt : i < 8
  · refine ⟨_, hstep x i hlt, ⟨hx.set (WW.nat (hg _ _ (hs.word hlt).toNat_lt (ht.word hlt).toNat_lt)), i + 1, rfl, hlt, fun j hj => ?_⟩, by simp only; omega⟩
    simp only
    rw [wordB_set hlt]
    by_cases e : i = j
    · subst e; rw [if_pos rfl]
    · rw [if_neg e]; exact hall j (by omega)
  · obtain rfl : i = 8 := by omega
    refine ⟨_, hend x, hx, fun v h0 h1 => ?_⟩
    have hv : v.toNat / 64 < 8 := by omega
    unfold hasB
    simp only
    rw [hall _ hv]
    unfold bitW
    rw [Int.toNat_natCast, hp _ _ _ (hs.word hv).toNat_lt (ht.word hv).toNat_lt (by omega)]

theorem with_union_hs {s t : BS} (hs : WellB s) (ht : WellB t) : Hs (bitset_set_int_with_Union_1 s t) fun r => WellB r.1 ∧ ∀ v, 0 ≤ v → v < 512 → hasB r.1 v = (hasB s v || hasB t v) := by
  unfold bitset_set_int_with_Union_1
  refine with_hs hs ht (· ||| ·) (fun x y => or_lt') (· || ·) (fun x y j _ _ _ => Nat.testBit_or ..) (fun x => by simp [bitset_set_int_with_Union_1_b1]) fun x i hi => ?_
  have w := wrap_succ (show i < 9223372036854775807 by omega)
  simp [bitset_set_int_with_Union_1_b1, hi, wordB_get hi, union1_eq (hs.word hi) (ht.word hi), w, show (i : Int) < 8 by omega]
theorem with_minus_hs {s t : BS} (hs : WellB s) (ht : WellB t) : Hs (bitset_set_int_with_Minus_1 s t) fun r => WellB r.1 ∧ ∀ v, 0 ≤ v → v < 512 → hasB r.1 v = (hasB s v && !hasB t v) := by
  unfold bitset_set_int_with_Minus_1
  refine with_hs hs ht clrN (fun x y hx _ => and_lt' hx) (fun a b => a && !b) (fun x y j hx hy _ => clrN_bit hx hy) (fun x => by simp [bitset_set_int_with_Minus_1_b1]) fun x i hi => ?_
  have w := wrap_succ (show i < 9223372036854775807 by omega)
  simp [bitset_set_int_with_Minus_1_b1, hi, wordB_get hi, minus1_eq (hs.word hi) (ht.word hi), w, show (i : Int) < 8 by omega]

theorem bs_of_hs (l : List Int) (hl : l.length ≤ 9000000000000000000) : Hs (bitset_Of l) fun r => SetOf r (· ∈ l) := by
  unfold bitset_Of
  exact (of_hs l hl).bind fun r hr => (bs_list_hs hr.1).bind fun q hq => .pure (hq.2.mono fun v h0 h1 => by rw [hr.2 v h0 h1]; simp)
theorem bs_remove_hs (l : List Int) (n : Int) (hl : l.length ≤ 9000000000000000000) : Hs (bitset_Remove l n) fun r => SetOf r (fun v => v ∈ l ∧ v ≠ n) := by
  unfold bitset_Remove
  refine (of_hs l hl).bind fun r hr => (put_hs hr.1 n false).bind fun u hu => (bs_list_hs hu.1).bind fun q hq => .pure (hq.2.mono fun v h0 h1 => ?_)
  rw [hu.2 v h0 h1, hr.2 v h0 h1]
  by_cases e : v = n <;> simp [e]
theorem bs_union_hs (a b : List Int) (ha : a.length ≤ 9000000000000000000) (hb : b.length ≤ 9000000000000000000) : Hs (bitset_Union a b) fun r => SetOf r (fun v => v ∈ a ∨ v ∈ b) := by
  unfold bitset_Union
  refine (of_hs a ha).bind fun r hr => (of_hs b hb).bind fun u hu => (with_union_hs hr.1 hu.1).bind fun x hx => (bs_list_hs hx.1).bind fun q hq => .pure (hq.2.mono fun v h0 h1 => ?_)
  rw [hx.2 v h0 h1, hr.2 v h0 h1, hu.2 v h0 h1]; simp
theorem bs_minus_hs (a b : List Int) (ha : a.length ≤ 9000000000000000000) (hb : b.length ≤ 9000000000000000000) : Hs (bitset_Minus a b) fun r => SetOf r (fun v => v ∈ a ∧ v ∉ b) := by
  unfold bitset_Minus
  refine (of_hs a ha).bind fun r hr => (of_hs b hb).bind fun u hu => (with_minus_hs hr.1 hu.1).bind fun x hx => (bs_list_hs hx.1).bind fun q hq => .pure (hq.2.mono fun v h0 h1 => ?_)
  rw [hx.2 v h0 h1, hr.2 v h0 h1, hu.2 v h0 h1]; simp

/-- on sets: what the reference says -/
theorem bs_remove_eq {s : List Int} (hs : IsSet s) (n : Int) : bitset_Remove s n = some (s.filter (· != n)) := by
  obtain ⟨r, h1, h2⟩ := bs_remove_hs s n (by have := hs.length_le; omega)
  rw [h1, h2.eq (SetOf.of_set (hs.filter (· != n))) fun v _ _ => by simp [List.mem_filter]]
theorem bs_union_eq {a b : List Int} (ha : IsSet a) (hb : ∀ x ∈ b, 0 ≤ x ∧ x < 512) (hl : b.length ≤ 1000) : bitset_Union a b = some (unionN a b) := by
  obtain ⟨r, h1, h2⟩ := bs_union_hs a b (by have := ha.length_le; omega) (by omega)
  obtain ⟨h3, h4⟩ := unionN_set (n := 512) (by omega) (b := b) ⟨ha, fun x hx => (ha.2 x hx).2⟩ hb
  rw [h1, h2.eq (SetOf.of_set h3.1) fun v _ _ => by rw [h4]]
theorem bs_of_eq {b : List Int} (hb : ∀ x ∈ b, 0 ≤ x ∧ x < 512) (hl : b.length ≤ 1000) : bitset_Of b = some (unionN [] b) := by
  obtain ⟨r, h1, h2⟩ := bs_of_hs b (by omega)
  obtain ⟨h3, h4⟩ := unionN_set (n := 512) (by omega) (b := b) ⟨IsSet.nil, fun x hx => by cases hx⟩ hb
  rw [h1, h2.eq (SetOf.of_set h3.1) fun v _ _ => by rw [h4]; simp]
end Go.Proofs.YtcelninhkmhjkaaDoor
namespace Go.Proofs.YtcelninhkmhjkaaDoor
open Go Go.Dw Go.Proofs

attribute [local simp] chk_pos Bool.cond_eq_ite

/-- choices as they are drawn -/
def okC (c : Tdraw_Codes) : Prop := 0 ≤ c.at_ ∧ c.at_ ≤ c.list.length ∧ c.list.length ≤ 1000 ∧ ∀ v ∈ c.list, 0 ≤ v ∧ v ≤ 255

theorem new_ok (l : List Int) (n : Int) (hl : qL (qInt .u8) l) (h0 : 0 ≤ n) (h1 : n ≤ 1000) : ∃ c, draw_New l n = some c ∧ okC c := by
  unfold draw_New
  have e : minI (l.length : Int) n = min (l.length : Int) n := minI_eq _ _
  rw [e]
  refine ⟨_, by rw [chk_pos (by omega)], by simp, ?_, ?_, ?_⟩
  · simp
  · simp only [List.length_take]; omega
  · intro v hv
    have := hl.2 v (List.mem_of_mem_take hv)
    simpa [qInt, IntKind.min, IntKind.max, IntKind.signed, IntKind.bits] using this

theorem next_ok (c : Tdraw_Codes) (h : okC c) (n : Int) (h1 : n ≤ 1099511627776) : ∃ r c', draw_Codes_Next c n = some (r, c') ∧ okC c' ∧ 0 ≤ r ∧ (r < n ∨ r = 0) := by
  obtain ⟨ha, hb, hc, hd⟩ := h
  unfold draw_Codes_Next draw_Codes_Left
  by_cases hl : c.at_ < c.list.length
  · by_cases hn : n < 1
    · exact ⟨0, c, by simp [hl, hn], ⟨ha, hb, hc, hd⟩, by omega, .inr rfl⟩
    · have hx : c.list[c.at_.toNat]? = some (c.list[c.at_.toNat]'(by omega)) := List.getElem?_eq_getElem _
      have hv := hd _ (List.getElem_mem (show c.at_.toNat < c.list.length by omega))
      generalize hq : c.list[c.at_.toNat]'(by omega) = v at hx hv
      have e1 : IntKind.i64.wrap v = v := wrap64 (by omega) (by omega)
      have hm0 : 0 ≤ v * n := Int.mul_nonneg hv.1 (by omega)
      have hm1 : v * n ≤ 255 * n := Int.mul_le_mul_of_nonneg_right hv.2 (by omega)
      have e2 : IntKind.i64.wrap (v * n) = v * n := wrap64 (by omega) (by omega)
      have e3 : (v * n).tdiv 256 = v * n / 256 := Int.tdiv_eq_ediv_of_nonneg hm0
      have e4 : IntKind.i64.wrap (v * n / 256) = v * n / 256 := wrap64 (by omega) (by omega)
      have e5 : IntKind.i64.wrap (c.at_ + 1) = c.at_ + 1 := wrap64 (by omega) (by omega)
      refine ⟨v * n / 256, ⟨c.list, c.at_ + 1⟩, ?_, ⟨by simp only; omega, by simp only; omega, hc, hd⟩, by omega, .inl (by omega)⟩
      simp [hl, hn, draw_Codes_Next_j1, ixO_pos _ ha, hx, e1, e2, e3, e4, e5]
  · exact ⟨0, c, by simp [hl], ⟨ha, hb, hc, hd⟩, by omega, .inr rfl⟩
end Go.Proofs.YtcelninhkmhjkaaDoor
namespace Go.Proofs.YtcelninhkmhjkaaDoor
open Go Go.Dw Go.Proofs

/-- what a choice below n gives -/
theorem next_hs {c : Tdraw_Codes} (h : okC c) {n : Int} (h1 : n ≤ 1099511627776) : Hs (draw_Codes_Next c n) fun p => okC p.2 ∧ 0 ≤ p.1 ∧ (p.1 < n ∨ p.1 = 0) := by
  obtain ⟨r, c', e, h2, h3, h4⟩ := next_ok c h n h1
  exact ⟨(r, c'), e, h2, h3, h4⟩
/-- the same for n that is not 0 -/
theorem nextp_hs {c : Tdraw_Codes} (h : okC c) {n : Int} (h0 : 1 ≤ n) (h1 : n ≤ 1099511627776) : Hs (draw_Codes_Next c n) fun p => okC p.2 ∧ 0 ≤ p.1 ∧ p.1 < n :=
  (next_hs h h1).mono fun r hr => ⟨hr.1, hr.2.1, by omega⟩

def SlotOk (s : TSlot) : Prop := s.Size ∈ ([8, 4, 8, 1, 2, 16, 8] : List Int) ∧ s.Align ∈ ([8, 4, 1, 8, 16, 2, 32, 64] : List Int)
def W64 (w : Int) : Prop := 0 ≤ w ∧ w < 18446744073709551616
def Reg (a : Int) : Prop := 0 ≤ a ∧ a < 4

theorem slot_hs {c : Tdraw_Codes} (h : okC c) : Hs (draw_Codes_Slot c) fun p => okC p.2 ∧ SlotOk p.1 := by
  unfold draw_Codes_Slot
  refine (nextp_hs h (by omega) (by omega)).bind fun r hr => .chk (by simp; omega) ?_
  refine (Hs.get hr.2.1 (by simp; omega) fun x hx => List.mem_of_getElem? hx).bind fun x hx => ?_
  refine (nextp_hs hr.1 (by omega) (by omega)).bind fun r' hr' => .chk (by simp; omega) ?_
  refine (Hs.get hr'.2.1 (by simp; omega) fun x hx => List.mem_of_getElem? hx).bind fun y hy => ?_
  exact .pure ⟨hr'.1, hx, hy⟩

theorem slots_hs {c : Tdraw_Codes} (h : okC c) {m : Int} (hm : 0 ≤ m) (hm' : m ≤ 1000) : Hs (draw_Codes_Slots c m) fun p => okC p.2 ∧ (p.1.length : Int) ≤ m ∧ ∀ s ∈ p.1, SlotOk s := by
  unfold draw_Codes_Slots
  have w : IntKind.i64.wrap (m + 1) = m + 1 := wrap64 (by omega) (by omega)
  rw [w]
  refine (nextp_hs h (by omega) (by omega)).bind fun r hr => ?_
  refine Hs.loop (fun s => okC ⟨s.1, s.2.1⟩ ∧ (s.2.2.1.length : Int) + s.2.2.2 ≤ m ∧ (∀ x ∈ s.2.2.1, SlotOk x) ∧ 0 ≤ s.2.2.2) (fun s => s.2.2.2.toNat) ⟨hr.1, by simp; omega, by simp, hr.2.1⟩ ?_
  rintro ⟨l, a, sl, n⟩ ⟨hc, hl, hs, hn⟩
  simp only at hc hl hs hn
  unfold draw_Codes_Slots_b1
  refine .dec (fun hlt => ?_) fun hlt => ?_
  · have hlt : 0 < n := hlt
    have w : IntKind.i64.wrap (n - 1) = n - 1 := wrap64 (by omega) (by omega)
    refine (slot_hs hc).bind fun x hx => .chk (by simp; omega) (.cnt ⟨⟨hx.1, ?_, ?_, ?_⟩, ?_⟩)
    · simp only [w, List.length_append, List.length_singleton]; omega
    · intro y hy
      rcases List.mem_append.1 hy with h1 | h1
      · exact hs y h1
      · rw [List.mem_singleton] at h1; subst h1; exact hx.2
    · simp only [w]; omega
    · simp only [w]; omega
  · exact .lft (.pure ⟨hc, by simp only; omega, hs⟩)

theorem word_hs {c : Tdraw_Codes} (h : okC c) : Hs (draw_Codes_Word c) fun p => okC p.2 ∧ W64 p.1 := by
  unfold draw_Codes_Word
  refine (nextp_hs h (by omega) (by omega)).bind fun r hr => .beq (fun _ => ?_) fun _ => .beq (fun _ => ?_) fun _ => .beq (fun _ => ?_) fun _ => ?_
  · exact (nextp_hs hr.1 (by omega) (by omega)).bind fun r' hr' => .pure ⟨hr'.1, u64_rng _⟩
  · exact (nextp_hs hr.1 (by omega) (by omega)).bind fun r' hr' => .chk hr'.2.1 (.pure ⟨hr'.1, u64_rng _⟩)
  · exact .pure ⟨hr.1, by simp only; unfold W64; omega⟩
  · exact (nextp_hs hr.1 (by omega) (by omega)).bind fun r' hr' => .pure ⟨hr'.1, u64_rng _⟩

/-- slots of one size -/
def Like (sl : List TSlot) (a b : Int) : Prop := 0 ≤ a ∧ a < sl.length ∧ ∃ x y, sl[a.toNat]? = some x ∧ sl[b.toNat]? = some y ∧ x.Size = y.Size

theorem like_hs {c : Tdraw_Codes} (h : okC c) {f : TFunc} {s : Int} (h0 : 0 ≤ s) (h1 : s < f.Slots.length) (hl : f.Slots.length ≤ 1000) : Hs (draw_Codes_like c f s) fun p => okC p.2 ∧ Like f.Slots p.1 s := by
  unfold draw_Codes_like
  refine Hs.loop (fun st => 0 ≤ st.2 ∧ st.2 ≤ f.Slots.length ∧ (st.1.length : Int) ≤ st.2 ∧ (∀ v ∈ st.1, Like f.Slots v s) ∧ (s < st.2 → 0 < st.1.length)) (fun st => f.Slots.length - st.2.toNat) ⟨by simp, by simp, by simp, by simp, fun h => by simp at h; omega⟩ ?_
  rintro ⟨l, k⟩ ⟨hk0, hk1, hll, hv, hne⟩
  simp only at hk0 hk1 hll hv hne
  unfold draw_Codes_like_b1
  refine .dec (fun hlt => ?_) fun hlt => .lft ?_
  · have w : IntKind.i64.wrap (k + 1) = k + 1 := wrap64 (by omega) (by omega)
    refine (Hs.ix hk0 hlt fun x hx => hx).bind fun x hx => (Hs.ix h0 h1 fun x hx => hx).bind fun y hy => .beq (fun he => ?_) fun he => ?_
    · refine .chk (by simp; omega) (.cnt ⟨⟨by simp only [w]; omega, by simp only [w]; omega, by simp only [w, List.length_append, List.length_singleton]; omega, ?_, by simp⟩, by simp only [w]; omega⟩)
      intro v hv'
      rcases List.mem_append.1 hv' with h2 | h2
      · exact hv v h2
      · rw [List.mem_singleton] at h2; subst h2
        exact ⟨hk0, hlt, x, y, hx, hy, he⟩
    · refine .cnt ⟨⟨by simp only [w]; omega, by simp only [w]; omega, by simp only [w]; omega, hv, fun h3 => ?_⟩, by simp only [w]; omega⟩
      simp only [w] at h3
      by_cases e : s = k
      · subst e; rw [hx] at hy; cases hy; exact (he rfl).elim
      · exact hne (by omega)
  · have hlt : ¬ k < f.Slots.length := hlt
    have hl1 := hne (by omega)
    refine (nextp_hs h (n := (l.length : Int)) (by omega) (by omega)).bind fun r hr => .chk ⟨hr.2.1, hr.2.2⟩ ?_
    exact (Hs.get hr.2.1 hr.2.2 fun x hx => hv x (List.mem_of_getElem? hx)).bind fun x hx => .pure ⟨hr.1, hx⟩

/-- the instructions of a drawn function but its last one; T: where jumps may go -/
inductive InsOk (sl : List TSlot) (np i : Int) (ps : List Int) (T : Int → Prop) : TInstr → Prop
  | store (a b : Int) : 0 ≤ a → a < sl.length → Reg b → InsOk sl np i ps T ⟨16, a, b, 0, 0⟩
  | load (a b : Int) : Reg a → 0 ≤ b → b < sl.length → InsOk sl np i ps T ⟨15, a, b, 0, 0⟩
  | move (a b : Int) : Like sl a b → 0 ≤ b → b < sl.length → InsOk sl np i ps T ⟨17, a, b, 0, 0⟩
  | const (a w : Int) : Reg a → W64 w → InsOk sl np i ps T ⟨0, a, 0, 0, w⟩
  | bin (op a b c : Int) : 2 ≤ op → op < 12 → Reg a → Reg b → 0 ≤ c → c < 8 → InsOk sl np i ps T ⟨op, a, b, c, 0⟩
  | out (a : Int) : Reg a → InsOk sl np i ps T ⟨14, a, 0, 0, 0⟩
  | un (op a : Int) : (op = 13 ∨ op = 12 ∨ op = 1) → Reg a → InsOk sl np i ps T ⟨op, a, 0, 0, 0⟩
  | param (a b : Int) : Reg a → 0 ≤ b → b < np → InsOk sl np i ps T ⟨19, a, b, 0, 0⟩
  | arg (a b : Int) : 0 ≤ a → a < 4 → Reg b → InsOk sl np i ps T ⟨18, a, b, 0, 0⟩
  | call (j : Int) : i < j → j < ps.length → InsOk sl np i ps T ⟨22, j, 0, 0, 0⟩
  | jump (t : Int) : T t → InsOk sl np i ps T ⟨20, t, 0, 0, 0⟩
  | branch (a t : Int) : Reg a → T t → InsOk sl np i ps T ⟨21, a, t, 0, 0⟩

/-- as many parameters as are drawn -/
def ParOk (ps : List Int) : Prop := (∀ v ∈ ps, 0 ≤ v ∧ v < 4) ∧ ps.length ≤ 1000

theorem body_hs {c : Tdraw_Codes} (h : okC c) {f : TFunc} {i : Int} {ps : List Int} (T : Int → Prop) (hf : f.Slots.length ≤ 1000) (hp : f.Params < 4) (hi : 0 ≤ i) (hi' : i < ps.length) (hps : ParOk ps) :
    Hs (draw_Codes_body c f i ps) fun p => okC p.2 ∧ p.1.length ≤ 4 ∧ ∀ x ∈ p.1, InsOk f.Slots f.Params i ps T x := by
  unfold draw_Codes_body
  refine (nextp_hs h (by omega) (by omega)).bind fun r hr => (nextp_hs hr.1 (by omega) (by omega)).bind fun k hk => ?_
  have hreg : Reg r.1 := hr.2
  have one : ∀ {x : TInstr} {c' : Tdraw_Codes}, okC c' → InsOk f.Slots f.Params i ps T x → Hs (some (([x] : List TInstr), c')) fun p => okC p.2 ∧ p.1.length ≤ 4 ∧ ∀ x ∈ p.1, InsOk f.Slots f.Params i ps T x := fun hc hx => .pure ⟨hc, by simp, by simpa using hx⟩
  have j6 : ∀ b, (b = true → i + 1 < ps.length) → Hs (draw_Codes_body_j6 k ps i r b) fun p => okC p.2 ∧ p.1.length ≤ 4 ∧ ∀ x ∈ p.1, InsOk f.Slots f.Params i ps T x := by
    intro b hb
    unfold draw_Codes_body_j6
    refine .cond (fun hb' => ?_) fun _ => one hk.1 (.out _ hreg)
    have hil := hb hb'
    have hlen := hps.2
    have w1 : IntKind.i64.wrap ((ps.length : Int) - i) = (ps.length : Int) - i := wrap64 (by omega) (by omega)
    have w2 : IntKind.i64.wrap ((ps.length : Int) - i - 1) = (ps.length : Int) - i - 1 := wrap64 (by omega) (by omega)
    have w3 : IntKind.i64.wrap (i + 1) = i + 1 := wrap64 (by omega) (by omega)
    rw [w1, w2]
    refine (nextp_hs hk.1 (by omega) (by omega)).bind fun q hq => ?_
    have w4 : IntKind.i64.wrap (i + 1 + q.1) = i + 1 + q.1 := wrap64 (by omega) (by omega)
    refine Hs.loop (fun s => okC ⟨s.1, s.2.1⟩ ∧ (s.2.2.1.length : Int) ≤ s.2.2.2 ∧ 0 ≤ s.2.2.2 ∧ s.2.2.2 ≤ 3 ∧ ∀ x ∈ s.2.2.1, InsOk f.Slots f.Params i ps T x) (fun s => (3 - s.2.2.2).toNat) ⟨hq.1, by simp, by simp, by simp, by simp⟩ ?_
    rintro ⟨l, a, out, n⟩ ⟨hc, ho, hn0, hn3, hall⟩
    simp only at hc ho hn0 hn3 hall
    unfold draw_Codes_body_b7
    simp only [w3, w4]
    refine (Hs.ix (by omega) (by omega) fun x hx => hps.1 x (List.mem_of_getElem? hx)).bind fun x hx => .dec (fun hlt => ?_) fun hlt => .lft ?_
    · have w5 : IntKind.i64.wrap (n + 1) = n + 1 := wrap64 (by omega) (by omega)
      refine (nextp_hs hc (by omega) (by omega)).bind fun u hu => .dec (fun _ => ?_) fun _ => ?_
      · refine (nextp_hs hu.1 (by omega) (by omega)).bind fun v hv => .chk (by simp; omega) (.cnt ⟨⟨hv.1, by simp only [w5, List.length_append, List.length_singleton]; omega, by simp only [w5]; omega, by simp only [w5]; omega, ?_⟩, by simp only [w5]; omega⟩)
        intro y hy
        rcases List.mem_append.1 hy with h2 | h2
        · exact hall y h2
        · rw [List.mem_singleton] at h2; subst h2
          exact .arg _ _ hn0 (by omega) hv.2
      · exact .cnt ⟨⟨hu.1, by simp only [w5]; omega, by simp only [w5]; omega, by simp only [w5]; omega, hall⟩, by simp only [w5]; omega⟩
    · refine .chk (by simp; omega) (.pure ⟨hc, by simp only [List.length_append, List.length_singleton]; omega, ?_⟩)
      intro y hy
      rcases List.mem_append.1 hy with h2 | h2
      · exact hall y h2
      · rw [List.mem_singleton] at h2; subst h2
        exact .call _ (by omega) (by omega)
  have j5 : ∀ b, (b = true → 0 < f.Params) → Hs (draw_Codes_body_j5 k f r ps i b) fun p => okC p.2 ∧ p.1.length ≤ 4 ∧ ∀ x ∈ p.1, InsOk f.Slots f.Params i ps T x := by
    intro b hb
    unfold draw_Codes_body_j5
    refine .cond (fun hb' => ?_) fun _ => .dec (fun _ => j6 _ fun hd => ?_) fun _ => j6 _ fun hd => (by cases hd)
    · have := hb hb'
      exact (nextp_hs hk.1 (by omega) (by omega)).bind fun u hu => one hu.1 (.param _ _ hreg hu.2.1 hu.2.2)
    · have hlen := hps.2
      have := of_decide_eq_true hd
      rw [wrap64 (by omega) (by omega)] at this
      exact this
  have j4 : ∀ b, (b = true → 0 < f.Slots.length) → Hs (draw_Codes_body_j4 k f r ps i b) fun p => okC p.2 ∧ p.1.length ≤ 4 ∧ ∀ x ∈ p.1, InsOk f.Slots f.Params i ps T x := by
    intro b hb
    unfold draw_Codes_body_j4
    refine .cond (fun hb' => ?_) fun _ => .dec (fun _ => ?_) fun _ => .dec (fun _ => ?_) fun _ => .dec (fun _ => one hk.1 (.out _ hreg)) fun _ => .beq (fun _ => ?_) fun _ => .beq (fun _ => j5 _ fun hd => of_decide_eq_true hd) fun _ => j5 _ fun hd => (by cases hd)
    · have := hb hb'
      exact (nextp_hs hk.1 (by omega) (by omega)).bind fun u hu => (like_hs hu.1 hu.2.1 hu.2.2 hf).bind fun v hv => one hv.1 (.move _ _ hv.2 hu.2.1 hu.2.2)
    · exact (word_hs hk.1).bind fun u hu => one hu.1 (.const _ _ hreg hu.2)
    · refine (nextp_hs hk.1 (by omega) (by omega)).bind fun u hu => (nextp_hs hu.1 (by omega) (by omega)).bind fun v hv => (nextp_hs hv.1 (by omega) (by omega)).bind fun z hz => one hz.1 ?_
      rw [wrap64 (by omega) (by omega)]
      exact .bin _ _ _ _ (by omega) (by omega) hreg hv.2 hz.2.1 hz.2.2
    · refine (nextp_hs hk.1 (by omega) (by omega)).bind fun u hu => .chk (by simp; omega) ?_
      refine (Hs.get hu.2.1 (by simp; omega) fun x hx => List.mem_of_getElem? hx).bind fun x hx => one hu.1 (.un _ _ (by simpa using hx) hreg)
  have j3 : ∀ b, (b = true → 0 < f.Slots.length) → Hs (draw_Codes_body_j3 k f r ps i b) fun p => okC p.2 ∧ p.1.length ≤ 4 ∧ ∀ x ∈ p.1, InsOk f.Slots f.Params i ps T x := by
    intro b hb
    unfold draw_Codes_body_j3
    refine .cond (fun hb' => ?_) fun _ => .dec (fun _ => j4 _ fun hd => by have := of_decide_eq_true hd; omega) fun _ => j4 _ fun hd => (by cases hd)
    have := hb hb'
    exact (nextp_hs hk.1 (by omega) (by omega)).bind fun u hu => one hu.1 (.load _ _ hreg hu.2.1 hu.2.2)
  have j2 : ∀ b, (b = true → 0 < f.Slots.length) → Hs (draw_Codes_body_j2 k f r ps i b) fun p => okC p.2 ∧ p.1.length ≤ 4 ∧ ∀ x ∈ p.1, InsOk f.Slots f.Params i ps T x := by
    intro b hb
    unfold draw_Codes_body_j2
    refine .cond (fun hb' => ?_) fun _ => .dec (fun _ => j3 _ fun hd => by have := of_decide_eq_true hd; omega) fun _ => j3 _ fun hd => (by cases hd)
    have := hb hb'
    exact (nextp_hs hk.1 (by omega) (by omega)).bind fun u hu => one hu.1 (.store _ _ hu.2.1 hu.2.2 hreg)
  exact .dec (fun _ => j2 _ fun hd => by have := of_decide_eq_true hd; omega) fun _ => j2 _ fun hd => (by cases hd)

theorem InsOk.mono {sl : List TSlot} {np i : Int} {ps : List Int} {T T' : Int → Prop} {x : TInstr} (h : InsOk sl np i ps T x) (hT : ∀ t, T t → T' t) : InsOk sl np i ps T' x := by
  cases h with
  | store a b h1 h2 h3 => exact .store a b h1 h2 h3
  | load a b h1 h2 h3 => exact .load a b h1 h2 h3
  | move a b h1 h2 h3 => exact .move a b h1 h2 h3
  | const a w h1 h2 => exact .const a w h1 h2
  | bin op a b c h1 h2 h3 h4 h5 h6 => exact .bin op a b c h1 h2 h3 h4 h5 h6
  | out a h1 => exact .out a h1
  | un op a h1 h2 => exact .un op a h1 h2
  | param a b h1 h2 h3 => exact .param a b h1 h2 h3
  | arg a b h1 h2 h3 => exact .arg a b h1 h2 h3
  | call j h1 h2 => exact .call j h1 h2
  | jump t h1 => exact .jump t (hT t h1)
  | branch a t h1 h2 => exact .branch a t h1 (hT t h2)

/-- a last instruction -/
def EndOk (x : TInstr) : Prop := x = ⟨23, 0, 0, 0, 0⟩ ∨ ∃ w, W64 w ∧ x = ⟨24, 0, 0, 0, w⟩

/-- a jump that goes nowhere yet is sent to an instruction -/
def fixI (x : TInstr) (t : Int) : TInstr :=
  if x.Op = 20 ∧ x.A < 0 then ⟨x.Op, t, x.B, x.C, x.Imm⟩ else if x.Op = 21 ∧ x.B < 0 then ⟨x.Op, x.A, t, x.C, x.Imm⟩ else x

theorem EndOk.fix {x : TInstr} (h : EndOk x) (t : Int) : fixI x t = x := by
  rcases h with rfl | ⟨w, _, rfl⟩ <;> simp [fixI]
theorem InsOk.fix {sl : List TSlot} {np i : Int} {ps : List Int} {T : Int → Prop} {x : TInstr} (h : InsOk sl np i ps (· = -1) x) {t : Int} (ht : T t) : InsOk sl np i ps T (fixI x t) := by
  cases h with
  | store a b h1 h2 h3 => exact .store a b h1 h2 h3
  | load a b h1 h2 h3 => exact .load a b h1 h2 h3
  | move a b h1 h2 h3 => exact .move a b h1 h2 h3
  | const a w h1 h2 => exact .const a w h1 h2
  | bin op a b c h1 h2 h3 h4 h5 h6 =>
    have : fixI ⟨op, a, b, c, 0⟩ t = ⟨op, a, b, c, 0⟩ := by simp [fixI, show op ≠ 20 by omega, show op ≠ 21 by omega]
    rw [this]
    exact .bin op a b c h1 h2 h3 h4 h5 h6
  | out a h1 => exact .out a h1
  | un op a h1 h2 =>
    have : fixI ⟨op, a, 0, 0, 0⟩ t = ⟨op, a, 0, 0, 0⟩ := by simp [fixI, show op ≠ 20 by omega, show op ≠ 21 by omega]
    rw [this]
    exact .un op a h1 h2
  | param a b h1 h2 h3 => exact .param a b h1 h2 h3
  | arg a b h1 h2 h3 => exact .arg a b h1 h2 h3
  | call j h1 h2 => exact .call j h1 h2
  | jump q h1 => subst h1; exact .jump t ht
  | branch a q h1 h2 => subst h2; exact .branch a t h1 ht

theorem j5_eq {code : List TInstr} {k : Nat} {x : TInstr} (h : code[k]? = some x) (r : Int × Tdraw_Codes) (t : Int) : draw_Codes_function_j5 (k : Int) code r t = some (.inl (r.2.list, r.2.at_, code.set k (fixI x t), IntKind.i64.wrap ((k : Int) + 1))) := by
  obtain ⟨hl, hx⟩ := List.getElem?_eq_some_iff.1 h
  have hset : code.set k x = code := by rw [← hx]; exact List.set_getElem_self hl
  obtain ⟨op, a, b, c, w⟩ := x
  unfold draw_Codes_function_j5 draw_Codes_function_j6
  by_cases h20 : op = 20
  · subst h20
    by_cases ha : a < 0
    · simp [chk_pos, hl, h, hx, fixI, ha]
    · simp [chk_pos, hl, h, hx, fixI, ha, hset]
  · by_cases h21 : op = 21
    · subst h21
      by_cases hb : b < 0
      · simp [chk_pos, hl, h, hx, fixI, hb]
      · simp [chk_pos, hl, h, hx, fixI, hb, hset]
    · have e20 : (op == 20) = false := by simpa using h20
      have e21 : (op == 21) = false := by simpa using h21
      simp [chk_pos, hl, h, hx, fixI, e20, e21, h20, h21, hset]

/-- a function as it is drawn -/
structure FuncOk (ps : List Int) (i most : Int) (f : TFunc) : Prop where
  par : ps[i.toNat]? = some f.Params
  slots : f.Slots.length ≤ 6
  slot : ∀ s ∈ f.Slots, SlotOk s
  len : 1 ≤ f.Code.length
  len' : (f.Code.length : Int) ≤ 7 + 5 * most
  body : ∀ (k : Nat) x, f.Code[k]? = some x → k + 1 < f.Code.length → InsOk f.Slots f.Params i ps (fun t => 0 ≤ t ∧ t < f.Code.length) x
  last : ∀ x, f.Code[f.Code.length - 1]? = some x → EndOk x

theorem fix_hs {l : List Int} {a : Int} (h : okC ⟨l, a⟩) {sl : List TSlot} {np i : Int} {ps : List Int} {most : Int} {code : List TInstr} (hpar : ps[i.toNat]? = some np) (hsl : sl.length ≤ 6) (hsl' : ∀ s ∈ sl, SlotOk s)
    (hlen : 1 ≤ code.length) (hlen' : (code.length : Int) ≤ 7 + 5 * most) (hm : most ≤ 1000) (hb : ∀ (k : Nat) x, code[k]? = some x → k + 1 < code.length → InsOk sl np i ps (· = -1) x) (he : ∀ x, code[code.length - 1]? = some x → EndOk x) :
    Hs (LoopT (fun s : List Int × Int × List TInstr × Int => draw_Codes_function_b4 np sl s.1 s.2.1 s.2.2.1 s.2.2.2) (l, a, code, 0)) fun p => okC p.2 ∧ FuncOk ps i most p.1 := by
  refine Hs.loop (fun s => okC ⟨s.1, s.2.1⟩ ∧ s.2.2.1.length = code.length ∧ ∃ k : Nat, s.2.2.2 = (k : Int) ∧ k ≤ code.length ∧ (∀ x, s.2.2.1[code.length - 1]? = some x → EndOk x) ∧
    ∀ (j : Nat) x, s.2.2.1[j]? = some x → j + 1 < code.length → InsOk sl np i ps (fun t => if j < k then 0 ≤ t ∧ t < code.length else t = -1) x) (fun s => code.length - s.2.2.2.toNat) ⟨h, rfl, 0, rfl, Nat.zero_le _, he, fun j x hj hj' => (hb j x hj hj').mono fun t ht => by simpa using ht⟩ ?_
  rintro ⟨l, a, code', k⟩ ⟨hc, hl, k, rfl, hk, he', hall⟩
  simp only at hc hl he' hall
  unfold draw_Codes_function_b4
  refine .dec (fun hlt => ?_) fun hlt => ?_
  · have hlt : k < code.length := by rw [← hl]; exact Int.ofNat_lt.1 hlt
    have w := wrap_succ (show k < 9223372036854775807 by omega)
    have hx : code'[k]? = some (code'[k]'(by omega)) := List.getElem?_eq_getElem _
    generalize code'[k]'(by omega) = x at hx
    have step : ∀ (r : Int × Tdraw_Codes) (t : Int), okC r.2 → 0 ≤ t → t < code.length → Hs (draw_Codes_function_j5 (k : Int) code' r t) (Rnd (fun s : List Int × Int × List TInstr × Int => okC ⟨s.1, s.2.1⟩ ∧ s.2.2.1.length = code.length ∧ ∃ k : Nat, s.2.2.2 = (k : Int) ∧ k ≤ code.length ∧ (∀ x, s.2.2.1[code.length - 1]? = some x → EndOk x) ∧
        ∀ (j : Nat) x, s.2.2.1[j]? = some x → j + 1 < code.length → InsOk sl np i ps (fun t => if j < k then 0 ≤ t ∧ t < code.length else t = -1) x) (fun s => code.length - s.2.2.2.toNat) (l, a, code', (k : Int)) (fun p : TFunc × Tdraw_Codes => okC p.2 ∧ FuncOk ps i most p.1)) := by
      intro r t hr ht0 ht1
      rw [j5_eq hx]
      refine .pure ⟨⟨hr, by simp [hl], k + 1, w, hlt, ?_, ?_⟩, by simp only [w]; omega⟩
      · intro y hy
        simp only at hy
        by_cases e : k = code.length - 1
        · rw [← e, List.getElem?_set_self (by omega)] at hy
          obtain rfl := Option.some.inj hy
          have hex := he' x (by rw [← e]; exact hx)
          rw [hex.fix]; exact hex
        · rw [List.getElem?_set_ne e] at hy
          exact he' y hy
      · intro j y hy hj
        simp only at hy
        by_cases e : k = j
        · subst e
          rw [List.getElem?_set_self (by omega)] at hy
          obtain rfl := Option.some.inj hy
          exact ((hall k x hx hj).mono fun t ht => by simpa using ht).fix (by rw [if_pos (by omega)]; exact ⟨ht0, ht1⟩)
        · rw [List.getElem?_set_ne e] at hy
          refine (hall j y hy hj).mono fun t ht => ?_
          by_cases e2 : j < k
          · rw [if_pos e2] at ht; rw [if_pos (by omega)]; exact ht
          · rw [if_neg e2] at ht; rw [if_neg (by omega)]; exact ht
    refine (nextp_hs hc (by omega) (by omega)).bind fun r hr => ?_
    have w1 : IntKind.i64.wrap ((k : Int) + r.1) = (k : Int) + r.1 := wrap64 (by omega) (by omega)
    have w2 : IntKind.i64.wrap ((k : Int) + r.1 - 2) = (k : Int) + r.1 - 2 := wrap64 (by omega) (by omega)
    have w3 : IntKind.i64.wrap ((code'.length : Int) - 1) = (code'.length : Int) - 1 := wrap64 (by omega) (by omega)
    simp only [w1, w2, w3]
    exact .dec (fun _ => step r _ hr.1 (by omega) (by omega)) fun _ => .dec (fun _ => step r _ hr.1 (by omega) (by omega)) fun _ => step r _ hr.1 (by omega) (by omega)
  · have hlt : ¬ k < code'.length := fun h => hlt (Int.ofNat_lt.2 h)
    have hkl : k = code.length := by omega
    refine .lft (.pure ⟨hc, hpar, hsl, hsl', by simp only; omega, by simp only; omega, ?_, ?_⟩)
    · intro j x hj hj'
      simp only at hj hj' ⊢
      rw [hl] at hj' ⊢
      refine (hall j x hj hj').mono fun t ht => ?_
      rw [if_pos (by omega)] at ht
      exact ht
    · intro x hx
      simp only at hx
      rw [hl] at hx
      exact he' x hx

theorem j3_hs {l : List Int} {a : Int} (h : okC ⟨l, a⟩) {sl : List TSlot} {np i : Int} {ps : List Int} {most : Int} {code : List TInstr} (hpar : ps[i.toNat]? = some np) (hsl : sl.length ≤ 6) (hsl' : ∀ s ∈ sl, SlotOk s)
    (hlen : (code.length : Int) ≤ 6 + 5 * most) (hm : most ≤ 1000) (hb : ∀ x ∈ code, InsOk sl np i ps (· = -1) x) {e1 e2 : Int} (he : EndOk ⟨e1, 0, 0, 0, e2⟩) :
    Hs (draw_Codes_function_j3 code np sl l a e1 e2) fun p => okC p.2 ∧ FuncOk ps i most p.1 := by
  unfold draw_Codes_function_j3
  refine .chk (by simp; omega) (fix_hs h hpar hsl hsl' (by simp) (by simp; omega) hm ?_ ?_)
  · intro k x hx hk
    simp only [List.length_append, List.length_singleton] at hk
    rw [List.getElem?_append_left (by omega)] at hx
    exact hb x (List.mem_of_getElem? hx)
  · intro x hx
    simp at hx
    subst hx
    exact he

theorem function_hs {c : Tdraw_Codes} (h : okC c) {i : Int} {ps : List Int} {most : Int} (hi : 0 ≤ i) (hi' : i < ps.length) (hps : ParOk ps) (hm0 : 0 ≤ most) (hm : most ≤ 1000) :
    Hs (draw_Codes_function c i ps most) fun p => okC p.2 ∧ FuncOk ps i most p.1 := by
  unfold draw_Codes_function
  refine (Hs.ix hi hi' fun x hx => hx).bind fun np hnp => (slots_hs h (by omega) (by omega)).bind fun sl hsl => ?_
  obtain ⟨hc0, hsl1, hsl2⟩ := hsl
  have hnp4 := hps.1 np (List.mem_of_getElem? hnp)
  refine Hs.loop (fun s => okC ⟨s.1, s.2.1⟩ ∧ 0 ≤ s.2.2.2 ∧ s.2.2.2 ≤ sl.1.length ∧ (s.2.2.1.length : Int) ≤ s.2.2.2 ∧ ∀ x ∈ s.2.2.1, InsOk sl.1 np i ps (· = -1) x) (fun s => sl.1.length - s.2.2.2.toNat) ⟨hc0, by simp, by simp, by simp, by simp⟩ ?_
  rintro ⟨l, a, code, s⟩ ⟨hc, hs0, hs1, hcl, hall⟩
  simp only at hc hs0 hs1 hcl hall
  unfold draw_Codes_function_b1
  refine .dec (fun hlt => ?_) fun hlt => ?_
  · have hlt : s < sl.1.length := hlt
    have w : IntKind.i64.wrap (s + 1) = s + 1 := wrap64 (by omega) (by omega)
    refine (nextp_hs hc (by omega) (by omega)).bind fun r hr => .dec (fun _ => ?_) fun _ => ?_
    · refine (nextp_hs hr.1 (by omega) (by omega)).bind fun q hq => .chk (by simp; omega) (.cnt ⟨⟨hq.1, by simp only [w]; omega, by simp only [w]; omega, by simp only [w, List.length_append, List.length_singleton]; omega, ?_⟩, by simp only [w]; omega⟩)
      intro y hy
      rcases List.mem_append.1 hy with h2 | h2
      · exact hall y h2
      · rw [List.mem_singleton] at h2; subst h2
        exact .store _ _ hs0 hlt hq.2
    · exact .cnt ⟨⟨hr.1, by simp only [w]; omega, by simp only [w]; omega, by simp only [w]; omega, hall⟩, by simp only [w]; omega⟩
  · have w : IntKind.i64.wrap (most + 1) = most + 1 := wrap64 (by omega) (by omega)
    rw [w]
    refine .lft ((nextp_hs hc (by omega) (by omega)).bind fun r hr => ?_)
    refine Hs.loop (fun s => okC ⟨s.1, s.2.1⟩ ∧ s.2.2.2.1 = sl.1 ∧ 0 ≤ s.2.2.2.2 ∧ s.2.2.2.2 ≤ most ∧ (s.2.2.1.length : Int) ≤ 6 + 5 * (most - s.2.2.2.2) ∧ ∀ x ∈ s.2.2.1, InsOk sl.1 np i ps (· = -1) x) (fun s => s.2.2.2.2.toNat) ⟨hr.1, rfl, hr.2.1, by simp only; omega, by simp only; omega, hall⟩ ?_
    rintro ⟨l, a, code, sl', n⟩ ⟨hc, rfl, hn0, hn1, hcl, hall⟩
    simp only at hc hn0 hn1 hcl hall
    unfold draw_Codes_function_b2
    refine .dec (fun hlt => ?_) fun hlt => .lft ?_
    · have hlt : 0 < n := hlt
      have w : IntKind.i64.wrap (n - 1) = n - 1 := wrap64 (by omega) (by omega)
      refine (body_hs hc (· = -1) (by simp only; omega) hnp4.2 hi hi' hps).bind fun b hb => .chk (by simp; omega) ?_
      have hall2 : ∀ x ∈ code ++ b.1, InsOk sl.1 np i ps (· = -1) x := by
        intro y hy
        rcases List.mem_append.1 hy with h2 | h2
        · exact hall y h2
        · exact hb.2.2 y h2
      have hall3 : ∀ x, InsOk sl.1 np i ps (· = -1) x → ∀ y ∈ (code ++ b.1) ++ [x], InsOk sl.1 np i ps (· = -1) y := by
        intro x hx y hy
        rcases List.mem_append.1 hy with h2 | h2
        · exact hall2 y h2
        · rw [List.mem_singleton] at h2; subst h2; exact hx
      have hbl := hb.2.1
      refine (nextp_hs hb.1 (by omega) (by omega)).bind fun r hr => .beq (fun _ => ?_) fun _ => .beq (fun _ => ?_) fun _ => ?_
      · refine (nextp_hs hr.1 (by omega) (by omega)).bind fun q hq => .chk (by simp; omega) (.cnt ⟨⟨hq.1, rfl, by simp only [w]; omega, by simp only [w]; omega, by simp only [w, List.length_append, List.length_singleton]; omega, hall3 _ (.branch _ _ hq.2 rfl)⟩, by simp only [w]; omega⟩)
      · refine (nextp_hs hr.1 (by omega) (by omega)).bind fun q hq => .beq (fun _ => ?_) fun _ => ?_
        · exact .chk (by simp; omega) (.cnt ⟨⟨hq.1, rfl, by simp only [w]; omega, by simp only [w]; omega, by simp only [w, List.length_append, List.length_singleton]; omega, hall3 _ (.jump _ rfl)⟩, by simp only [w]; omega⟩)
        · exact .cnt ⟨⟨hq.1, rfl, by simp only [w]; omega, by simp only [w]; omega, by simp only [w, List.length_append]; omega, hall2⟩, by simp only [w]; omega⟩
      · exact .cnt ⟨⟨hr.1, rfl, by simp only [w]; omega, by simp only [w]; omega, by simp only [w, List.length_append]; omega, hall2⟩, by simp only [w]; omega⟩
    · refine (nextp_hs hc (by omega) (by omega)).bind fun r hr => .beq (fun _ => ?_) fun _ => ?_
      · exact (word_hs hr.1).bind fun q hq => j3_hs hq.1 hnp (by omega) hsl2 (by omega) hm hall (.inr ⟨_, hq.2, rfl⟩)
      · exact j3_hs hr.1 hnp (by omega) hsl2 (by omega) hm hall (.inl rfl)

/-- a program as it is drawn -/
def ProgOk (funcs most : Int) (p : TProgram) : Prop :=
  ∃ ps, ParOk ps ∧ ps[0]? = some 0 ∧ 1 ≤ ps.length ∧ (ps.length : Int) ≤ funcs ∧ p.Funcs.length = ps.length ∧ ∀ (j : Nat) f, p.Funcs[j]? = some f → FuncOk ps j most f

theorem program_hs {c : Tdraw_Codes} (h : okC c) {funcs most : Int} (hf : 1 ≤ funcs) (hf' : funcs ≤ 1000) (hm0 : 0 ≤ most) (hm : most ≤ 1000) :
    Hs (draw_Codes_Program c funcs most) fun p => okC p.2 ∧ ProgOk funcs most p.1 := by
  unfold draw_Codes_Program
  refine (nextp_hs h hf (by omega)).bind fun r hr => ?_
  refine Hs.loop (fun s => okC ⟨s.1, s.2.1⟩ ∧ (∀ v ∈ s.2.2.1, 0 ≤ v ∧ v < 4) ∧ s.2.2.1[0]? = some 0 ∧ 0 ≤ s.2.2.2 ∧ (s.2.2.1.length : Int) + s.2.2.2 ≤ funcs) (fun s => s.2.2.2.toNat) ⟨hr.1, by simp, by simp, hr.2.1, by simp; omega⟩ ?_
  rintro ⟨l, a, ps, n⟩ ⟨hc, hv, hz, hn0, hn1⟩
  simp only at hc hv hz hn0 hn1
  have hp1 : 1 ≤ ps.length := by have := (List.getElem?_eq_some_iff.1 hz).1; omega
  unfold draw_Codes_Program_b1
  refine .dec (fun hlt => ?_) fun hlt => .lft ?_
  · have hlt : 0 < n := hlt
    have w : IntKind.i64.wrap (n - 1) = n - 1 := wrap64 (by omega) (by omega)
    refine (nextp_hs hc (by omega) (by omega)).bind fun q hq => .chk (by simp; omega) (.cnt ⟨⟨hq.1, ?_, by simp only; rw [List.getElem?_append_left (by omega)]; exact hz, by simp only [w]; omega, by simp only [w, List.length_append, List.length_singleton]; omega⟩, by simp only [w]; omega⟩)
    intro y hy
    rcases List.mem_append.1 hy with h2 | h2
    · exact hv y h2
    · rw [List.mem_singleton] at h2; subst h2; exact hq.2
  · have hps : ParOk ps := ⟨hv, by omega⟩
    refine Hs.loop (fun s => okC ⟨s.1, s.2.1⟩ ∧ s.2.2.2.2 = ps ∧ ∃ i : Nat, s.2.2.2.1 = (i : Int) ∧ i ≤ ps.length ∧ s.2.2.1.length = i ∧ ∀ (j : Nat) f, s.2.2.1[j]? = some f → FuncOk ps j most f) (fun s => ps.length - s.2.2.2.1.toNat) ⟨hc, rfl, 0, rfl, Nat.zero_le _, rfl, fun j f hj => by simp at hj⟩ ?_
    rintro ⟨l, a, fs, i', ps'⟩ ⟨hc, hpe, i, hie, hi, hfl, hall⟩
    simp only at hc hpe hie hi hfl hall
    subst hpe hie
    unfold draw_Codes_Program_b2
    refine .dec (fun hlt => ?_) fun hlt => .lft (.pure ⟨hc, ps', hps, hz, hp1, by omega, ?_, hall⟩)
    · have hlt : i < ps'.length := Int.ofNat_lt.1 hlt
      have w := wrap_succ (show i < 9223372036854775807 by have := hps.2; omega)
      have hpl := hps.2
      refine .chk (by simp; omega) ((function_hs hc (i := (i : Int)) (ps := ps') (by omega) (by omega) hps hm0 hm).bind fun f hf => .chk (by simp; omega) (.cnt ⟨⟨hf.1, rfl, i + 1, w, hlt, by simp; omega, ?_⟩, by simp only [w]; omega⟩))
      intro j g hg
      simp only [List.nil_append] at hg
      by_cases e : j < fs.length
      · rw [List.getElem?_append_left e] at hg; exact hall j g hg
      · have hj : j = i := by
          have := (List.getElem?_eq_some_iff.1 hg).1
          simp at this; omega
        subst hj
        rw [List.getElem?_append_right (by omega), hfl] at hg
        simp at hg
        subst hg
        exact hf.2
    · have hlt : ¬ i < ps'.length := fun h => hlt (Int.ofNat_lt.2 h)
      simp only; omega
end Go.Proofs.YtcelninhkmhjkaaDoor
namespace Go.Proofs.YtcelninhkmhjkaaDoor
open Go Go.Dw Go.Proofs

attribute [local simp] chk_pos Bool.cond_eq_ite

def codeOf (f : TFunc) (k : Nat) : TInstr := (f.Code[k]?).getD default
/-- the instructions that may follow instruction x at k -/
def nextN (x : TInstr) (k : Int) : List Int :=
  if x.Op = 20 then [x.A] else if x.Op = 23 ∨ x.Op = 24 then [] else
  if x.Op = 21 then (if x.B < k + 1 then [x.B, k + 1] else if k + 1 < x.B then [k + 1, x.B] else [k + 1]) else [k + 1]

theorem rnext_eq {f : TFunc} {k : Nat} {x : TInstr} (h : f.Code[k]? = some x) (hk : k < 9223372036854775807) : ref13_Next f (k : Int) = some (nextN x k) := by
  obtain ⟨hl, hx⟩ := List.getElem?_eq_some_iff.1 h
  have hnl : ¬ f.Code.length ≤ k := by omega
  have w : IntKind.i64.wrap ((k : Int) + 1) = (k : Int) + 1 := wrap64 (by omega) (by omega)
  unfold ref13_Next ref13_Next_j1 nextN
  obtain ⟨op, a, b, c, i⟩ := x
  by_cases h20 : op = 20
  · subst h20; simp [hx, hl, hnl, show ¬ (k : Int) < 0 by omega]
  · have e20 : (op == 20) = false := by simpa using h20
    by_cases h23 : op = 23
    · subst h23; simp [hx, hl, hnl, show ¬ (k : Int) < 0 by omega, ref13_Next_j2]
    · have e23 : (op == 23) = false := by simpa using h23
      by_cases h24 : op = 24
      · subst h24; simp [hx, hl, hnl, show ¬ (k : Int) < 0 by omega, ref13_Next_j2]
      · have e24 : (op == 24) = false := by simpa using h24
        by_cases h21 : op = 21
        · subst h21
          by_cases hb : b < (k : Int) + 1
          · simp [hx, hl, hnl, show ¬ (k : Int) < 0 by omega, ref13_Next_j2, w, hb]
          · by_cases hb' : (k : Int) + 1 < b
            · simp [hx, hl, hnl, show ¬ (k : Int) < 0 by omega, ref13_Next_j2, w, hb, hb']
            · simp [hx, hl, hnl, show ¬ (k : Int) < 0 by omega, ref13_Next_j2, w, hb, hb']
        · have e21 : (op == 21) = false := by simpa using h21
          simp [hx, hl, hnl, show ¬ (k : Int) < 0 by omega, ref13_Next_j2, w, e20, e23, e24, e21, h20, h23, h24, h21]

def usesN (x : TInstr) : List Int := if x.Op = 15 ∨ x.Op = 17 then [x.B] else []
/-- code whose steps stay inside, and whose slots are there -/
structure FlowOk (f : TFunc) : Prop where
  len : 1 ≤ f.Code.length
  len' : f.Code.length ≤ 10000
  slots : f.Slots.length ≤ 500
  next : ∀ (k : Nat) x, f.Code[k]? = some x → ∀ j ∈ nextN x k, 0 ≤ j ∧ j < f.Code.length
  uses : ∀ x ∈ f.Code, ∀ v ∈ usesN x, 0 ≤ v ∧ v < f.Slots.length

theorem FuncOk.flow {ps : List Int} {i most : Int} {f : TFunc} (h : FuncOk ps i most f) (hm : most ≤ 1000) : FlowOk f := by
  have hl := h.len
  have hl' := h.len'
  have hs := h.slots
  refine ⟨hl, by omega, by omega, fun k x hx j hj => ?_, fun x hx v hv => ?_⟩
  · have hkl := (List.getElem?_eq_some_iff.1 hx).1
    by_cases hk : k + 1 < f.Code.length
    · have hins := h.body k x hx hk
      cases hins with
      | jump t h1 => simp [nextN] at hj; subst hj; exact h1
      | branch a t h0 h1 =>
        simp [nextN] at hj
        have : j = t ∨ j = (k : Int) + 1 := by
          split at hj
          · simpa using hj
          · split at hj
            · simp at hj; omega
            · simp at hj; omega
        rcases this with rfl | rfl <;> omega
      | bin op a b c h1 h2 h3 h4 h5 h6 =>
        simp [nextN, show op ≠ 20 by omega, show op ≠ 23 by omega, show op ≠ 24 by omega, show op ≠ 21 by omega] at hj
        subst hj; omega
      | un op a h1 h2 =>
        simp [nextN, show op ≠ 20 by omega, show op ≠ 23 by omega, show op ≠ 24 by omega, show op ≠ 21 by omega] at hj
        subst hj; omega
      | _ => simp [nextN] at hj; subst hj; omega
    · have he := h.last x (by rw [show f.Code.length - 1 = k by omega]; exact hx)
      rcases he with rfl | ⟨w, _, rfl⟩ <;> simp [nextN] at hj
  · obtain ⟨k, hk⟩ := List.getElem?_of_mem hx
    have hkl := (List.getElem?_eq_some_iff.1 hk).1
    by_cases hk1 : k + 1 < f.Code.length
    · have hins := h.body k x hk hk1
      cases hins with
      | load a b h0 h1 h2 => simp [usesN] at hv; subst hv; exact ⟨h1, h2⟩
      | move a b h0 h1 h2 => simp [usesN] at hv; subst hv; exact ⟨h1, h2⟩
      | bin op a b c h1 h2 h3 h4 h5 h6 => simp [usesN, show op ≠ 15 by omega, show op ≠ 17 by omega] at hv
      | un op a h1 h2 => simp [usesN, show op ≠ 15 by omega, show op ≠ 17 by omega] at hv
      | _ => simp [usesN] at hv
    · have he := h.last x (by rw [show f.Code.length - 1 = k by omega]; exact hk)
      rcases he with rfl | ⟨w, _, rfl⟩ <;> simp [usesN] at hv
end Go.Proofs.YtcelninhkmhjkaaDoor
namespace Go.Proofs.YtcelninhkmhjkaaDoor
open Go Go.Dw Go.Proofs

attribute [local simp] chk_pos Bool.cond_eq_ite

/-- a set of numbers below n -/
def SetIn (n : Int) (s : List Int) : Prop := IsSet s ∧ ∀ x ∈ s, x < n
theorem SetIn.nil (n : Int) : SetIn n [] := ⟨IsSet.nil, fun x hx => by cases hx⟩
theorem SetIn.add {n m : Int} {s : List Int} (h : SetIn n s) (hm : 0 ≤ m ∧ m < n) (hn : n ≤ 512) : SetIn n (addN m s) ∧ ref04_Add s m = some (addN m s) := by
  have hl := h.1.length_le
  refine ⟨?_, add_eq s m (by omega)⟩
  unfold addN
  rw [if_pos (by omega)]
  refine ⟨h.1.insN (by omega), fun x hx => ?_⟩
  rw [mem_insN] at hx
  rcases hx with rfl | hx
  · exact hm.2
  · exact h.2 x hx

def RowsIn (n : Int) (g : List (List Int)) : Prop := ∀ s ∈ g, SetIn n s
theorem RowsIn.set {n : Int} {g : List (List Int)} (h : RowsIn n g) {i : Nat} {s : List Int} (hs : SetIn n s) : RowsIn n (g.set i s) := by
  intro x hx
  rcases List.mem_or_eq_of_mem_set hx with h1 | rfl
  · exact h x h1
  · exact hs
end Go.Proofs.YtcelninhkmhjkaaDoor
namespace Go.Proofs.YtcelninhkmhjkaaDoor
open Go Go.Dw Go.Proofs

attribute [local simp] chk_pos Bool.cond_eq_ite

def inN (x : TInstr) (s : List Int) : List Int := unionN (if x.Op = 16 ∨ x.Op = 17 then s.filter (· != x.A) else s) (usesN x)

theorem in_eq (x : TInstr) (s : List Int) (h : s.length ≤ 900000) : ref15_In x s = some (inN x s) := by
  obtain ⟨op, a, b, c, i⟩ := x
  have hu : ref15_Uses ⟨op, a, b, c, i⟩ = some (usesN ⟨op, a, b, c, i⟩) := by
    unfold ref15_Uses usesN
    by_cases h15 : op = 15
    · simp [h15]
    · have e15 : (op == 15) = false := by simpa using h15
      by_cases h17 : op = 17
      · simp [h17]
      · have e17 : (op == 17) = false := by simpa using h17
        simp [h15, e15, h17, e17]
  have hul : (usesN ⟨op, a, b, c, i⟩).length ≤ 1 := by unfold usesN; split <;> simp
  have hfl : (s.filter (· != a)).length ≤ s.length := List.length_filter_le ..
  have hr := remove_eq s a (by omega)
  have hu1 := union_eq (s.filter (· != a)) (usesN ⟨op, a, b, c, i⟩) (by omega)
  have hu2 := union_eq s (usesN ⟨op, a, b, c, i⟩) (by omega)
  unfold ref15_In ref15_Defines ref15_Removable inN
  by_cases h16 : op = 16
  · subst h16; simp [hr, hu, hu1]
  · have e16 : (op == 16) = false := by simpa using h16
    by_cases h17 : op = 17
    · subst h17; simp [hr, hu, hu1]
    · have e17 : (op == 17) = false := by simpa using h17
      simp [h16, e16, h17, e17, hu, hu2]

theorem inN_set {f : TFunc} (hf : FlowOk f) {x : TInstr} (hx : x ∈ f.Code) {s : List Int} (hs : SetIn f.Slots.length s) :
    SetIn f.Slots.length (inN x s) ∧ ∀ v, v ∈ inN x s ↔ (v ∈ s ∧ ¬ ((x.Op = 16 ∨ x.Op = 17) ∧ x.A = v)) ∨ v ∈ usesN x := by
  have hsl := hf.slots
  have h0 : SetIn f.Slots.length (if x.Op = 16 ∨ x.Op = 17 then s.filter (· != x.A) else s) := by
    split
    · exact ⟨hs.1.filter _, fun v hv => hs.2 v (List.mem_filter.1 hv).1⟩
    · exact hs
  obtain ⟨h1, h2⟩ := unionN_set (n := f.Slots.length) (by omega) (b := usesN x) h0 (hf.uses x hx)
  refine ⟨h1, fun v => ?_⟩
  unfold inN
  rw [h2]
  by_cases hd : x.Op = 16 ∨ x.Op = 17
  · simp only [hd, if_true, List.mem_filter, true_and]
    constructor
    · rintro (⟨h3, h4⟩ | h3)
      · exact .inl ⟨h3, fun e => by simp [e] at h4⟩
      · exact .inr h3
    · rintro (⟨h3, h4⟩ | h3)
      · exact .inl ⟨h3, by simpa using fun e : v = x.A => h4 e.symm⟩
      · exact .inr h3
  · simp [hd]

def codeAt (f : TFunc) (j : Int) : TInstr := (f.Code[j.toNat]?).getD default
def outAt (l : List (List Int)) (j : Int) : List Int := (l[j.toNat]?).getD []
def stepRow (f : TFunc) (l : List (List Int)) (k : Int) : List Int := (nextN (codeAt f k) k).foldl (fun o j => unionN o (inN (codeAt f j) (outAt l j))) []
def stepL (f : TFunc) (l : List (List Int)) : List (List Int) := (List.range f.Code.length).map fun k => stepRow f l (k : Nat)

/-- an annotation of the right size, of sets of slots -/
def LvOk (f : TFunc) (l : List (List Int)) : Prop := l.length = f.Code.length ∧ ∀ s ∈ l, SetIn f.Slots.length s

theorem fold_set {f : TFunc} (hf : FlowOk f) {l : List (List Int)} (hl : LvOk f l) : ∀ {js : List Int} {o : List Int}, (∀ j ∈ js, 0 ≤ j ∧ j < f.Code.length) → SetIn f.Slots.length o →
    SetIn f.Slots.length (js.foldl (fun o j => unionN o (inN (codeAt f j) (outAt l j))) o) ∧ ∀ v, v ∈ js.foldl (fun o j => unionN o (inN (codeAt f j) (outAt l j))) o ↔ v ∈ o ∨ ∃ j ∈ js, v ∈ inN (codeAt f j) (outAt l j)
  | [], o, _, ho => ⟨ho, fun v => by simp⟩
  | j :: js, o, hj, ho => by
    have hsl := hf.slots
    have h0 := hj j (List.mem_cons_self ..)
    have hc : codeAt f j ∈ f.Code := by
      unfold codeAt
      rw [List.getElem?_eq_getElem (show j.toNat < f.Code.length by omega)]
      exact List.getElem_mem _
    have ho' : SetIn f.Slots.length (outAt l j) := by
      unfold outAt
      rw [List.getElem?_eq_getElem (show j.toNat < l.length by have := hl.1; omega)]
      exact hl.2 _ (List.getElem_mem _)
    obtain ⟨h1, h2⟩ := inN_set hf hc ho'
    obtain ⟨h3, h4⟩ := unionN_set (n := f.Slots.length) (by omega) (b := inN (codeAt f j) (outAt l j)) ho fun x hx => ⟨(h1.1.2 x hx).1, h1.2 x hx⟩
    obtain ⟨h5, h6⟩ := fold_set hf hl (fun q hq => hj q (List.mem_cons_of_mem _ hq)) h3
    refine ⟨h5, fun v => ?_⟩
    simp only [List.foldl_cons]
    rw [h6, h4]
    simp only [List.mem_cons, exists_eq_or_imp, or_assoc]

theorem stepRow_set {f : TFunc} (hf : FlowOk f) {l : List (List Int)} (hl : LvOk f l) {k : Nat} (hk : k < f.Code.length) :
    SetIn f.Slots.length (stepRow f l k) ∧ ∀ v, v ∈ stepRow f l k ↔ ∃ j ∈ nextN (codeAt f k) k, v ∈ inN (codeAt f j) (outAt l j) := by
  have hx : f.Code[k]? = some (codeAt f k) := by simp [codeAt, hk]
  obtain ⟨h1, h2⟩ := fold_set hf hl (js := nextN (codeAt f k) k) (hf.next k _ hx) (SetIn.nil _)
  exact ⟨h1, fun v => by unfold stepRow; rw [h2]; simp⟩
theorem stepL_ok {f : TFunc} (hf : FlowOk f) {l : List (List Int)} (hl : LvOk f l) : LvOk f (stepL f l) := by
  refine ⟨by simp [stepL], fun s hs => ?_⟩
  obtain ⟨k, hk, rfl⟩ := List.mem_map.1 hs
  exact (stepRow_set hf hl (List.mem_range.1 hk)).1

theorem step_eq {f : TFunc} (hf : FlowOk f) {l : List (List Int)} (hl : LvOk f l) : ref16_Step f ⟨l⟩ = some ⟨stepL f l⟩ := by
  have hlen := hf.len'
  unfold ref16_Step
  rw [chk_pos (by omega)]
  have key : Hs (LoopT (fun s : List (List Int) × Int => ref16_Step_b1 f ⟨l⟩ s.1 s.2) (List.replicate (f.Code.length : Int).toNat ([] : List Int), 0)) fun r => r = ⟨stepL f l⟩ := by
    refine Hs.loop (fun s => s.1.length = f.Code.length ∧ ∃ k : Nat, s.2 = (k : Int) ∧ k ≤ f.Code.length ∧ ∀ (j : Nat) r, s.1[j]? = some r → r = if j < k then stepRow f l j else []) (fun s => f.Code.length - s.2.toNat) ⟨by simp, 0, rfl, Nat.zero_le _, fun j r hj => ?_⟩ ?_
    · have := List.mem_of_getElem? hj
      rw [List.mem_replicate] at this
      simp [this.2]
    rintro ⟨x, k'⟩ ⟨hxl, k, hke, hk, hall⟩
    simp only at hxl hke hall
    subst hke
    by_cases hlt : k < f.Code.length
    · have w := wrap_succ (show k < 9223372036854775807 by omega)
      have hx : f.Code[k]? = some (codeAt f k) := by simp [codeAt, hlt]
      have hxk : x[k]? = some [] := by
        have h1 : x[k]? = some (x[k]'(by omega)) := List.getElem?_eq_getElem _
        have := hall k _ h1
        rw [h1, this, if_neg (by omega)]
      have hset : x.set k [] = x := by
        obtain ⟨h1, h2⟩ := List.getElem?_eq_some_iff.1 hxk
        rw [← h2]; exact List.set_getElem_self h1
      have inner := loop_list (body := fun s : List (List Int) × Int => ref16_Step_b3 (nextN (codeAt f k) k) k f ⟨l⟩ s.1 s.2) (nextN (codeAt f k) k) (fun (o : List Int) i => (x.set k o, i)) (fun o _ => SetIn f.Slots.length o)
        (fun o js => some (.inl (x.set k (js.foldl (fun o j => unionN o (inN (codeAt f j) (outAt l j))) o), ((k + 1 : Nat) : Int))))
        (fun o _ => ⟨_, by simp [ref16_Step_b3, ref16_Step_j2, w]; rfl, by simp⟩) (fun o i j r ho hd hi hj => by
          left
          have wi := wrap_succ (show i < 9223372036854775807 by
            have : (nextN (codeAt f k) k).length ≤ 2 := by unfold nextN; (repeat' split) <;> simp
            omega)
          have hjm := hf.next k _ hx j (List.mem_of_getElem? hj)
          have hjc : f.Code[j.toNat]? = some (codeAt f j) := by simp [codeAt, show j.toNat < f.Code.length by omega]
          have hjl : j.toNat < l.length := by have := hl.1; omega
          have hjo : l[j.toNat]? = some (outAt l j) := by simp [outAt, hjl]
          have hos : SetIn f.Slots.length (outAt l j) := hl.2 _ (List.mem_of_getElem? hjo)
          have hsl := hf.slots
          obtain ⟨g1, g2⟩ := inN_set hf (List.mem_of_getElem? hjc) hos
          obtain ⟨g3, g4⟩ := unionN_set (n := f.Slots.length) (by omega) (b := inN (codeAt f j) (outAt l j)) ho fun x hx => ⟨(g1.1.2 x hx).1, g1.2 x hx⟩
          have e1 := in_eq (codeAt f j) (outAt l j) (by have := hos.1.length_le; omega)
          have e2 := union_eq o (inN (codeAt f j) (outAt l j)) (by have := ho.1.length_le; have := g1.1.length_le; omega)
          obtain ⟨_, hje⟩ := List.getElem?_eq_some_iff.1 hj
          refine ⟨unionN o (inN (codeAt f j) (outAt l j)), g3, ?_, by simp⟩
          simp [ref16_Step_b3, hi, hje, hxl, hlt, ixO_pos _ hjm.1, hjc, hjo, e1, e2, wi]) [] (SetIn.nil _)
      simp only [hset] at inner
      refine ⟨.inl (x.set k (stepRow f l k), ((k + 1 : Nat) : Int)), ?_, ⟨by simpa using hxl, k + 1, rfl, hlt, fun j r hj => ?_⟩, by simp only; omega⟩
      · simp only [ref16_Step_b1, decide_eq_true (Int.ofNat_lt.2 hlt), cond_true, rnext_eq hx (by omega), Option.bind_some]
        exact inner
      · simp only at hj
        by_cases e : k = j
        · subst e
          rw [List.getElem?_set_self (by omega)] at hj
          obtain rfl := Option.some.inj hj
          rw [if_pos (by omega)]
        · rw [List.getElem?_set_ne e] at hj
          rw [hall j r hj]
          by_cases e2 : j < k
          · rw [if_pos e2, if_pos (by omega)]
          · rw [if_neg e2, if_neg (by omega)]
    · refine ⟨.inr ⟨x⟩, by simp [ref16_Step_b1, hlt], ?_⟩
      show TLive.mk x = ⟨stepL f l⟩
      congr 1
      refine List.ext_getElem (by simp [stepL, hxl]) fun j h1 h2 => ?_
      have := hall j _ (List.getElem?_eq_getElem h1)
      rw [this, if_pos (by omega)]
      simp [stepL]
  obtain ⟨r, h1, rfl⟩ := key
  exact h1

/-- row by row, every element -/
def LE (a b : List (List Int)) : Prop := ∀ (k : Nat) s t, a[k]? = some s → b[k]? = some t → ∀ v ∈ s, v ∈ t
theorem LE.trans {a b c : List (List Int)} (h1 : LE a b) (h2 : LE b c) (hl : a.length = b.length) : LE a c := by
  intro k s t hs ht v hv
  have hk := (List.getElem?_eq_some_iff.1 hs).1
  have hb : b[k]? = some (b[k]'(by omega)) := List.getElem?_eq_getElem _
  exact h2 k _ t hb ht v (h1 k s _ hs hb v hv)
theorem sum_le : ∀ {a b : List (List Int)}, a.length = b.length → (∀ s ∈ a, IsSet s) → (∀ s ∈ b, IsSet s) → LE a b → (a.map List.length).sum ≤ (b.map List.length).sum ∧ ((a.map List.length).sum = (b.map List.length).sum → a = b)
  | [], [], _, _, _, _ => ⟨Nat.le_refl _, fun _ => rfl⟩
  | [], y :: b, h, _, _, _ => by simp at h
  | x :: a, [], h, _, _, _ => by simp at h
  | x :: a, y :: b, h, ha, hb, hle => by
    have hsub := (ha x (List.mem_cons_self ..)).sub (hb y (List.mem_cons_self ..)) (hle 0 x y rfl rfl)
    obtain ⟨h1, h2⟩ := sum_le (a := a) (b := b) (by simpa using h) (fun s hs => ha s (List.mem_cons_of_mem _ hs)) (fun s hs => hb s (List.mem_cons_of_mem _ hs)) fun k s t hs ht => hle (k + 1) s t (by simpa using hs) (by simpa using ht)
    have hlen := hsub.length_le
    simp only [List.map_cons, List.sum_cons]
    refine ⟨by omega, fun he => ?_⟩
    rw [h2 (by omega), hsub.eq_of_length (by omega)]
theorem sum_bound : ∀ {a : List (List Int)}, (∀ s ∈ a, IsSet s) → (a.map List.length).sum ≤ 512 * a.length
  | [], _ => by simp
  | x :: a, ha => by
    have h1 := (ha x (List.mem_cons_self ..)).length_le
    have h2 := sum_bound (a := a) fun s hs => ha s (List.mem_cons_of_mem _ hs)
    simp only [List.map_cons, List.sum_cons, List.length_cons]
    omega

theorem inN_mono {f : TFunc} (hf : FlowOk f) {x : TInstr} (hx : x ∈ f.Code) {s t : List Int} (hs : SetIn f.Slots.length s) (ht : SetIn f.Slots.length t) (h : ∀ v ∈ s, v ∈ t) : ∀ v ∈ inN x s, v ∈ inN x t := by
  intro v hv
  rw [(inN_set hf hx hs).2] at hv
  rw [(inN_set hf hx ht).2]
  rcases hv with ⟨h1, h2⟩ | h1
  · exact .inl ⟨h v h1, h2⟩
  · exact .inr h1
theorem step_mono {f : TFunc} (hf : FlowOk f) {a b : List (List Int)} (ha : LvOk f a) (hb : LvOk f b) (h : LE a b) : LE (stepL f a) (stepL f b) := by
  intro k s t hs ht v hv
  have hk : k < f.Code.length := by have := (List.getElem?_eq_some_iff.1 hs).1; simpa [stepL] using this
  have e1 : s = stepRow f a k := by simp [stepL, hk] at hs; exact hs.symm
  have e2 : t = stepRow f b k := by simp [stepL, hk] at ht; exact ht.symm
  subst e1 e2
  rw [(stepRow_set hf ha hk).2] at hv
  rw [(stepRow_set hf hb hk).2]
  obtain ⟨j, hj, hv⟩ := hv
  have hx : f.Code[k]? = some (codeAt f k) := by simp [codeAt, hk]
  have hjm := hf.next k _ hx j hj
  have hjc : f.Code[j.toNat]? = some (codeAt f j) := by simp [codeAt, show j.toNat < f.Code.length by omega]
  have hja : a[j.toNat]? = some (outAt a j) := by simp [outAt, show j.toNat < a.length by have := ha.1; omega]
  have hjb : b[j.toNat]? = some (outAt b j) := by simp [outAt, show j.toNat < b.length by have := hb.1; omega]
  exact ⟨j, hj, inN_mono hf (List.mem_of_getElem? hjc) (ha.2 _ (List.mem_of_getElem? hja)) (hb.2 _ (List.mem_of_getElem? hjb)) (h _ _ _ hja hjb) v hv⟩

/-- the least solution -/
structure LeastOk (f : TFunc) (l : List (List Int)) : Prop where
  ok : LvOk f l
  fix : stepL f l = l
  least : ∀ b, LvOk f b → LE (stepL f b) b → LE l b

theorem solve_hs {f : TFunc} (hf : FlowOk f) : Hs (ref16_Solve f) fun l => LeastOk f l.Out := by
  have hlen := hf.len'
  unfold ref16_Solve
  refine .chk (by omega) ?_
  refine Hs.loop (fun l => LvOk f l ∧ LE l (stepL f l) ∧ ∀ b, LvOk f b → LE (stepL f b) b → LE l b) (fun l => 512 * f.Code.length - (l.map List.length).sum) ⟨⟨by simp, fun s hs => ?_⟩, fun k s t hs ht v hv => ?_, fun b _ _ k s t hs ht v hv => ?_⟩ ?_
  · rw [List.mem_replicate] at hs; rw [hs.2]; exact SetIn.nil _
  · have := List.mem_of_getElem? hs; rw [List.mem_replicate] at this; rw [this.2] at hv; cases hv
  · have := List.mem_of_getElem? hs; rw [List.mem_replicate] at this; rw [this.2] at hv; cases hv
  · rintro l ⟨hl, hle, hleast⟩
    have hl' := stepL_ok hf hl
    have e1 := step_eq hf hl
    have e2 : ref16_Same ⟨stepL f l⟩ ⟨l⟩ = some (decide (stepL f l = l)) := by
      unfold ref16_Same
      rw [sameall_eq _ _ (by have := hl'.1; simp only; omega) (fun s hs => by have := (hl'.2 s hs).1.length_le; omega)]
      rfl
    obtain ⟨s1, s2⟩ := sum_le (by rw [hl.1, hl'.1]) (fun s hs => (hl.2 s hs).1) (fun s hs => (hl'.2 s hs).1) hle
    have s3 := sum_bound fun s hs => (hl'.2 s hs).1
    rw [hl'.1] at s3
    unfold ref16_Solve_b1
    rw [e1, Option.bind_some, e2, Option.bind_some]
    by_cases he : stepL f l = l
    · simp only [he, decide_true, cond_true]
      exact .lft (.pure ⟨hl, he, hleast⟩)
    · simp only [he, decide_false, cond_false]
      refine .cnt ⟨⟨hl', step_mono hf hl hl' hle, fun b hb hb' => (step_mono hf hl hb (hleast b hb hb')).trans hb' (by rw [hl'.1, (stepL_ok hf hb).1])⟩, ?_⟩
      have : (l.map List.length).sum ≠ ((stepL f l).map List.length).sum := fun e => he (s2 e).symm
      simp only
      omega
end Go.Proofs.YtcelninhkmhjkaaDoor
namespace Go.Proofs.YtcelninhkmhjkaaDoor
open Go Go.Dw Go.Proofs

attribute [local simp] chk_pos Bool.cond_eq_ite

theorem euses_eq (x : TInstr) : effect_Uses x = some (usesN x) := by
  obtain ⟨op, a, b, c, i⟩ := x
  unfold effect_Uses usesN
  by_cases h15 : op = 15
  · simp [h15]
  · have e15 : (op == 15) = false := by simpa using h15
    by_cases h17 : op = 17
    · simp [h17]
    · have e17 : (op == 17) = false := by simpa using h17
      simp [h15, e15, h17, e17]
theorem edef_eq (x : TInstr) : effect_Defines x = some (if x.Op = 16 ∨ x.Op = 17 then (x.A, true) else (0, false)) := by
  obtain ⟨op, a, b, c, i⟩ := x
  unfold effect_Defines
  by_cases h16 : op = 16
  · simp [h16]
  · have e16 : (op == 16) = false := by simpa using h16
    by_cases h17 : op = 17
    · simp [h17]
    · have e17 : (op == 17) = false := by simpa using h17
      simp [h16, e16, h17, e17]
theorem uses_le (x : TInstr) : (usesN x).length ≤ 1 := by unfold usesN; split <;> simp
theorem uses_self (x : TInstr) (hu : ∀ v ∈ usesN x, 0 ≤ v ∧ v < 512) : unionN [] (usesN x) = usesN x := by
  unfold usesN at hu ⊢
  split
  · rename_i h
    rw [if_pos h] at hu
    have := hu x.B (by simp)
    simp [unionN, addN, insN, this]
  · rfl
theorem ein_eq {x : TInstr} {s : List Int} (hs : IsSet s) (hu : ∀ v ∈ usesN x, 0 ≤ v ∧ v < 512) : effect_In x s = some (inN x s) := by
  have hl := uses_le x
  have h1 := bs_of_eq hu (by omega)
  rw [uses_self x hu] at h1
  have h2 := bs_remove_eq hs x.A
  have h3 := bs_union_eq (hs.filter (· != x.A)) hu (by omega)
  have h4 := bs_union_eq hs hu (by omega)
  unfold effect_In inN
  rw [edef_eq, Option.bind_some, euses_eq]
  by_cases h : x.Op = 16 ∨ x.Op = 17
  · simp only [h, if_true, cond_true, Option.bind_some, h1, h2, h3]
  · simp only [h, if_false, cond_false, Option.bind_some, h1, h4]
theorem bs_minus_eq {a b : List Int} (ha : IsSet a) (hb : IsSet b) : bitset_Minus a b = some (a.filter fun v => !decide (v ∈ b)) := by
  obtain ⟨r, h1, h2⟩ := bs_minus_hs a b (by have := ha.length_le; omega) (by have := hb.length_le; omega)
  rw [h1, h2.eq (SetOf.of_set (ha.filter fun v => !decide (v ∈ b))) fun v _ _ => by simp [List.mem_filter]]
theorem rminus_eq (a b : List Int) (ha : a.length ≤ 16777215) (hb : b.length ≤ 9223372036854775807) : ref04_Minus a b = some (a.filter fun v => !decide (v ∈ b)) := by
  unfold ref04_Minus
  have := loop_list (body := fun p : List Int × Int => ref04_Minus_b1 a b p.1 p.2) a (fun (out : List Int) i => (out, i)) (fun out i => out.length ≤ i) (fun out l => some (out ++ l.filter fun v => !decide (v ∈ b)))
    (fun out _ => ⟨out, by simp [ref04_Minus_b1], by simp⟩) (fun out i x r ho hd hi hx => by
      have w := wrap_succ (show i < 9223372036854775807 by omega)
      obtain ⟨_, rfl⟩ := List.getElem?_eq_some_iff.1 hx
      left
      by_cases h : a[i] ∈ b
      · exact ⟨out, by omega, by simp [ref04_Minus_b1, hi, has_eq b _ hb, h, w], by simp [h]⟩
      · exact ⟨out ++ [a[i]], by simp; omega, by simp [ref04_Minus_b1, hi, has_eq b _ hb, h, w, show out.length ≤ 16777215 by omega], by simp [h]⟩)
    [] (by simp)
  simpa using this
end Go.Proofs.YtcelninhkmhjkaaDoor
namespace Go.Proofs.YtcelninhkmhjkaaDoor
open Go Go.Dw Go.Proofs

attribute [local simp] chk_pos Bool.cond_eq_ite

theorem compact_nil : Lib.compact ([] : List Int) = [] := by simp [Lib.compact, Lib.compactUpTo]
theorem compact_one (a : Int) : Lib.compact [a] = [a] := by simp [Lib.compact, Lib.compactUpTo, List.range_succ, Lib.keeps]
theorem compact_two (a b : Int) : Lib.compact [a, b] = if a = b then [a] else [a, b] := by
  by_cases h : a = b
  · subst h; simp [Lib.compact, Lib.compactUpTo, List.range_succ, Lib.keeps]
  · have h' : ¬ b = a := fun e => h e.symm
    simp [Lib.compact, Lib.compactUpTo, List.range_succ, Lib.keeps, h, h']
theorem sort_one (a : Int) : sortI [a] = [a] := by simp [sortI]
theorem sort_nil : sortI [] = [] := by simp [sortI]
theorem sort_two (a b : Int) : sortI [a, b] = if a ≤ b then [a, b] else [b, a] := by
  unfold sortI List.mergeSort
  by_cases h : a ≤ b <;> simp [List.MergeSort.Internal.splitInTwo, List.merge, h]

theorem fnext_eq {f : TFunc} {k : Nat} {x : TInstr} (h : f.Code[k]? = some x) (hk : k < 9223372036854775807) : flow_Next f (k : Int) = some (nextN x k) := by
  obtain ⟨hl, hx⟩ := List.getElem?_eq_some_iff.1 h
  have hnl : ¬ f.Code.length ≤ k := by omega
  have w : IntKind.i64.wrap ((k : Int) + 1) = (k : Int) + 1 := wrap64 (by omega) (by omega)
  unfold flow_Next flow_Next_j1 flow_Next_j2 nextN sir_Terminator
  obtain ⟨op, a, b, c, i⟩ := x
  by_cases h20 : op = 20
  · subst h20; simp [hx, hl, hnl, show ¬ (k : Int) < 0 by omega, sort_one, compact_one]
  · have e20 : (op == 20) = false := by simpa using h20
    by_cases h23 : op = 23
    · subst h23; simp [hx, hl, hnl, show ¬ (k : Int) < 0 by omega, sort_nil, compact_nil]
    · have e23 : (op == 23) = false := by simpa using h23
      by_cases h24 : op = 24
      · subst h24; simp [hx, hl, hnl, show ¬ (k : Int) < 0 by omega, sort_nil, compact_nil]
      · have e24 : (op == 24) = false := by simpa using h24
        by_cases h21 : op = 21
        · subst h21
          simp [hx, hl, hnl, show ¬ (k : Int) < 0 by omega, w, sort_two]
          by_cases hb : b < (k : Int) + 1
          · simp [hb, show ¬ (k : Int) + 1 ≤ b by omega, compact_two, show ¬ b = (k : Int) + 1 by omega]
          · by_cases hb' : (k : Int) + 1 < b
            · simp [hb, hb', show (k : Int) + 1 ≤ b by omega, compact_two, show ¬ (k : Int) + 1 = b by omega]
            · simp [hb, hb', show (k : Int) + 1 ≤ b by omega, compact_two, show (k : Int) + 1 = b by omega]
        · have e21 : (op == 21) = false := by simpa using h21
          simp [hx, hl, hnl, show ¬ (k : Int) < 0 by omega, w, e20, e23, e24, e21, h20, h23, h24, h21, sort_one, compact_one]
end Go.Proofs.YtcelninhkmhjkaaDoor
namespace Go.Proofs.YtcelninhkmhjkaaDoor
open Go Go.Dw Go.Proofs

attribute [local simp] chk_pos

theorem last_all {s : List Int} (hs : s.Pairwise (· < ·)) {n : Int} {h : s.length - 1 < s.length} (hl : s[s.length - 1] < n) : ∀ v ∈ s, v < n := by
  intro v hv
  obtain ⟨i, hi, rfl⟩ := List.getElem_of_mem hv
  by_cases e : i = s.length - 1
  · subst e; exact hl
  · have := List.pairwise_iff_getElem.1 hs i (s.length - 1) hi h (by omega)
    omega

/-- a row that is wrong -/
theorem wrong_hs (s : List Int) (f : TFunc) (hs : s.length ≤ maxLen) : Hs (livecheck_formed_1_fp s f) fun b => (b = false ↔ SetIn f.Slots.length s) := by
  have hm : maxLen ≤ 9223372036854775807 := by decide
  unfold livecheck_formed_1_fp
  rw [bcheck_eq s (by omega), Option.bind_some]
  by_cases hc : ascB none s = true
  · have hset := (asc_iff s).1 hc
    rw [hc]
    simp only [Bool.not_true, cond_false]
    refine .dec (fun hp => ?_) fun hp => ?_
    · have hp : 0 < s.length := by omega
      have hi : s.length - 1 < s.length := by omega
      have w : IntKind.i64.wrap ((s.length : Int) - 1) = ((s.length - 1 : Nat) : Int) := by rw [wrap64 (by omega) (by omega)]; omega
      rw [w, ixO_nat, List.getElem?_eq_getElem hi, Option.bind_some]
      refine .pure ⟨fun h => ⟨hset, last_all hset.1 (h := hi) (by simpa using h)⟩, fun h => ?_⟩
      have := h.2 _ (List.getElem_mem hi)
      simp; omega
    · have : s = [] := List.length_eq_zero_iff.1 (by omega)
      subst this
      exact .pure ⟨fun _ => SetIn.nil _, fun _ => rfl⟩
  · have hc' : ascB none s = false := by simpa using hc
    rw [hc']
    simp only [Bool.not_false, cond_true]
    exact .pure ⟨fun h => (by cases h), fun h => (hc ((asc_iff s).2 h.1)).elim⟩

theorem formed_hs (f : TFunc) (l : TLive) (hl : l.Out.length ≤ maxLen) (hr : ∀ s ∈ l.Out, s.length ≤ maxLen) : Hs (livecheck_formed f l) fun b => (b = true ↔ LvOk f l.Out) := by
  have hm : maxLen ≤ 9223372036854775807 := by decide
  unfold livecheck_formed
  refine .beq (fun he => ?_) fun hne => .pure ⟨fun h => (by cases h), fun h => (hne (by rw [h.1])).elim⟩
  have he : l.Out.length = f.Code.length := by omega
  have key : Hs (slices_IndexFunc_int_int_formed_1 l.Out f) fun i => (0 ≤ i ↔ ¬ ∀ s ∈ l.Out, SetIn f.Slots.length s) := by
    unfold slices_IndexFunc_int_int_formed_1
    refine Hs.loop (fun i => ∃ k : Nat, i = (k : Int) ∧ k ≤ l.Out.length ∧ ∀ (j : Nat) s, j < k → l.Out[j]? = some s → SetIn f.Slots.length s) (fun i => l.Out.length - i.toNat) ⟨0, rfl, Nat.zero_le _, fun j s h => absurd h (Nat.not_lt_zero _)⟩ ?_
    rintro _ ⟨k, rfl, hk, hall⟩
    unfold slices_IndexFunc_int_int_formed_1_b1
    refine .dec (fun hlt => ?_) fun hge => ?_
    · have hlt : k < l.Out.length := by omega
      rw [ixO_nat, List.getElem?_eq_getElem hlt, Option.bind_some]
      refine (wrong_hs _ f (hr _ (List.getElem_mem hlt))).bind fun b hb => .cond (fun h => ?_) fun h => ?_
      · refine .lft (.pure ⟨fun _ hh => ?_, fun _ => by omega⟩)
        have := hb.2 (hh _ (List.getElem_mem hlt))
        rw [h] at this; cases this
      · rw [wrap_succ (by omega)]
        refine .cnt ⟨⟨k + 1, rfl, hlt, fun j s hj hs => ?_⟩, by simp only; omega⟩
        by_cases e : j = k
        · subst e
          rw [List.getElem?_eq_getElem hlt] at hs
          cases hs
          exact hb.1 h
        · exact hall j s (by omega) hs
    · refine .lft (.pure ⟨fun h => by omega, fun h => (h fun s hs => ?_).elim⟩)
      obtain ⟨j, hj⟩ := List.getElem?_of_mem hs
      exact hall j s (by have := (List.getElem?_eq_some_iff.1 hj).1; omega) hj
  unfold slices_ContainsFunc_int_int_formed_1
  refine Hs.bind (P := fun b => (b = true ↔ ¬ ∀ s ∈ l.Out, SetIn f.Slots.length s)) (key.bind fun i hi => .pure (by simpa using hi)) fun b hb => .pure ?_
  constructor
  · intro h
    have hb' : b = false := by simpa using h
    refine ⟨he, fun s hs => ?_⟩
    refine Classical.byContradiction fun hn => ?_
    have := hb.2 fun hh => hn (hh s hs)
    rw [hb'] at this; cases this
  · intro h
    have : ¬ b = true := fun hbt => hb.1 hbt h.2
    simpa using this

theorem shape_hs (f : TFunc) (l : TLive) (hl : l.Out.length ≤ maxLen) (hr : ∀ s ∈ l.Out, s.length ≤ maxLen) : Hs (ref17_shape f l) fun b => (b = true ↔ LvOk f l.Out) := by
  have hm : maxLen ≤ 9223372036854775807 := by decide
  unfold ref17_shape
  refine .bne (fun hne => .pure ⟨fun h => (by cases h), fun h => (hne (by rw [h.1])).elim⟩) fun he => ?_
  have he : l.Out.length = f.Code.length := by omega
  refine Hs.loop (fun i => ∃ k : Nat, i = (k : Int) ∧ k ≤ l.Out.length ∧ ∀ (j : Nat) s, j < k → l.Out[j]? = some s → SetIn f.Slots.length s) (fun i => l.Out.length - i.toNat) ⟨0, rfl, Nat.zero_le _, fun j s h => absurd h (Nat.not_lt_zero _)⟩ ?_
  rintro _ ⟨k, rfl, hk, hall⟩
  unfold ref17_shape_b1
  refine .dec (fun hlt => ?_) fun hge => ?_
  · have hlt : k < l.Out.length := by omega
    have hg : l.Out[k]? = some l.Out[k] := List.getElem?_eq_getElem hlt
    have hlen := hr _ (List.getElem_mem hlt)
    rw [ixO_nat, hg, Option.bind_some, check_eq _ (by omega), Option.bind_some]
    have next : SetIn f.Slots.length l.Out[k] → Hs (cnt (R := Bool) (IntKind.i64.wrap ((k : Int) + 1))) (Rnd (fun i : Int => ∃ k : Nat, i = (k : Int) ∧ k ≤ l.Out.length ∧ ∀ (j : Nat) s, j < k → l.Out[j]? = some s → SetIn f.Slots.length s) (fun i => l.Out.length - i.toNat) (k : Int) fun b => (b = true ↔ LvOk f l.Out)) := by
      intro hset
      rw [wrap_succ (by omega)]
      refine .cnt ⟨⟨k + 1, rfl, hlt, fun j s hj hs => ?_⟩, by simp only; omega⟩
      by_cases e : j = k
      · subst e
        rw [hg] at hs
        cases hs
        exact hset
      · exact hall j s (by omega) hs
    have stop : ¬ SetIn f.Slots.length l.Out[k] → ((false : Bool) = true ↔ LvOk f l.Out) := fun hn => ⟨fun h => (by cases h), fun h => (hn (h.2 _ (List.getElem_mem hlt))).elim⟩
    by_cases hc : ascB none l.Out[k] = true
    · have hset := (asc_iff _).1 hc
      rw [hc]
      simp only [Bool.not_true, cond_false, Option.bind_some]
      refine .dec (fun hp => ?_) fun hp => ?_
      · have hp : 0 < l.Out[k].length := by omega
        have hi : l.Out[k].length - 1 < l.Out[k].length := by omega
        have w : IntKind.i64.wrap ((l.Out[k].length : Int) - 1) = ((l.Out[k].length - 1 : Nat) : Int) := by rw [wrap64 (by omega) (by omega)]; omega
        rw [w, ixO_nat, List.getElem?_eq_getElem hi, Option.bind_some]
        refine .dec (fun h => .lft (.pure (stop fun hh => ?_))) fun h => next ⟨hset, last_all hset.1 (h := hi) (by omega)⟩
        have := hh.2 _ (List.getElem_mem hi)
        omega
      · have h0 : l.Out[k] = [] := List.length_eq_zero_iff.1 (by omega)
        exact next (by rw [h0]; exact SetIn.nil _)
    · have hc' : ascB none l.Out[k] = false := by simpa using hc
      rw [hc']
      simp only [Bool.not_false, cond_true]
      exact .lft (.pure (stop fun h => hc ((asc_iff _).2 h.1)))
  · refine .lft (.pure ⟨fun _ => ⟨he, fun s hs => ?_⟩, fun _ => rfl⟩)
    obtain ⟨j, hj⟩ := List.getElem?_of_mem hs
    exact hall j s (by have := (List.getElem?_eq_some_iff.1 hj).1; omega) hj

/-- what is missing at an instruction -/
def missN (f : TFunc) (l : List (List Int)) (k : Int) : List Int :=
  (nextN (codeAt f k) k).foldl (fun o j => unionN o ((inN (codeAt f j) (outAt l j)).filter fun v => !decide (v ∈ outAt l k))) []

theorem LvOk.at {f : TFunc} {l : List (List Int)} (h : LvOk f l) {j : Int} (h0 : 0 ≤ j) (h1 : j < f.Code.length) : l[j.toNat]? = some (outAt l j) ∧ SetIn f.Slots.length (outAt l j) := by
  have hl : j.toNat < l.length := by have := h.1; omega
  have : l[j.toNat]? = some (outAt l j) := by simp [outAt, hl]
  exact ⟨this, h.2 _ (List.mem_of_getElem? this)⟩
theorem FlowOk.at {f : TFunc} (_h : FlowOk f) {j : Int} (h0 : 0 ≤ j) (h1 : j < f.Code.length) : f.Code[j.toNat]? = some (codeAt f j) ∧ codeAt f j ∈ f.Code := by
  have : f.Code[j.toNat]? = some (codeAt f j) := by simp [codeAt, show j.toNat < f.Code.length by omega]
  exact ⟨this, List.mem_of_getElem? this⟩
theorem FlowOk.uses512 {f : TFunc} (h : FlowOk f) {x : TInstr} (hx : x ∈ f.Code) : ∀ v ∈ usesN x, 0 ≤ v ∧ v < 512 := fun v hv => by have := h.uses x hx v hv; have := h.slots; omega

/-- one more instruction that follows -/
theorem miss_step {f : TFunc} (hf : FlowOk f) {l : List (List Int)} (hl : LvOk f l) {k j : Int} (hk : 0 ≤ k ∧ k < f.Code.length) (hj : 0 ≤ j ∧ j < f.Code.length) {o : List Int} (ho : SetIn f.Slots.length o) :
    SetIn f.Slots.length (unionN o ((inN (codeAt f j) (outAt l j)).filter fun v => !decide (v ∈ outAt l k))) ∧ ∀ v, v ∈ unionN o ((inN (codeAt f j) (outAt l j)).filter fun v => !decide (v ∈ outAt l k)) ↔ v ∈ o ∨ (v ∈ inN (codeAt f j) (outAt l j) ∧ v ∉ outAt l k) := by
  have hsl := hf.slots
  obtain ⟨g1, g2⟩ := inN_set hf (hf.at hj.1 hj.2).2 (hl.at hj.1 hj.2).2
  obtain ⟨g3, g4⟩ := unionN_set (n := f.Slots.length) (by omega) (b := (inN (codeAt f j) (outAt l j)).filter fun v => !decide (v ∈ outAt l k)) ho fun x hx => ⟨(g1.1.2 x (List.mem_filter.1 hx).1).1, g1.2 x (List.mem_filter.1 hx).1⟩
  exact ⟨g3, fun v => by rw [g4]; simp [List.mem_filter]⟩
theorem miss_fold {f : TFunc} (hf : FlowOk f) {l : List (List Int)} (hl : LvOk f l) {k : Int} (hk : 0 ≤ k ∧ k < f.Code.length) : ∀ {js : List Int} {o : List Int}, (∀ j ∈ js, 0 ≤ j ∧ j < f.Code.length) → SetIn f.Slots.length o →
    SetIn f.Slots.length (js.foldl (fun o j => unionN o ((inN (codeAt f j) (outAt l j)).filter fun v => !decide (v ∈ outAt l k))) o) ∧ ∀ v, v ∈ js.foldl (fun o j => unionN o ((inN (codeAt f j) (outAt l j)).filter fun v => !decide (v ∈ outAt l k))) o ↔ v ∈ o ∨ ∃ j ∈ js, v ∈ inN (codeAt f j) (outAt l j) ∧ v ∉ outAt l k
  | [], o, _, ho => ⟨ho, fun v => by simp⟩
  | j :: js, o, hj, ho => by
    obtain ⟨h1, h2⟩ := miss_step hf hl hk (hj j (List.mem_cons_self ..)) ho
    obtain ⟨h5, h6⟩ := miss_fold hf hl hk (fun q hq => hj q (List.mem_cons_of_mem _ hq)) h1
    refine ⟨h5, fun v => ?_⟩
    simp only [List.foldl_cons]
    rw [h6, h2]
    simp only [List.mem_cons, exists_eq_or_imp, or_assoc]
theorem miss_set {f : TFunc} (hf : FlowOk f) {l : List (List Int)} (hl : LvOk f l) {k : Nat} (hk : k < f.Code.length) : SetIn f.Slots.length (missN f l k) ∧ ∀ v, v ∈ missN f l k ↔ ∃ j ∈ nextN (codeAt f k) k, v ∈ inN (codeAt f j) (outAt l j) ∧ v ∉ outAt l k := by
  have hx : f.Code[k]? = some (codeAt f k) := by simp [codeAt, hk]
  obtain ⟨h1, h2⟩ := miss_fold hf hl (k := (k : Int)) ⟨by omega, by omega⟩ (hf.next k _ hx) (SetIn.nil _)
  exact ⟨h1, fun v => by unfold missN; rw [h2]; simp⟩
theorem next_le (x : TInstr) (k : Int) : (nextN x k).length ≤ 2 := by unfold nextN; (repeat' split) <;> simp

theorem demands_eq {f : TFunc} (hf : FlowOk f) {l : TLive} (hl : LvOk f l.Out) {k : Nat} (hk : k < f.Code.length) : livecheck_demands_sets_1_First_1p f k l [] l k = some (true, missN f l.Out k) := by
  have hlen := hf.len'
  have hx : f.Code[k]? = some (codeAt f k) := by simp [codeAt, hk]
  have hn := hf.next k _ hx
  have h2 := next_le (codeAt f k) k
  obtain ⟨hk1, hk2⟩ := hl.at (j := (k : Int)) (by omega) (by omega)
  simp only [Int.toNat_natCast] at hk1
  unfold livecheck_demands_sets_1_First_1p
  rw [fnext_eq hx (by omega), Option.bind_some]
  have := loop_list (body := fun s : List Int × Int => livecheck_demands_sets_1_First_1p_b1 (nextN (codeAt f k) k) f l l k s.1 s.2) (nextN (codeAt f k) k) (fun (o : List Int) i => (o, i)) (fun o _ => SetIn f.Slots.length o)
    (fun o js => some (true, js.foldl (fun o j => unionN o ((inN (codeAt f j) (outAt l.Out j)).filter fun v => !decide (v ∈ outAt l.Out k))) o))
    (fun o _ => ⟨_, by simp [livecheck_demands_sets_1_First_1p_b1]; rfl, by simp⟩) (fun o i j r ho hd hi hj => by
      left
      have wi := wrap_succ (show i < 9223372036854775807 by omega)
      have hjm := hn j (List.mem_of_getElem? hj)
      obtain ⟨c1, c2⟩ := hf.at hjm.1 hjm.2
      obtain ⟨o1, o2⟩ := hl.at hjm.1 hjm.2
      obtain ⟨g1, g2⟩ := miss_step hf hl (k := (k : Int)) ⟨by omega, by omega⟩ hjm ho
      obtain ⟨s1, s2⟩ := inN_set hf c2 o2
      have hsl := hf.slots
      have e1 := ein_eq o2.1 (hf.uses512 c2)
      have e2 := bs_minus_eq s1.1 hk2.1
      have e3 := bs_union_eq ho.1 (b := (inN (codeAt f j) (outAt l.Out j)).filter fun v => !decide (v ∈ outAt l.Out k)) (fun x hx => by have := s1.1.2 x (List.mem_filter.1 hx).1; exact this) (by have := (s1.1.filter fun v => !decide (v ∈ outAt l.Out k)).length_le; omega)
      obtain ⟨_, hje⟩ := List.getElem?_eq_some_iff.1 hj
      refine ⟨_, g1, ?_, rfl⟩
      simp [livecheck_demands_sets_1_First_1p_b1, livecheck_sets_1_fp, livecheck_First_1_p_fp_fp, hi, hje, ixO_pos _ hjm.1, c1, o1, e1, hk1, e2, e3, wi]) [] (SetIn.nil _)
  exact this

theorem rmissing_eq {f : TFunc} (hf : FlowOk f) {l : TLive} (hl : LvOk f l.Out) {k : Nat} (hk : k < f.Code.length) : ref17_missing f l k = some (missN f l.Out k) := by
  have hlen := hf.len'
  have hx : f.Code[k]? = some (codeAt f k) := by simp [codeAt, hk]
  have hn := hf.next k _ hx
  have h2 := next_le (codeAt f k) k
  obtain ⟨hk1, hk2⟩ := hl.at (j := (k : Int)) (by omega) (by omega)
  simp only [Int.toNat_natCast] at hk1
  unfold ref17_missing
  rw [rnext_eq hx (by omega), Option.bind_some]
  have := loop_list (body := fun s : List Int × Int => ref17_missing_b1 (nextN (codeAt f k) k) f l k s.1 s.2) (nextN (codeAt f k) k) (fun (o : List Int) i => (o, i)) (fun o _ => SetIn f.Slots.length o)
    (fun o js => some (js.foldl (fun o j => unionN o ((inN (codeAt f j) (outAt l.Out j)).filter fun v => !decide (v ∈ outAt l.Out k))) o))
    (fun o _ => ⟨_, by simp [ref17_missing_b1]; rfl, by simp⟩) (fun o i j r ho hd hi hj => by
      left
      have wi := wrap_succ (show i < 9223372036854775807 by omega)
      have hjm := hn j (List.mem_of_getElem? hj)
      obtain ⟨c1, c2⟩ := hf.at hjm.1 hjm.2
      obtain ⟨o1, o2⟩ := hl.at hjm.1 hjm.2
      obtain ⟨g1, g2⟩ := miss_step hf hl (k := (k : Int)) ⟨by omega, by omega⟩ hjm ho
      obtain ⟨s1, s2⟩ := inN_set hf c2 o2
      have hsl := hf.slots
      have e1 := in_eq (codeAt f j) (outAt l.Out j) (by have := o2.1.length_le; omega)
      have e2 := rminus_eq (inN (codeAt f j) (outAt l.Out j)) (outAt l.Out k) (by have := s1.1.length_le; omega) (by have := hk2.1.length_le; omega)
      have e3 := union_eq o ((inN (codeAt f j) (outAt l.Out j)).filter fun v => !decide (v ∈ outAt l.Out k)) (by have := (s1.1.filter fun v => !decide (v ∈ outAt l.Out k)).length_le; have := ho.1.length_le; omega)
      obtain ⟨_, hje⟩ := List.getElem?_eq_some_iff.1 hj
      refine ⟨_, g1, ?_, rfl⟩
      simp [ref17_missing_b1, hi, hje, ixO_pos _ hjm.1, c1, o1, e1, hk1, e2, e3, wi]) [] (SetIn.nil _)
  exact this

/-- the first instruction at which something is missing -/
def FirstR (f : TFunc) (l : List (List Int)) (r : Int × Int × Bool) : Prop :=
  (LvOk f l ∧ ∃ (k : Nat) (v : Int), k < f.Code.length ∧ (∀ j : Nat, j < k → missN f l j = []) ∧ (missN f l k)[0]? = some v ∧ r = ((k : Int), v, true)) ∨
  ((LvOk f l → ∀ j : Nat, j < f.Code.length → missN f l j = []) ∧ r = (0, 0, false))
theorem FirstR.unique {f : TFunc} {l : List (List Int)} {r q : Int × Int × Bool} (h : FirstR f l r) (k : FirstR f l q) : r = q := by
  rcases h with ⟨h0, i, v, h1, h2, h3, rfl⟩ | ⟨h1, rfl⟩ <;> rcases k with ⟨k0, j, u, k1, k2, k3, rfl⟩ | ⟨k1, rfl⟩
  · have : i = j := by
      rcases Nat.lt_trichotomy i j with hlt | he | hlt
      · rw [k2 i hlt] at h3; cases h3
      · exact he
      · rw [h2 j hlt] at k3; cases k3
    subst this
    rw [h3] at k3; cases k3; rfl
  · rw [k1 h0 i h1] at h3; cases h3
  · rw [h1 k0 j k1] at k3; cases k3
  · rfl
/-- an annotation that is accepted -/
def Acc (f : TFunc) (l : List (List Int)) : Prop := LvOk f l ∧ ∀ j : Nat, j < f.Code.length → missN f l j = []
theorem FirstR.acc {f : TFunc} {l : List (List Int)} {r : Int × Int × Bool} (h : FirstR f l r) (hl : LvOk f l) : r.2.2 = false ↔ Acc f l := by
  rcases h with ⟨h0, i, v, h1, h2, h3, rfl⟩ | ⟨h1, rfl⟩
  · exact ⟨fun h => (by cases h), fun h => by rw [h.2 i h1] at h3; cases h3⟩
  · exact ⟨fun _ => ⟨hl, h1 hl⟩, fun _ => rfl⟩

/-- rows of lengths that slices have -/
def LenOk (l : List (List Int)) : Prop := l.length ≤ maxLen ∧ ∀ s ∈ l, s.length ≤ maxLen

theorem first_hs {f : TFunc} (hf : FlowOk f) {l : TLive} (hl : LenOk l.Out) : Hs (livecheck_First f l) (FirstR f l.Out) := by
  have hlen := hf.len'
  unfold livecheck_First
  refine (formed_hs f l hl.1 hl.2).bind fun b hb => .cond (fun h => ?_) fun h => ?_
  · have hb' : ¬ b = true := by simpa using h
    exact .pure (.inr ⟨fun hh => (hb' (hb.2 hh)).elim, rfl⟩)
  · have hb' : b = true := by simpa using h
    have hok := hb.1 hb'
    refine Hs.loop (fun i => ∃ k : Nat, i = (k : Int) ∧ k ≤ f.Code.length ∧ ∀ j : Nat, j < k → missN f l.Out j = []) (fun i => f.Code.length - i.toNat) ⟨0, rfl, Nat.zero_le _, fun j h => absurd h (Nat.not_lt_zero _)⟩ ?_
    rintro _ ⟨k, rfl, hk, hall⟩
    unfold livecheck_First_b1
    refine .dec (fun hlt => ?_) fun hge => ?_
    · have hlt : k < f.Code.length := by omega
      rw [show livecheck_sets l = some l from rfl, Option.bind_some, demands_eq hf hok hlt, Option.bind_some]
      refine .dec (fun hp => ?_) fun hp => ?_
      · have hp : 0 < (missN f l.Out k).length := by simp only at hp; omega
        simp only [ixO_zero]
        have hg : (missN f l.Out k)[0]? = some ((missN f l.Out k)[0]) := List.getElem?_eq_getElem hp
        rw [hg, Option.bind_some]
        exact .lft (.pure (.inl ⟨hok, k, _, hlt, hall, hg, rfl⟩))
      · rw [wrap_succ (by omega)]
        refine .cnt ⟨⟨k + 1, rfl, hlt, fun j hj => ?_⟩, by simp only; omega⟩
        by_cases e : j = k
        · subst e; exact List.length_eq_zero_iff.1 (by simp only at hp; omega)
        · exact hall j (by omega)
    · exact .lft (.pure (.inr ⟨fun _ j hj => hall j (by omega), rfl⟩))
theorem rfirst_hs {f : TFunc} (hf : FlowOk f) {l : TLive} (hl : LenOk l.Out) : Hs (ref17_First f l) (FirstR f l.Out) := by
  have hlen := hf.len'
  unfold ref17_First
  refine (shape_hs f l hl.1 hl.2).bind fun b hb => .cond (fun h => ?_) fun h => ?_
  · have hb' : ¬ b = true := by simpa using h
    exact .pure (.inr ⟨fun hh => (hb' (hb.2 hh)).elim, rfl⟩)
  · have hb' : b = true := by simpa using h
    have hok := hb.1 hb'
    refine Hs.loop (fun i => ∃ k : Nat, i = (k : Int) ∧ k ≤ f.Code.length ∧ ∀ j : Nat, j < k → missN f l.Out j = []) (fun i => f.Code.length - i.toNat) ⟨0, rfl, Nat.zero_le _, fun j h => absurd h (Nat.not_lt_zero _)⟩ ?_
    rintro _ ⟨k, rfl, hk, hall⟩
    unfold ref17_First_b1
    refine .dec (fun hlt => ?_) fun hge => ?_
    · have hlt : k < f.Code.length := by omega
      rw [rmissing_eq hf hok hlt, Option.bind_some]
      refine .dec (fun hp => ?_) fun hp => ?_
      · have hp : 0 < (missN f l.Out k).length := by omega
        refine .chk (by omega) ?_
        have hg : (missN f l.Out k)[0]? = some ((missN f l.Out k)[0]) := List.getElem?_eq_getElem hp
        rw [show (0 : Int).toNat = 0 from rfl, hg, Option.bind_some]
        exact .lft (.pure (.inl ⟨hok, k, _, hlt, hall, hg, rfl⟩))
      · rw [wrap_succ (by omega)]
        refine .cnt ⟨⟨k + 1, rfl, hlt, fun j hj => ?_⟩, by simp only; omega⟩
        by_cases e : j = k
        · subst e; exact List.length_eq_zero_iff.1 (by omega)
        · exact hall j (by omega)
    · exact .lft (.pure (.inr ⟨fun _ j hj => hall j (by omega), rfl⟩))

theorem check_hs {f : TFunc} (hf : FlowOk f) {l : TLive} (hl : LenOk l.Out) : Hs (livecheck_Check f l) fun e => (e = 0 ∨ e = 11) ∧ (e = 0 ↔ Acc f l.Out) := by
  unfold livecheck_Check
  refine (formed_hs f l hl.1 hl.2).bind fun b hb => .cond (fun h => ?_) fun h => ?_
  · have hb' : ¬ b = true := by simpa using h
    exact .pure ⟨.inr rfl, fun h => by omega, fun h => (hb' (hb.2 h.1)).elim⟩
  · have hb' : b = true := by simpa using h
    refine (first_hs hf hl).bind fun r hr => .cond (fun h => .pure ⟨.inr rfl, fun h => by omega, fun h' => ?_⟩) fun h => .pure ⟨.inl rfl, fun _ => (hr.acc (hb.1 hb')).1 h, fun _ => rfl⟩
    rw [(hr.acc h'.1).2 h'] at h; cases h
theorem rcheck_hs {f : TFunc} (hf : FlowOk f) {l : TLive} (hl : LenOk l.Out) : Hs (ref17_Check f l) fun e => (e = 0 ∨ e = 11) ∧ (e = 0 ↔ Acc f l.Out) := by
  unfold ref17_Check
  refine (rfirst_hs hf hl).bind fun r hr => .cond (fun h => .pure ⟨.inr rfl, fun h => by omega, fun h' => ?_⟩) fun h => ?_
  · rw [(hr.acc h'.1).2 h'] at h; cases h
  · refine (shape_hs f l hl.1 hl.2).bind fun b hb => .cond (fun h => ?_) fun h2 => ?_
    · have hb' : ¬ b = true := by simpa using h
      exact .pure ⟨.inr rfl, fun h => by omega, fun h => (hb' (hb.2 h.1)).elim⟩
    · have hb' : b = true := by simpa using h2
      exact .pure ⟨.inl rfl, fun _ => (hr.acc (hb.1 hb')).1 h, fun _ => rfl⟩

theorem LvOk.len {f : TFunc} (hf : FlowOk f) {l : List (List Int)} (h : LvOk f l) : LenOk l := by
  have hm : (100000 : Nat) ≤ maxLen := by decide
  have := hf.len'; have := h.1
  exact ⟨by omega, fun s hs => by have := (h.2 s hs).1.length_le; omega⟩

/-- accepted: the step leads inside -/
theorem acc_iff {f : TFunc} (hf : FlowOk f) {l : List (List Int)} (hl : LvOk f l) : Acc f l ↔ LE (stepL f l) l := by
  constructor
  · rintro ⟨_, h⟩ k s t hs ht v hv
    have hk : k < f.Code.length := by have := (List.getElem?_eq_some_iff.1 ht).1; have := hl.1; omega
    have e1 : s = stepRow f l k := by simp [stepL, hk] at hs; exact hs.symm
    have e2 : t = outAt l k := by simp [outAt, ht]
    subst e1 e2
    rw [(stepRow_set hf hl hk).2] at hv
    obtain ⟨j, hj, hv⟩ := hv
    refine Classical.byContradiction fun hn => ?_
    have : v ∈ missN f l k := ((miss_set hf hl hk).2 v).2 ⟨j, hj, hv, hn⟩
    rw [h k hk] at this; cases this
  · intro h
    refine ⟨hl, fun k hk => ?_⟩
    refine List.eq_nil_iff_forall_not_mem.2 fun v hv => ?_
    obtain ⟨j, hj, h1, h2⟩ := ((miss_set hf hl hk).2 v).1 hv
    refine h2 (h k (stepRow f l k) (outAt l k) (by simp [stepL, hk]) ?_ v (((stepRow_set hf hl hk).2 v).2 ⟨j, hj, h1⟩))
    have := (hl.at (j := (k : Int)) (by omega) (by omega)).1
    simpa using this
theorem Acc.mem {f : TFunc} (hf : FlowOk f) {l : List (List Int)} (h : Acc f l) {k : Nat} (hk : k < f.Code.length) {j v : Int} (hj : j ∈ nextN (codeAt f k) k) (hv : v ∈ inN (codeAt f j) (outAt l j)) : v ∈ outAt l k := by
  refine Classical.byContradiction fun hn => ?_
  have : v ∈ missN f l k := ((miss_set hf h.1 hk).2 v).2 ⟨j, hj, hv, hn⟩
  rw [h.2 k hk] at this; cases this
theorem LeastOk.acc {f : TFunc} (hf : FlowOk f) {l : List (List Int)} (h : LeastOk f l) : Acc f l := by
  rw [acc_iff hf h.ok, h.fix]
  intro k s t hs ht v hv
  rw [hs] at ht; cases ht; exact hv
end Go.Proofs.YtcelninhkmhjkaaDoor
namespace Go.Proofs.YtcelninhkmhjkaaDoor
open Go Go.Dw Go.Proofs

def I64 (v : Int) : Prop := -9223372036854775808 ≤ v ∧ v ≤ 9223372036854775807
theorem i64_rng (n : Int) : I64 (IntKind.i64.wrap n) := by
  unfold I64; simp [IntKind.wrap, IntKind.signed, IntKind.bits]; omega

theorem int_hs {c : Tdraw_Codes} (h : okC c) : Hs (draw_Codes_Int c) fun p => okC p.2 ∧ I64 p.1 := by
  unfold draw_Codes_Int
  refine (nextp_hs h (by omega) (by omega)).bind fun r hr => .beq (fun _ => ?_) fun _ => ?_
  · refine (nextp_hs hr.1 (by simp) (by simp)).bind fun q hq => .chk ?_ ?_
    · simp at hq; simp; omega
    · refine (Hs.get hq.2.1 (by simpa using hq.2.2) fun x hx => List.mem_of_getElem? hx).bind fun x hx => .pure ⟨hq.1, ?_⟩
      simp at hx
      unfold I64
      simp only
      omega
  · exact (nextp_hs hr.1 (by omega) (by omega)).bind fun q hq => (nextp_hs hq.1 (by omega) (by omega)).bind fun u hu => .chk hu.2.1 (.pure ⟨hu.1, i64_rng _⟩)

/-- rows as an annotation's may be: sets, or a few numbers -/
def RowsOk (l : List (List Int)) : Prop := ∀ s ∈ l, s.length ≤ 512 ∧ ∀ v ∈ s, I64 v
def SetsOk (l : List (List Int)) : Prop := ∀ s ∈ l, IsSet s
theorem SetsOk.rows {l : List (List Int)} (h : SetsOk l) : RowsOk l := fun s hs => ⟨(h s hs).length_le, fun v hv => by have := (h s hs).2 v hv; unfold I64; omega⟩
theorem SetsOk.set {l : List (List Int)} (h : SetsOk l) {k : Nat} {s : List Int} (hs : IsSet s) : SetsOk (l.set k s) := by
  intro t ht
  rcases List.mem_or_eq_of_mem_set ht with h1 | rfl
  · exact h t h1
  · exact hs
theorem IsSet.add {s : List Int} (h : IsSet s) (n : Int) : IsSet (addN n s) := by
  unfold addN
  split
  · exact h.insN (by assumption)
  · exact h

theorem live_hs {c : Tdraw_Codes} (h : okC c) {f : TFunc} (hf : FlowOk f) : Hs (draw_Codes_Live c f) fun p => okC p.2 ∧ p.1.Out.length ≤ f.Code.length ∧ RowsOk p.1.Out := by
  have hlen := hf.len
  have hlen' := hf.len'
  have hsl := hf.slots
  unfold draw_Codes_Live
  refine (solve_hs hf).bind fun l hl => (nextp_hs h (by omega) (by omega)).bind fun r hr => .beq (fun _ => ?_) fun _ => ?_
  · exact .pure ⟨hr.1, by have := hl.ok.1; simp only; omega, SetsOk.rows fun s hs => (hl.ok.2 s hs).1⟩
  · refine .chk (by have := hl.ok.1; simp; omega) ((nextp_hs hr.1 (by omega) (by omega)).bind fun q hq => ?_)
    have j1 : ∀ {l : List Int} {a : Int} {x : List (List Int)}, okC ⟨l, a⟩ → x.length = f.Code.length → SetsOk x → Hs (draw_Codes_Live_j1 l a x) fun p => okC p.2 ∧ p.1.Out.length ≤ f.Code.length ∧ RowsOk p.1.Out := by
      intro l a x hc hx hs
      unfold draw_Codes_Live_j1
      refine (nextp_hs hc (by omega) (by omega)).bind fun r hr => .beq (fun _ => ?_) fun _ => .beq (fun _ => ?_) fun _ => ?_
      · refine .chk (by omega) (.pure ⟨hr.1, by simp; omega, fun s hm => hs.rows s (List.mem_of_mem_drop hm)⟩)
      · refine (int_hs hr.1).bind fun u hu => (int_hs hu.1).bind fun v hv => .chk (by omega) ((Hs.get (by omega) (by omega) fun x hx => hx).bind fun _ _ => .pure ⟨hv.1, by simp; omega, fun s hm => ?_⟩)
        rcases List.mem_or_eq_of_mem_set hm with h1 | rfl
        · exact hs.rows s h1
        · refine ⟨by simp, fun w hw => ?_⟩
          simp at hw
          rcases hw with rfl | rfl
          · exact hu.2
          · exact hv.2
      · exact .pure ⟨hr.1, by simp only; omega, hs.rows⟩
    refine Hs.loop (fun s => okC ⟨s.1, s.2.1⟩ ∧ s.2.2.1.length = f.Code.length ∧ SetsOk s.2.2.1 ∧ 0 ≤ s.2.2.2 ∧ s.2.2.2 < 4) (fun s => s.2.2.2.toNat) ⟨hq.1, by simpa using hl.ok.1, fun s hs => (hl.ok.2 s (by simpa using hs)).1, hq.2⟩ ?_
    rintro ⟨l, a, x, n⟩ ⟨hc, hx, hs, hn0, hn1⟩
    simp only at hc hx hs hn0 hn1
    have w : IntKind.i64.wrap (n - 1) = n - 1 := wrap64 (by omega) (by omega)
    unfold draw_Codes_Live_b2
    refine .dec (fun hlt => .dec (fun hsl0 => ?_) fun _ => .lft (j1 hc hx hs)) fun _ => .lft (j1 hc hx hs)
    have hlt : 0 < n := hlt
    unfold draw_Codes_Live_j3
    have j4 : ∀ {l : List Int} {a : Int} {y : List (List Int)}, okC ⟨l, a⟩ → y.length = f.Code.length → SetsOk y → Hs (draw_Codes_Live_j4 n l a y) (Rnd (fun s : List Int × Int × List (List Int) × Int => okC ⟨s.1, s.2.1⟩ ∧ s.2.2.1.length = f.Code.length ∧ SetsOk s.2.2.1 ∧ 0 ≤ s.2.2.2 ∧ s.2.2.2 < 4) (fun s => s.2.2.2.toNat) (‹List Int›, ‹Int›, x, n) (fun p : TLive × Tdraw_Codes => okC p.2 ∧ p.1.Out.length ≤ f.Code.length ∧ RowsOk p.1.Out)) := by
      intro l a y hc hy hs
      unfold draw_Codes_Live_j4
      exact .cnt ⟨⟨hc, hy, hs, by simp only [w]; omega, by simp only [w]; omega⟩, by simp only [w]; omega⟩
    refine (nextp_hs hc (by omega) (by omega)).bind fun u hu => (nextp_hs hu.1 (by omega) (by omega)).bind fun v hv => .beq (fun _ => ?_) fun _ => ?_
    · refine Hs.loop (fun s => s.1.length = f.Code.length ∧ SetsOk s.1 ∧ 0 ≤ s.2 ∧ s.2 ≤ f.Code.length) (fun s => f.Code.length - s.2.toNat) ⟨hx, hs, by simp, by simp⟩ ?_
      rintro ⟨y, k⟩ ⟨hy, hys, hk0, hk1⟩
      simp only at hy hys hk0 hk1
      unfold draw_Codes_Live_b5
      refine .dec (fun hk => ?_) fun _ => .lft (j4 hv.1 hy hys)
      have hk : k < y.length := hk
      have wk : IntKind.i64.wrap (k + 1) = k + 1 := wrap64 (by omega) (by omega)
      refine .chk ⟨hk0, hk⟩ ((Hs.get hk0 hk fun z hz => hys z (List.mem_of_getElem? hz)).bind fun z hz => ?_)
      rw [add_eq z u.1 (by have := hz.length_le; omega), Option.bind_some]
      refine .chk ⟨hk0, hk⟩ ((Hs.get hk0 hk fun z hz => hz).bind fun _ _ => .cnt ⟨⟨by simpa using hy, hys.set (hz.add _), by simp only [wk]; omega, by simp only [wk]; omega⟩, by simp only [wk]; omega⟩)
    · refine (nextp_hs hv.1 (n := (x.length : Int)) (by omega) (by omega)).bind fun k hk => (nextp_hs hk.1 (by omega) (by omega)).bind fun t ht => .beq (fun _ => ?_) fun _ => ?_
      · refine .chk hk.2 ((Hs.get hk.2.1 hk.2.2 fun z hz => hs z (List.mem_of_getElem? hz)).bind fun z hz => ?_)
        rw [add_eq z u.1 (by have := hz.length_le; omega), Option.bind_some]
        exact .chk hk.2 ((Hs.get hk.2.1 hk.2.2 fun z hz => hz).bind fun _ _ => j4 ht.1 (by simpa using hx) (hs.set (hz.add _)))
      · refine .chk hk.2 ((Hs.get hk.2.1 hk.2.2 fun z hz => hs z (List.mem_of_getElem? hz)).bind fun z hz => ?_)
        rw [remove_eq z u.1 (by have := hz.length_le; omega), Option.bind_some]
        exact .chk hk.2 ((Hs.get hk.2.1 hk.2.2 fun z hz => hz).bind fun _ _ => j4 ht.1 (by simpa using hx) (hs.set (hz.filter _)))
end Go.Proofs.YtcelninhkmhjkaaDoor
namespace Go.Proofs.YtcelninhkmhjkaaDoor
open Go Go.Dw Go.Proofs

theorem scene17_hs (codes : List Int) (hc : qL (qInt .u8) codes) : Hs (law17_scene codes) fun p => okC p.2.2 ∧ (∃ ps i, FuncOk ps i 12 p.1) ∧ p.2.1.Out.length ≤ p.1.Code.length ∧ RowsOk p.2.1.Out := by
  unfold law17_scene
  obtain ⟨c, e1, hcok⟩ := new_ok codes 250 hc (by omega) (by omega)
  rw [e1, Option.bind_some]
  refine (program_hs hcok (by omega) (by omega) (by omega) (by omega)).bind fun p hp => ?_
  obtain ⟨ps, hps, hz, hp1, hp2, hfl, hall⟩ := hp.2
  refine (nextp_hs hp.1 (by omega) (by omega)).bind fun k hk => ?_
  refine (Hs.ix hk.2.1 hk.2.2 fun f hf => hall _ f hf).bind fun f hf => ?_
  exact (live_hs hk.1 (hf.flow (by omega))).bind fun l hl => .pure ⟨hl.1, ⟨_, _, hf⟩, hl.2⟩
theorem RowsOk.len {f : TFunc} (hf : FlowOk f) {l : List (List Int)} (h1 : l.length ≤ f.Code.length) (h2 : RowsOk l) : LenOk l := by
  have hm : (100000 : Nat) ≤ maxLen := by decide
  have := hf.len'
  exact ⟨by omega, fun s hs => by have := (h2 s hs).1; omega⟩

abbrev awF : TFunc := TFunc.mk 0 ([(TSlot.mk 8 8)] : List TSlot) ([(TInstr.mk 16 0 0 0 0), (TInstr.mk 15 0 0 0 0), (TInstr.mk 23 0 0 0 0)] : List TInstr)
theorem awF_flow : FlowOk awF := by
  refine ⟨by simp, by simp, by simp, fun k x hx j hj => ?_, fun x hx v hv => ?_⟩
  · match k, hx with
    | 0, hx => simp at hx; subst hx; simp [nextN] at hj; subst hj; simp
    | 1, hx => simp at hx; subst hx; simp [nextN] at hj; subst hj; simp
    | 2, hx => simp at hx; subst hx; simp [nextN] at hj
    | n + 3, hx => simp at hx
  · simp at hx
    rcases hx with rfl | rfl | rfl <;> simp [usesN] at hv <;> subst hv <;> simp
theorem setIn_one {s : List Int} (h : s = [] ∨ s = [0]) : SetIn 1 s := by
  rcases h with rfl | rfl
  · exact SetIn.nil _
  · exact ⟨⟨List.pairwise_singleton _ _, fun x hx => by simp at hx; omega⟩, fun x hx => by simp at hx; omega⟩
theorem aw_acc : Acc awF [[0], [], []] := by
  refine ⟨⟨rfl, fun s hs => setIn_one ?_⟩, fun j hj => ?_⟩
  · simp at hs; rcases hs with rfl | rfl <;> simp
  · match j, hj with
    | 0, _ => decide
    | 1, _ => decide
    | 2, _ => decide
    | n + 3, h => exact absurd h (by simp)
theorem aw_not : ¬ Acc awF [[], [], []] := by
  rintro ⟨_, h⟩
  exact absurd (h 0 (by simp)) (by decide)
theorem awake17 : law17_awake = some true := by
  have hm : (100000 : Nat) ≤ maxLen := by decide
  obtain ⟨r, h1, h2, h3⟩ := check_hs awF_flow (l := ⟨[[0], [], []]⟩) ⟨by simp; omega, fun s hs => by simp at hs; rcases hs with rfl | rfl <;> simp; omega⟩
  obtain ⟨q, k1, k2, k3⟩ := check_hs awF_flow (l := ⟨[[], [], []]⟩) ⟨by simp; omega, fun s hs => by simp at hs; subst hs; simp⟩
  have hr : r = 0 := h3.2 aw_acc
  have hq : q = 11 := by
    rcases k2 with h | h
    · exact (aw_not (k3.1 h)).elim
    · exact h
  subst hr hq
  unfold law17_awake
  rw [h1, Option.bind_some, show ((0 : Int) == 0) = true from rfl, cond_true, k1, Option.bind_some]
  rfl

theorem acc_of {f : TFunc} (hf : FlowOk f) {l : List (List Int)} (hl : LvOk f l) (h : ∀ k : Nat, k < f.Code.length → ∀ j ∈ nextN (codeAt f k) k, ∀ v ∈ inN (codeAt f j) (outAt l j), v ∈ outAt l k) : Acc f l := by
  refine ⟨hl, fun k hk => List.eq_nil_iff_forall_not_mem.2 fun v hv => ?_⟩
  obtain ⟨j, hj, h1, h2⟩ := ((miss_set hf hl hk).2 v).1 hv
  exact h2 (h k hk j hj v h1)
theorem next_in {f : TFunc} (hf : FlowOk f) {k : Nat} (hk : k < f.Code.length) {j : Int} (hj : j ∈ nextN (codeAt f k) k) : 0 ≤ j ∧ j < f.Code.length :=
  hf.next k _ (by simp [codeAt, hk]) j hj
theorem outAt_map {l : List (List Int)} {g : List Int → List Int} {j : Int} (h1 : j.toNat < l.length) : outAt (l.map g) j = g (outAt l j) := by
  simp [outAt, h1]
theorem outAt_nat {l : List (List Int)} {k : Nat} (h : k < l.length) : outAt l (k : Int) = l[k] := by simp [outAt, h]

/-- a slot that is added everywhere -/
theorem acc_add {f : TFunc} (hf : FlowOk f) {l : List (List Int)} (h : Acc f l) {u : Int} (hu : 0 ≤ u ∧ u < f.Slots.length) : Acc f (l.map (addN u)) := by
  have hsl := hf.slots
  have hl : LvOk f (l.map (addN u)) := by
    refine ⟨by simpa using h.1.1, fun s hs => ?_⟩
    obtain ⟨t, ht, rfl⟩ := List.mem_map.1 hs
    exact (SetIn.add (h.1.2 t ht) hu (by omega)).1
  have mem : ∀ s, SetIn f.Slots.length s → ∀ v, v ∈ addN u s ↔ v = u ∨ v ∈ s := fun s hs => (SetIn.addU (n := f.Slots.length) hs hu (by omega)).2.2
  refine acc_of hf hl fun k hk j hj v hv => ?_
  have hjm := next_in hf hk hj
  have hll := h.1.1
  obtain ⟨o1, o2⟩ := h.1.at hjm.1 hjm.2
  obtain ⟨q1, q2⟩ := h.1.at (j := (k : Int)) (by omega) (by omega)
  obtain ⟨p1, p2⟩ := hl.at hjm.1 hjm.2
  rw [outAt_map (by omega)] at hv p2 ⊢
  rw [(inN_set hf (hf.at hjm.1 hjm.2).2 p2).2, mem _ o2] at hv
  rw [mem _ q2]
  by_cases e : v = u
  · exact .inl e
  · refine .inr (h.mem hf hk hj ?_)
    rw [(inN_set hf (hf.at hjm.1 hjm.2).2 o2).2]
    rcases hv with ⟨h1, h2⟩ | h1
    · rcases h1 with h1 | h1
      · exact (e h1).elim
      · exact .inl ⟨h1, h2⟩
    · exact .inr h1

/-- a loop that adds a slot to row after row: the rows so far -/
def addTo (u : Int) (l : List (List Int)) (k : Nat) : List (List Int) := (l.take k).map (addN u) ++ l.drop k
theorem addTo_zero (u : Int) (l : List (List Int)) : addTo u l 0 = l := by simp [addTo]
theorem addTo_all (u : Int) (l : List (List Int)) : addTo u l l.length = l.map (addN u) := by simp [addTo]
theorem addTo_length (u : Int) (l : List (List Int)) {k : Nat} (hk : k ≤ l.length) : (addTo u l k).length = l.length := by simp [addTo]; omega
theorem addTo_get {u : Int} {l : List (List Int)} {k : Nat} (hk : k < l.length) : (addTo u l k)[k]? = some l[k] := by
  unfold addTo
  rw [List.getElem?_append_right (by simp; omega)]
  simp [show min k l.length = k by omega, hk]
theorem addTo_set {u : Int} {l : List (List Int)} {k : Nat} (hk : k < l.length) : (addTo u l k).set k (addN u l[k]) = addTo u l (k + 1) := by
  unfold addTo
  rw [List.set_append_right _ _ (by simp; omega)]
  have e1 : k - ((l.take k).map (addN u)).length = 0 := by simp; omega
  rw [e1, List.drop_eq_getElem_cons hk, List.set_cons_zero, List.take_succ_eq_append_getElem hk, List.map_append, List.append_assoc]
  rfl
end Go.Proofs.YtcelninhkmhjkaaDoor
namespace Go.Proofs.YtcelninhkmhjkaaDoor
open Go Go.Dw Go.Proofs

/-- one row made smaller -/
theorem lv_set {f : TFunc} {l : List (List Int)} (h : LvOk f l) (k : Nat) (p : Int → Bool) : LvOk f (l.set k ((outAt l (k : Nat)).filter p)) := by
  refine ⟨by simpa using h.1, fun s hs => ?_⟩
  by_cases hk : k < l.length
  · rcases List.mem_or_eq_of_mem_set hs with h1 | rfl
    · exact h.2 s h1
    · have hm : outAt l (k : Nat) ∈ l := by rw [outAt_nat hk]; exact List.getElem_mem hk
      exact ⟨(h.2 _ hm).1.filter _, fun x hx => (h.2 _ hm).2 x (List.mem_filter.1 hx).1⟩
  · rw [List.set_eq_of_length_le (by omega)] at hs
    exact h.2 s hs
theorem outAt_set {l : List (List Int)} {k : Nat} {s : List Int} {j : Int} (h0 : 0 ≤ j) (hk : k < l.length) : outAt (l.set k s) j = if j = k then s else outAt l j := by
  unfold outAt
  rw [List.getElem?_set]
  by_cases e : j = k
  · subst e; simp [hk]
  · rw [if_neg e, if_neg (by omega)]
/-- the demands of a smaller annotation are smaller -/
theorem in_set_sub {f : TFunc} (hf : FlowOk f) {l : List (List Int)} (hl : LvOk f l) {k : Nat} (hk : k < f.Code.length) (p : Int → Bool) {j v : Int} (h0 : 0 ≤ j) (h1 : j < f.Code.length) (hv : v ∈ inN (codeAt f j) (outAt (l.set k ((outAt l (k : Nat)).filter p)) j)) : v ∈ inN (codeAt f j) (outAt l j) := by
  have hkl : k < l.length := by have := hl.1; omega
  have hl' := lv_set hl k p
  refine inN_mono hf (hf.at h0 h1).2 (hl'.at h0 h1).2 (hl.at h0 h1).2 (fun u hu => ?_) v hv
  rw [outAt_set h0 hkl] at hu
  split at hu
  · rename_i e; subst e; exact (List.mem_filter.1 hu).1
  · exact hu
/-- accepted but for one row -/
theorem acc_set_iff {f : TFunc} (hf : FlowOk f) {l : List (List Int)} (h : Acc f l) {k : Nat} (hk : k < f.Code.length) (p : Int → Bool) :
    Acc f (l.set k ((outAt l (k : Nat)).filter p)) ↔ ∀ j ∈ nextN (codeAt f k) k, ∀ v ∈ inN (codeAt f j) (outAt (l.set k ((outAt l (k : Nat)).filter p)) j), v ∈ (outAt l (k : Nat)).filter p := by
  have hl' := lv_set h.1 k p
  have hkl : k < l.length := by have := h.1.1; omega
  have hself : outAt (l.set k ((outAt l (k : Nat)).filter p)) (k : Nat) = (outAt l (k : Nat)).filter p := by rw [outAt_set (by omega) hkl, if_pos rfl]
  constructor
  · intro ha j hj v hv
    have := ha.mem hf hk hj hv
    rwa [hself] at this
  · intro hh
    refine acc_of hf hl' fun i hi j hj v hv => ?_
    by_cases e : i = k
    · subst e; rw [hself]; exact hh j hj v hv
    · have hjm := next_in hf hi hj
      have := h.mem hf hi hj (in_set_sub hf h.1 hk p hjm.1 hjm.2 hv)
      rw [outAt_set (by omega) hkl, if_neg (by omega)]
      exact this
/-- nothing can be left out of the least solution -/
theorem least_not {f : TFunc} (hf : FlowOk f) {l : List (List Int)} (h : LeastOk f l) {k : Nat} (hk : k < f.Code.length) {v : Int} (hv : v ∈ outAt l (k : Nat)) : ¬ Acc f (l.set k ((outAt l (k : Nat)).filter (· != v))) := by
  intro ha
  have hkl : k < l.length := by have := h.ok.1; omega
  have hle := h.least _ ha.1 ((acc_iff hf ha.1).1 ha)
  have := hle k (outAt l (k : Nat)) ((outAt l (k : Nat)).filter (· != v)) (by rw [outAt_nat hkl]; exact List.getElem?_eq_getElem hkl) (by rw [List.getElem?_set_self hkl]) v hv
  simp [List.mem_filter] at this

theorem set_len {f : TFunc} (hf : FlowOk f) {l : List (List Int)} (h : LvOk f l) (k : Nat) (p : Int → Bool) : LenOk (l.set k ((outAt l (k : Nat)).filter p)) := (lv_set h k p).len hf
end Go.Proofs.YtcelninhkmhjkaaDoor
namespace Go.Proofs.YtcelninhkmhjkaaDoor
open Go Go.Dw Go.Proofs

attribute [local simp] chk_pos

theorem has_fp_eq {t : BS} (ht : WellB t) (n : Int) : bitset_set_int_has_fp t n = some (decide (0 ≤ n ∧ n < 512) && hasB t n) := by
  unfold bitset_set_int_has_fp
  rw [within_eq, Option.bind_some]
  by_cases h : 0 ≤ n ∧ n < 512
  · rw [decide_eq_true h]
    obtain ⟨h0, h1⟩ := h
    have hi : n.toNat / 64 < 8 := by omega
    have hw := ht.word hi
    simp only [cond_true, Bool.true_and]
    rw [quo64 h0 h1, chk_pos (by omega), Int.toNat_natCast, wordB_get hi, Option.bind_some, chk_pos (rem64 n).1, (rem64 n).2 h0 h1]
    have e : Nat.min (n.toNat % 64) IntKind.u64.bits = n.toNat % 64 := Nat.min_eq_left (by show n.toNat % 64 ≤ 64; omega)
    have e2 : (wordB t (n.toNat / 64)).fdiv (2 ^ (n.toNat % 64)) = (((wordB t (n.toNat / 64)).toNat / 2 ^ (n.toNat % 64) : Nat) : Int) := by
      rw [Int.fdiv_eq_ediv_of_nonneg _ (Int.pow_nonneg (by omega))]
      have : wordB t (n.toNat / 64) = (((wordB t (n.toNat / 64)).toNat : Nat) : Int) := by have := hw.1; omega
      rw [this, Int.toNat_natCast, Int.natCast_ediv, Int.natCast_pow]; rfl
    have hlt : (wordB t (n.toNat / 64)).toNat / 2 ^ (n.toNat % 64) < 18446744073709551616 := Nat.lt_of_le_of_lt (Nat.div_le_self ..) hw.toNat_lt
    rw [e, e2, and_W (WW.nat hlt) ⟨by omega, by omega⟩]
    congr 1
    unfold hasB bitW
    rw [Int.toNat_natCast, show (1 : Int).toNat = 1 from rfl, Nat.and_one_is_mod]
    rw [Nat.testBit_eq_decide_div_mod_eq]
    by_cases hb : (wordB t (n.toNat / 64)).toNat / 2 ^ (n.toNat % 64) % 2 = 1
    · simp [hb]
    · simp only [hb, decide_false]
      have : (wordB t (n.toNat / 64)).toNat / 2 ^ (n.toNat % 64) % 2 = 0 := by omega
      rw [this]; rfl
  · rw [decide_eq_false h]; rfl

theorem bs_within_hs (a b : List Int) (ha : a.length ≤ 9000000000000000000) (hb : b.length ≤ 9000000000000000000) (hr : ∀ v ∈ a, 0 ≤ v ∧ v < 512) : Hs (bitset_Within a b) fun r => (r = true ↔ ∀ v ∈ a, v ∈ b) := by
  unfold bitset_Within
  refine (of_hs b hb).bind fun t ht => ?_
  have key : Hs (slices_IndexFunc_int_int_Within_1fp a t) fun i => (0 ≤ i ↔ ¬ ∀ v ∈ a, v ∈ b) := by
    unfold slices_IndexFunc_int_int_Within_1fp
    refine Hs.loop (fun i => ∃ k : Nat, i = (k : Int) ∧ k ≤ a.length ∧ ∀ (j : Nat) v, j < k → a[j]? = some v → v ∈ b) (fun i => a.length - i.toNat) ⟨0, rfl, Nat.zero_le _, fun j s h => absurd h (Nat.not_lt_zero _)⟩ ?_
    rintro _ ⟨k, rfl, hk, hall⟩
    unfold slices_IndexFunc_int_int_Within_1fp_b1
    refine .dec (fun hlt => ?_) fun hge => ?_
    · have hlt : k < a.length := by omega
      have hm := List.getElem_mem hlt
      rw [ixO_nat, List.getElem?_eq_getElem hlt, Option.bind_some]
      unfold bitset_Within_1_fp
      rw [has_fp_eq ht.1, Option.bind_some, Option.bind_some, ht.2 _ (hr _ hm).1 (hr _ hm).2, decide_eq_true (hr _ hm), Bool.true_and]
      refine .cond (fun h => ?_) fun h => ?_
      · refine .lft (.pure ⟨fun _ hh => ?_, fun _ => by omega⟩)
        have := hh _ hm
        simp [this] at h
      · have hin : a[k] ∈ b := by simpa using h
        rw [wrap_succ (by omega)]
        refine .cnt ⟨⟨k + 1, rfl, hlt, fun j s hj hs => ?_⟩, by simp only; omega⟩
        by_cases e : j = k
        · subst e
          rw [List.getElem?_eq_getElem hlt] at hs
          cases hs
          exact hin
        · exact hall j s (by omega) hs
    · refine .lft (.pure ⟨fun h => by omega, fun h => (h fun s hs => ?_).elim⟩)
      obtain ⟨j, hj⟩ := List.getElem?_of_mem hs
      exact hall j s (by have := (List.getElem?_eq_some_iff.1 hj).1; omega) hj
  unfold slices_ContainsFunc_int_int_Within_1fp
  refine Hs.bind (P := fun b' => (b' = true ↔ ¬ ∀ v ∈ a, v ∈ b)) (key.bind fun i hi => .pure (by simpa using hi)) fun b' hb' => .pure ?_
  constructor
  · intro h
    have h' : b' = false := by simpa using h
    refine Classical.byContradiction fun hn => ?_
    have := hb'.2 hn
    rw [h'] at this; cases this
  · intro h
    have : ¬ b' = true := fun hbt => hb'.1 hbt h
    simpa using this

/-- with one row replaced, an instruction has all that it needs -/
theorem holds_hs {f : TFunc} (hf : FlowOk f) {l : TLive} (hl : LvOk f l.Out) {k : Nat} (hk : k < f.Code.length) (p : Int → Bool) :
    Hs (livecheck_holds_Slack_1 f k k ((outAt l.Out (k : Nat)).filter p) l) fun b => (b = true ↔ ∀ j ∈ nextN (codeAt f k) k, ∀ v ∈ inN (codeAt f j) (outAt (l.Out.set k ((outAt l.Out (k : Nat)).filter p)) j), v ∈ (outAt l.Out (k : Nat)).filter p) := by
  have hlen := hf.len'
  have hx : f.Code[k]? = some (codeAt f k) := by simp [codeAt, hk]
  have hn := hf.next k _ hx
  have h2 := next_le (codeAt f k) k
  have hkl : k < l.Out.length := by have := hl.1; omega
  have hl' := lv_set hl k p
  generalize hless : (outAt l.Out (k : Nat)).filter p = less at *
  have wo : ∀ j : Int, 0 ≤ j → j < f.Code.length → livecheck_Slack_1_fp_fp_fp j k less l = some (outAt (l.Out.set k less) j) := by
    intro j h0 h1
    unfold livecheck_Slack_1_fp_fp_fp
    by_cases e : j = k
    · subst e
      rw [outAt_set h0 hkl, if_pos rfl]
      simp
    · have hb : (j == (k : Int)) = false := by simpa using e
      obtain ⟨o1, o2⟩ := hl.at h0 h1
      rw [hb, cond_false, outAt_set h0 hkl, if_neg e, ixO_pos _ h0, o1]; rfl
  have hself : outAt (l.Out.set k less) (k : Nat) = less := by rw [outAt_set (by omega) hkl, if_pos rfl]
  unfold livecheck_holds_Slack_1
  refine Hs.bind ?_ fun r hr => .pure hr
  unfold livecheck_demands_Slack_1_holds_1Slack_1
  rw [fnext_eq hx (by omega), Option.bind_some]
  generalize nextN (codeAt f k) k = js at *
  refine Hs.loop (fun i => ∃ q : Nat, i = (q : Int) ∧ q ≤ js.length ∧ ∀ (m : Nat) j, m < q → js[m]? = some j → ∀ v ∈ inN (codeAt f j) (outAt (l.Out.set k less) j), v ∈ less) (fun i => js.length - i.toNat) ⟨0, rfl, Nat.zero_le _, fun m j h => absurd h (Nat.not_lt_zero _)⟩ ?_
  rintro _ ⟨q, rfl, hq, hall⟩
  unfold livecheck_demands_Slack_1_holds_1Slack_1_b1
  refine .dec (fun hlt => ?_) fun hge => ?_
  · have hlt : q < js.length := by omega
    have hm := List.getElem_mem hlt
    have hjm := hn _ hm
    obtain ⟨c1, c2⟩ := hf.at hjm.1 hjm.2
    obtain ⟨p1, p2⟩ := hl'.at hjm.1 hjm.2
    obtain ⟨s1, s2⟩ := inN_set hf c2 p2
    have hlessl := (hl'.at (j := (k : Int)) (by omega) (by omega)).2
    rw [hself] at hlessl
    refine .chk (by omega) ?_
    rw [Int.toNat_natCast, List.getElem?_eq_getElem hlt, Option.bind_some, ixO_pos _ hjm.1, c1, Option.bind_some, wo _ hjm.1 hjm.2, Option.bind_some, ein_eq p2.1 (hf.uses512 c2), Option.bind_some]
    unfold livecheck_holds_1_Slack_1_fp
    rw [wo k (by omega) (by omega), Option.bind_some, hself]
    refine Hs.bind (P := fun b => (b = true ↔ ∀ v ∈ inN (codeAt f js[q]) (outAt (l.Out.set k less) js[q]), v ∈ less)) ((bs_within_hs _ _ (by have := s1.1.length_le; omega) (by have := hlessl.1.length_le; omega) (fun v hv => s1.1.2 v hv)).bind fun b hb => .pure hb) fun b hb => .cond (fun h => ?_) fun h => ?_
    · refine .lft (.pure ⟨fun h => (by cases h), fun hh => ?_⟩)
      have := hb.2 (hh _ hm)
      simp [this] at h
    · have hbt : b = true := by simpa using h
      rw [wrap_succ (by omega)]
      refine .cnt ⟨⟨q + 1, rfl, hlt, fun m j hm hj => ?_⟩, by simp only; omega⟩
      by_cases e : m = q
      · subst e
        rw [List.getElem?_eq_getElem hlt] at hj
        cases hj
        exact hb.1 hbt
      · exact hall m j (by omega) hj
  · refine .lft (.pure ⟨fun _ j hj => ?_, fun _ => rfl⟩)
    obtain ⟨m, hm⟩ := List.getElem?_of_mem hj
    exact hall m j (by have := (List.getElem?_eq_some_iff.1 hm).1; omega) hm

open Classical in
/-- how many elements of a row could be left out -/
noncomputable def cntK (f : TFunc) (l : List (List Int)) (k : Nat) (s : List Int) : Nat := s.countP fun x => decide (Acc f (l.set k ((outAt l (k : Nat)).filter (· != x))))
noncomputable def sumC (f : TFunc) (l : List (List Int)) : Nat → Nat
  | 0 => 0
  | k + 1 => sumC f l k + cntK f l k (outAt l (k : Nat))
theorem cntK_le (f : TFunc) (l : List (List Int)) (k : Nat) (s : List Int) : cntK f l k s ≤ s.length := List.countP_le_length
theorem sumC_le {f : TFunc} {l : List (List Int)} (hl : LvOk f l) : ∀ k, k ≤ l.length → sumC f l k ≤ 512 * k
  | 0, _ => by simp [sumC]
  | k + 1, h => by
    have h1 := sumC_le hl k (by omega)
    have h2 := cntK_le f l k (outAt l (k : Nat))
    have h3 := (hl.at (j := (k : Int)) (by omega) (by have := hl.1; omega)).2.1.length_le
    simp only [sumC]; omega
open Classical in
theorem cntK_snoc (f : TFunc) (l : List (List Int)) (k : Nat) (s : List Int) {i : Nat} {x : Int} (h : s[i]? = some x) : cntK f l k (s.take (i + 1)) = cntK f l k (s.take i) + if Acc f (l.set k ((outAt l (k : Nat)).filter (· != x))) then 1 else 0 := by
  unfold cntK
  rw [List.take_add_one, h, List.countP_append]
  simp

open Classical in
theorem slack_hs {f : TFunc} (hf : FlowOk f) {l : TLive} (hlo : LenOk l.Out) : Hs (livecheck_Slack f l) fun n => n = if Acc f l.Out then (sumC f l.Out l.Out.length : Int) else 0 := by
  unfold livecheck_Slack
  refine (check_hs hf hlo).bind fun e he => .bne (fun hne => .pure ?_) fun he0 => ?_
  · rw [if_neg fun h => hne (he.2.2 h)]
  · have hacc := he.2.1 he0
    have hl := hacc.1
    have hlen := hf.len'
    have hll := hl.1
    rw [if_pos hacc]
    refine Hs.loop (fun s => ∃ k : Nat, s.1 = (k : Int) ∧ k ≤ l.Out.length ∧ s.2 = (sumC f l.Out k : Int)) (fun s => l.Out.length - s.1.toNat) ⟨0, rfl, Nat.zero_le _, rfl⟩ ?_
    rintro ⟨k', n⟩ ⟨k, hk', hk, hn⟩
    simp only at hk' hn
    subst hk' hn
    have hsum := sumC_le hl k hk
    unfold livecheck_Slack_b1
    refine .dec (fun hlt => ?_) fun hge => ?_
    · have hlt : k < l.Out.length := by simp only at hlt; omega
      obtain ⟨o1, o2⟩ := hl.at (j := (k : Int)) (by omega) (by omega)
      simp only [Int.toNat_natCast] at o1
      have hle := o2.1.length_le
      rw [ixO_nat, o1, Option.bind_some]
      refine Hs.loop (fun s => ∃ i : Nat, s.1 = (i : Int) ∧ i ≤ (outAt l.Out (k : Nat)).length ∧ s.2 = ((sumC f l.Out k + cntK f l.Out k ((outAt l.Out (k : Nat)).take i) : Nat) : Int)) (fun s => (outAt l.Out (k : Nat)).length - s.1.toNat) ⟨0, rfl, Nat.zero_le _, by simp [cntK]⟩ ?_
      rintro ⟨i', n⟩ ⟨i, hi', hi, hn⟩
      simp only at hi' hn
      subst hi' hn
      unfold livecheck_Slack_b2
      refine .dec (fun hlt2 => ?_) fun hge => ?_
      · have hlt2 : i < (outAt l.Out (k : Nat)).length := by simp only at hlt2; omega
        have hx : (outAt l.Out (k : Nat))[i]? = some ((outAt l.Out (k : Nat))[i]) := List.getElem?_eq_getElem hlt2
        generalize (outAt l.Out (k : Nat))[i] = x at hx
        have hcl := cntK_le f l.Out k ((outAt l.Out (k : Nat)).take i)
        rw [List.length_take] at hcl
        rw [ixO_nat, hx, Option.bind_some, bs_remove_eq o2.1, Option.bind_some]
        refine (holds_hs hf hl (by omega) (· != x)).bind fun b hb => ?_
        have hb' : b = true ↔ Acc f (l.Out.set k ((outAt l.Out (k : Nat)).filter (· != x))) := by rw [hb, acc_set_iff hf hacc (by omega)]
        rw [wrap_succ (by omega)]
        refine .cond (fun h => ?_) fun h => ?_
        · rw [wrap64 (by omega) (by omega)]
          refine .cnt ⟨⟨i + 1, rfl, hlt2, ?_⟩, by simp only; omega⟩
          rw [cntK_snoc f l.Out k _ hx, if_pos (hb'.1 h)]
          simp only; omega
        · refine .cnt ⟨⟨i + 1, rfl, hlt2, ?_⟩, by simp only; omega⟩
          rw [cntK_snoc f l.Out k _ hx, if_neg fun hh => by rw [hb'.2 hh] at h; cases h]
          simp
      · obtain rfl : i = (outAt l.Out (k : Nat)).length := by simp only at hge; omega
        rw [wrap_succ (by omega)]
        refine .lft (.cnt ⟨⟨k + 1, rfl, hlt, ?_⟩, by simp only; omega⟩)
        simp only [List.take_length, sumC]
    · obtain rfl : k = l.Out.length := by simp only at hge; omega
      exact .lft (.pure rfl)
theorem least_slack {f : TFunc} (hf : FlowOk f) {l : List (List Int)} (h : LeastOk f l) : ∀ k, k ≤ l.length → sumC f l k = 0
  | 0, _ => rfl
  | k + 1, hk => by
    have h1 := least_slack hf h k (by omega)
    have hll := h.ok.1
    simp only [sumC, h1, Nat.zero_add]
    unfold cntK
    rw [List.countP_eq_zero]
    intro x hx
    simpa using least_not hf h (by omega) hx
end Go.Proofs.YtcelninhkmhjkaaDoor
namespace Go.Proofs.YtcelninhkmhjkaaDoor
open Go Go.Dw Go.Proofs

theorem law17_LivecheckAcceptsSolutions_hs (codes : List Int) (slot : Int) (hc : qL (qInt .u8) codes) (hs : qInt .u8 slot) : Hs (law17_LivecheckAcceptsSolutions codes slot) fun b => b = true := by
  have hs' : 0 ≤ slot ∧ slot ≤ 255 := hs
  unfold law17_LivecheckAcceptsSolutions
  rw [awake17]
  simp only [Option.bind_some, Bool.not_true, cond_false]
  refine (scene17_hs codes hc).bind fun p ⟨_, ⟨ps, i, hfo⟩, _, _⟩ => ?_
  have hf := hfo.flow (by omega)
  have hlen := hf.len'
  have hsl := hf.slots
  refine (solve_hs hf).bind fun l hl => ?_
  have hll := hl.ok.1
  have hacc := hl.acc hf
  have fin : ∀ {x : List (List Int)}, Acc p.1 x → Hs (law17_LivecheckAcceptsSolutions_j1 p l x) fun b => b = true := by
    intro x hx
    unfold law17_LivecheckAcceptsSolutions_j1
    refine (check_hs hf (hacc.1.len hf)).bind fun e he => ?_
    rw [he.2.2 hacc]
    simp only [beq_self_eq_true, cond_true]
    refine (check_hs hf (l := ⟨x⟩) (hx.1.len hf)).bind fun e he => ?_
    rw [he.2.2 hx]
    simp only [beq_self_eq_true, cond_true]
    refine (slack_hs hf (hacc.1.len hf)).bind fun n hn => .pure ?_
    rw [hn, if_pos hacc, least_slack hf hl _ (Nat.le_refl _)]
    rfl
  refine .chk (by simp; omega) ?_
  simp only [List.nil_append, wrap64 (show -9223372036854775808 ≤ slot by omega) (by omega)]
  by_cases h0 : 0 < p.1.Slots.length
  · have hu : 0 ≤ slot.tmod (p.1.Slots.length : Int) ∧ slot.tmod (p.1.Slots.length : Int) < p.1.Slots.length := by
      rw [Int.tmod_eq_emod_of_nonneg hs'.1]
      exact ⟨Int.emod_nonneg _ (by omega), Int.emod_lt_of_pos _ (by omega)⟩
    refine Hs.loop (fun s => ∃ k : Nat, s.2 = (k : Int) ∧ k ≤ l.Out.length ∧ s.1 = addTo (slot.tmod (p.1.Slots.length : Int)) l.Out k) (fun s => l.Out.length - s.2.toNat) ⟨0, rfl, Nat.zero_le _, (addTo_zero _ _).symm⟩ ?_
    rintro ⟨y, i⟩ ⟨k, hi, hk, hy⟩
    simp only at hi hy
    subst hi hy
    have hyl := addTo_length (slot.tmod (p.1.Slots.length : Int)) l.Out hk
    unfold law17_LivecheckAcceptsSolutions_b2
    refine .dec (fun hlt => .dec (fun _ => ?_) fun h => absurd h0 (by omega)) fun hge => ?_
    · have hlt : k < l.Out.length := by simp only at hlt; omega
      have hset := hl.ok.2 _ (List.getElem_mem hlt)
      unfold law17_LivecheckAcceptsSolutions_j3
      rw [wrap64 (show -9223372036854775808 ≤ slot by omega) (by omega)]
      refine .chk (by simp only; omega) ?_
      rw [Int.toNat_natCast, addTo_get hlt, Option.bind_some]
      refine .chk (by omega) ?_
      rw [add_eq _ _ (by have := hset.1.length_le; omega), Option.bind_some]
      refine .chk (by simp only; omega) ?_
      rw [Option.bind_some, addTo_set hlt, wrap_succ (by omega)]
      exact .cnt ⟨⟨k + 1, rfl, hlt, rfl⟩, by simp only; omega⟩
    · obtain rfl : k = l.Out.length := by simp only at hge; omega
      rw [addTo_all]
      exact .lft (fin (acc_add hf hacc hu))
  · refine Hs.loop (fun s => s.1 = l.Out) (fun s => 0) rfl ?_
    rintro ⟨y, i⟩ hy
    simp only at hy
    subst hy
    unfold law17_LivecheckAcceptsSolutions_b2
    exact .dec (fun _ => .dec (fun h => absurd h (by omega)) fun _ => .lft (fin hacc)) fun _ => .lft (fin hacc)
theorem law17_LivecheckAcceptsSolutions_true (codes : List Int) (slot : Int) (hc : qL (qInt .u8) codes) (hs : qInt .u8 slot) : law17_LivecheckAcceptsSolutions codes slot = some true := by
  obtain ⟨r, h, rfl⟩ := law17_LivecheckAcceptsSolutions_hs codes slot hc hs
  exact h
end Go.Proofs.YtcelninhkmhjkaaDoor
