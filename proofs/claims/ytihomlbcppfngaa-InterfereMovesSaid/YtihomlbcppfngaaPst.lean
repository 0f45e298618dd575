/-
  More of the reference for sets: removing, joining, comparing; sets by their elements.
-/
import Derived.Test.YtihomlbcppfngaaP04
namespace Go.Proofs.Ytihomlbcppfngaa
open Go Go.Dw Go.Proofs

attribute [local simp] chk_pos Bool.cond_eq_ite

theorem remove_eq (s : List Int) (n : Int) (hs : s.length ≤ 16777215) : ref04_Remove s n = some (s.filter (· != n)) := by
  unfold ref04_Remove
  have := loop_list (body := fun p : List Int × Int => ref04_Remove_b1 s n p.1 p.2) s (fun (out : List Int) i => (out, i)) (fun out i => out.length ≤ i) (fun out l => some (out ++ l.filter (· != n)))
    (fun out _ => ⟨out, by simp [ref04_Remove_b1], by simp⟩) (fun out i x r ho hd hi hx => by
      have w := wrap_succ (show i < 9223372036854775807 by omega)
      obtain ⟨_, rfl⟩ := List.getElem?_eq_some_iff.1 hx
      left
      by_cases h : s[i] = n
      · exact ⟨out, by omega, by simp [ref04_Remove_b1, hi, h, w], by simp [h]⟩
      · exact ⟨out ++ [s[i]], by simp; omega, by simp [ref04_Remove_b1, hi, h, w, show out.length ≤ 16777215 by omega], by simp [h]⟩)
    [] (by simp)
  simpa using this

/-- the union, element by element -/
def unionN (a b : List Int) : List Int := b.foldl (fun o x => addN x o) a
theorem addN_length (n : Int) (s : List Int) : (addN n s).length ≤ s.length + 1 := by
  unfold addN
  split
  · exact insN_length n s
  · omega
theorem union_eq (a b : List Int) (h : a.length + b.length ≤ 1000000) : ref04_Union a b = some (unionN a b) := by
  unfold ref04_Union unionN
  rw [chk_pos (by simp; omega)]
  have := loop_list (body := fun p : List Int × Int => ref04_Union_b1 b p.1 p.2) b (fun (out : List Int) i => (out, i)) (fun out i => out.length ≤ a.length + i) (fun out l => some (l.foldl (fun o x => addN x o) out))
    (fun out _ => ⟨out, by simp [ref04_Union_b1], by simp⟩) (fun out i x r ho hd hi hx => by
      have w := wrap_succ (show i < 9223372036854775807 by omega)
      obtain ⟨_, rfl⟩ := List.getElem?_eq_some_iff.1 hx
      have hl := addN_length b[i] out
      left
      exact ⟨addN b[i] out, by omega, by simp [ref04_Union_b1, hi, add_eq out b[i] (by omega), w], by simp⟩)
    a (by simp)
  simpa using this

theorem same_eq (a b : List Int) (h : a.length ≤ 9223372036854775807) : ref04_Same a b = some (decide (a = b)) := by
  unfold ref04_Same
  by_cases hl : a.length = b.length
  · have := loop_list (body := fun i : Int => ref04_Same_b1 a b i) a (fun (_ : List Int) i => i) (fun acc i => b.drop i = acc) (fun acc l => some (decide (l = acc)))
      (fun acc hacc => ⟨true, by simp [ref04_Same_b1], by rw [hl] at hacc; simp at hacc; simp [← hacc]⟩) (fun acc i x r hacc hd hi hx => by
        have w := wrap_succ (show i < 9223372036854775807 by omega)
        obtain ⟨_, rfl⟩ := List.getElem?_eq_some_iff.1 hx
        have hib : i < b.length := by omega
        have hdb := List.drop_eq_getElem_cons hib
        by_cases e : a[i] = b[i]
        · exact .inl ⟨b.drop (i + 1), rfl, by simp [ref04_Same_b1, hi, hib, e, w], by rw [← hacc, hdb]; simp only [List.cons.injEq, e, true_and]⟩
        · exact .inr ⟨false, by simp [ref04_Same_b1, hi, hib, e], by rw [← hacc, hdb]; simp only [List.cons.injEq, e, false_and, decide_false]⟩)
      b (by simp)
    simpa [hl] using this
  · have : ¬ a = b := fun e => hl (by rw [e])
    simp [this, show ¬ (a.length : Int) = b.length by omega]

theorem sameall_eq (a b : List (List Int)) (h : a.length ≤ 9223372036854775807) (hr : ∀ s ∈ a, s.length ≤ 9223372036854775807) : ref04_SameAll a b = some (decide (a = b)) := by
  unfold ref04_SameAll
  by_cases hl : a.length = b.length
  · have := loop_list (body := fun i : Int => ref04_SameAll_b1 a b i) a (fun (_ : List (List Int)) i => i) (fun acc i => b.drop i = acc) (fun acc l => some (decide (l = acc)))
      (fun acc hacc => ⟨true, by simp [ref04_SameAll_b1], by rw [hl] at hacc; simp at hacc; simp [← hacc]⟩) (fun acc i x r hacc hd hi hx => by
        have w := wrap_succ (show i < 9223372036854775807 by omega)
        obtain ⟨_, rfl⟩ := List.getElem?_eq_some_iff.1 hx
        have hib : i < b.length := by omega
        have hdb := List.drop_eq_getElem_cons hib
        have hs := same_eq a[i] b[i] (hr _ (List.getElem_mem _))
        by_cases e : a[i] = b[i]
        · refine .inl ⟨b.drop (i + 1), rfl, ?_, by rw [← hacc, hdb]; simp only [List.cons.injEq, e, true_and]⟩
          rw [decide_eq_true e] at hs
          simp [ref04_SameAll_b1, hi, hib, hs, w]
        · refine .inr ⟨false, ?_, by rw [← hacc, hdb]; simp only [List.cons.injEq, e, false_and, decide_false]⟩
          rw [decide_eq_false e] at hs
          simp [ref04_SameAll_b1, hi, hib, hs])
      b (by simp)
    simpa [hl] using this
  · have : ¬ a = b := fun e => hl (by rw [e])
    simp [this, show ¬ (a.length : Int) = b.length by omega]

/-- an ascending list in another one -/
theorem asc_sub : ∀ {a b : List Int}, a.Pairwise (· < ·) → b.Pairwise (· < ·) → (∀ v ∈ a, v ∈ b) → a.Sublist b
  | [], _, _, _, _ => List.nil_sublist _
  | x :: a, [], _, _, h => by have := h x (List.mem_cons_self ..); cases this
  | x :: a, y :: b, ha, hb, h => by
    rw [List.pairwise_cons] at ha hb
    by_cases e : x = y
    · subst e
      refine (asc_sub ha.2 hb.2 fun v hv => ?_).cons_cons x
      rcases List.mem_cons.1 (h v (List.mem_cons_of_mem _ hv)) with h1 | h1
      · have := ha.1 v hv; omega
      · exact h1
    · have hx : x ∈ b := by
        rcases List.mem_cons.1 (h x (List.mem_cons_self ..)) with h1 | h1
        · exact (e h1).elim
        · exact h1
      have hyx := hb.1 x hx
      refine (asc_sub (List.pairwise_cons.2 ha) hb.2 fun v hv => ?_).cons y
      rcases List.mem_cons.1 (h v hv) with h1 | h1
      · subst h1
        rcases List.mem_cons.1 hv with h2 | h2
        · omega
        · have := ha.1 v h2; omega
      · exact h1
theorem IsSet.sub {a b : List Int} (ha : IsSet a) (hb : IsSet b) (h : ∀ v ∈ a, v ∈ b) : a.Sublist b := asc_sub ha.1 hb.1 h
theorem IsSet.ext {a b : List Int} (ha : IsSet a) (hb : IsSet b) (h : ∀ v, v ∈ a ↔ v ∈ b) : a = b :=
  (ha.sub hb fun v hv => (h v).1 hv).eq_of_length_le (hb.sub ha fun v hv => (h v).2 hv).length_le
theorem IsSet.filter {a : List Int} (ha : IsSet a) (p : Int → Bool) : IsSet (a.filter p) :=
  ⟨ha.1.sublist List.filter_sublist, fun x hx => ha.2 x ((List.mem_filter.1 hx).1)⟩
theorem SetIn.addU {n m : Int} {s : List Int} (h : IsSet s ∧ ∀ x ∈ s, x < n) (hm : 0 ≤ m ∧ m < n) (hn : n ≤ 512) : IsSet (addN m s) ∧ (∀ x ∈ addN m s, x < n) ∧ ∀ v, v ∈ addN m s ↔ v = m ∨ v ∈ s := by
  unfold addN
  rw [if_pos (by omega)]
  refine ⟨h.1.insN (by omega), fun x hx => ?_, fun v => mem_insN _ _ _⟩
  rw [mem_insN] at hx
  rcases hx with rfl | hx
  · exact hm.2
  · exact h.2 x hx
theorem unionN_set {n : Int} (hn : n ≤ 512) : ∀ {b a : List Int}, (IsSet a ∧ ∀ x ∈ a, x < n) → (∀ x ∈ b, 0 ≤ x ∧ x < n) → (IsSet (unionN a b) ∧ ∀ x ∈ unionN a b, x < n) ∧ ∀ v, v ∈ unionN a b ↔ v ∈ a ∨ v ∈ b
  | [], a, ha, _ => ⟨ha, fun v => by simp [unionN]⟩
  | x :: b, a, ha, hb => by
    obtain ⟨h1, h2, h3⟩ := SetIn.addU ha (hb x (List.mem_cons_self ..)) hn
    obtain ⟨h4, h5⟩ := unionN_set hn ⟨h1, h2⟩ fun y hy => hb y (List.mem_cons_of_mem _ hy)
    refine ⟨h4, fun v => ?_⟩
    show v ∈ unionN (addN x a) b ↔ _
    rw [h5, h3, List.mem_cons]
    constructor
    · rintro ((h | h) | h)
      · exact .inr (.inl h)
      · exact .inl h
      · exact .inr (.inr h)
    · rintro (h | h | h)
      · exact .inl (.inr h)
      · exact .inl (.inl h)
      · exact .inr h
end Go.Proofs.Ytihomlbcppfngaa
