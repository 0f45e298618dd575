/-
  The reference's comparison of lists of lists.
-/
import Derived.Test.YtlphpepmbcbmiaaPsm
namespace Go.Proofs.Ytlphpepmbcbmiaa
open Go Go.Dw Go.Proofs

attribute [local simp] chk_pos Bool.cond_eq_ite

theorem sameall_eq (a b : List (List Int)) (h : a.length ≤ 9223372036854775807) (hr : ∀ s ∈ a, s.length ≤ 9223372036854775807) : ref04_SameAll a b = some (decide (a = b)) := by
  unfold ref04_SameAll
  by_cases hl : a.length = b.length
  · have := loop_list (body := fun i : Int => ref04_SameAll_b1 a b i) a (fun (_ : List (List Int)) i => i) (fun acc i => b.drop i = acc) (fun acc l => some (decide (l = acc)))
      (fun acc hacc => ⟨true, by simp [ref04_SameAll_b1], by rw [hl] at hacc; simp at hacc; simp [← hacc]⟩) (fun acc i x r hacc hd hi hx => by
        have w := wrap_succ (show i < 9223372036854775807 by omega)
        obtain ⟨_, rfl⟩ := List.getElem?_eq_some_iff.1 hx
        have hib : i < b.length := by omega
        have hdb := List.drop_eq_getElem_cons hib
        have hs := same_eq a[i] b[i] (hr _ (List.getElem_mem _))
        by_cases e : a[i] = b[i]
        · refine .inl ⟨b.drop (i + 1), rfl, ?_, by rw [← hacc, hdb]; simp only [List.cons.injEq, e, true_and]⟩
          rw [decide_eq_true e] at hs
          simp [ref04_SameAll_b1, hi, hib, hs, w]
        · refine .inr ⟨false, ?_, by rw [← hacc, hdb]; simp only [List.cons.injEq, e, false_and, decide_false]⟩
          rw [decide_eq_false e] at hs
          simp [ref04_SameAll_b1, hi, hib, hs])
      b (by simp)
    simpa [hl] using this
  · have : ¬ a = b := fun e => hl (by rw [e])
    simp [this, show ¬ (a.length : Int) = b.length by omega]

end Go.Proofs.Ytlphpepmbcbmiaa
