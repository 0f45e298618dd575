/-
  flow.Next comes to what the reference says.
-/
import Derived.Test.YtlphpepmbcbmiaaPnx
namespace Go.Proofs.Ytlphpepmbcbmiaa
open Go Go.Dw Go.Proofs

attribute [local simp] chk_pos Bool.cond_eq_ite

theorem compact_nil : Lib.compact ([] : List Int) = [] := by simp [Lib.compact, Lib.compactUpTo]
theorem compact_one (a : Int) : Lib.compact [a] = [a] := by simp [Lib.compact, Lib.compactUpTo, List.range_succ, Lib.keeps]
theorem compact_two (a b : Int) : Lib.compact [a, b] = if a = b then [a] else [a, b] := by
  by_cases h : a = b
  · subst h; simp [Lib.compact, Lib.compactUpTo, List.range_succ, Lib.keeps]
  · have h' : ¬ b = a := fun e => h e.symm
    simp [Lib.compact, Lib.compactUpTo, List.range_succ, Lib.keeps, h, h']
theorem sort_one (a : Int) : sortI [a] = [a] := by simp [sortI]
theorem sort_nil : sortI [] = [] := by simp [sortI]
theorem sort_two (a b : Int) : sortI [a, b] = if a ≤ b then [a, b] else [b, a] := by
  unfold sortI List.mergeSort
  by_cases h : a ≤ b <;> simp [List.MergeSort.Internal.splitInTwo, List.merge, h]

theorem fnext_eq {f : TFunc} {k : Nat} {x : TInstr} (h : f.Code[k]? = some x) (hk : k < 9223372036854775807) : flow_Next f (k : Int) = some (nextN x k) := by
  obtain ⟨hl, hx⟩ := List.getElem?_eq_some_iff.1 h
  have hnl : ¬ f.Code.length ≤ k := by omega
  have w : IntKind.i64.wrap ((k : Int) + 1) = (k : Int) + 1 := wrap64 (by omega) (by omega)
  unfold flow_Next flow_Next_j1 flow_Next_j2 nextN sir_Terminator
  obtain ⟨op, a, b, c, i⟩ := x
  by_cases h20 : op = 20
  · subst h20; simp [hx, hl, hnl, show ¬ (k : Int) < 0 by omega, sort_one, compact_one]
  · have e20 : (op == 20) = false := by simpa using h20
    by_cases h23 : op = 23
    · subst h23; simp [hx, hl, hnl, show ¬ (k : Int) < 0 by omega, sort_nil, compact_nil]
    · have e23 : (op == 23) = false := by simpa using h23
      by_cases h24 : op = 24
      · subst h24; simp [hx, hl, hnl, show ¬ (k : Int) < 0 by omega, sort_nil, compact_nil]
      · have e24 : (op == 24) = false := by simpa using h24
        by_cases h21 : op = 21
        · subst h21
          simp [hx, hl, hnl, show ¬ (k : Int) < 0 by omega, w, sort_two]
          by_cases hb : b < (k : Int) + 1
          · simp [hb, show ¬ (k : Int) + 1 ≤ b by omega, compact_two, show ¬ b = (k : Int) + 1 by omega]
          · by_cases hb' : (k : Int) + 1 < b
            · simp [hb, hb', show (k : Int) + 1 ≤ b by omega, compact_two, show ¬ (k : Int) + 1 = b by omega]
            · simp [hb, hb', show (k : Int) + 1 ≤ b by omega, compact_two, show (k : Int) + 1 = b by omega]
        · have e21 : (op == 21) = false := by simpa using h21
          simp [hx, hl, hnl, show ¬ (k : Int) < 0 by omega, w, e20, e23, e24, e21, h20, h23, h24, h21, sort_one, compact_one]
end Go.Proofs.Ytlphpepmbcbmiaa
