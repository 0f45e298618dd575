/-
  What the functions of the reference for sets, of the bit sets' check and of the slices' library come to.
-/
import Derived.Test.YtihomlbcppfngaaDxP
import Derived.Test.YtihomlbcppfngaaPl
namespace Go.Proofs.Ytihomlbcppfngaa
open Go Go.Dw Go.Proofs

attribute [local simp] chk_pos Bool.cond_eq_ite

theorem good_eq (n : Int) : ref04_good n = some (decide (0 ≤ n ∧ n < 512)) := by
  unfold ref04_good
  by_cases h : 0 ≤ n <;> simp [h]

theorem good_true {n : Int} (h : 0 ≤ n ∧ n < 512) : ref04_good n = some true := by rw [good_eq, decide_eq_true h]
theorem good_false {n : Int} (h : ¬ (0 ≤ n ∧ n < 512)) : ref04_good n = some false := by rw [good_eq, decide_eq_false h]

theorem has_eq (s : List Int) (n : Int) (hs : s.length ≤ 9223372036854775807) : ref04_Has s n = some (decide (n ∈ s)) := by
  unfold ref04_Has
  refine loop_list s (fun (_ : Unit) i => i) (fun _ _ => True) (fun _ l => some (decide (n ∈ l))) (fun _ _ => ⟨_, by simp [ref04_Has_b1], rfl⟩) (fun _ i x r _ hd hi hx => ?_) () trivial
  have w := wrap_succ (show i < 9223372036854775807 by omega)
  by_cases h : x = n
  · exact .inr ⟨true, by simp [ref04_Has_b1, hi, List.getElem?_eq_some_iff.1 hx, (List.getElem?_eq_some_iff.1 hx).2, h], by simp [h]⟩
  · refine .inl ⟨(), trivial, ?_, ?_⟩
    · obtain ⟨_, rfl⟩ := List.getElem?_eq_some_iff.1 hx
      simp [ref04_Has_b1, hi, h, w]
    · have : n ≠ x := fun e => h e.symm
      simp [this]

/-- a number put into an ascending list -/
def insN (n : Int) : List Int → List Int
  | [] => [n]
  | x :: r => if x < n then x :: insN n r else if x = n then x :: r else n :: x :: r
theorem insN_length (n : Int) : ∀ s, (insN n s).length ≤ s.length + 1
  | [] => by simp [insN]
  | x :: r => by
    have := insN_length n r
    simp only [insN]
    split
    · simp; omega
    · split <;> simp

def addN (n : Int) (s : List Int) : List Int := if 0 ≤ n ∧ n < 512 then insN n s else s

theorem add_eq (s : List Int) (n : Int) (hs : s.length ≤ 1000000) : ref04_Add s n = some (addN n s) := by
  unfold ref04_Add addN
  rw [good_eq]
  simp only [Option.bind_some]
  have key : ∀ d : Bool, LoopT (fun s_1 : List Int × Bool × Int => ref04_Add_b1 s n s_1.1 s_1.2.1 s_1.2.2) ([], d, 0) = some (if d then s else insN n s) := by
    intro d
    have := loop_list (body := fun s_1 : List Int × Bool × Int => ref04_Add_b1 s n s_1.1 s_1.2.1 s_1.2.2) s (fun (p : List Int × Bool) i => (p.1, p.2, i)) (fun p i => p.1.length ≤ i + (if p.2 then 1 else 0)) (fun p l => some (p.1 ++ (if p.2 then l else insN n l)))
      (fun p hp => by
        obtain ⟨out, done⟩ := p
        cases done <;> simp only [if_true, Bool.false_eq_true, if_false] at hp
        · exact ⟨out ++ [n], by simp [ref04_Add_b1, show out.length ≤ 16777215 by omega], by simp [insN]⟩
        · exact ⟨out, by simp [ref04_Add_b1], by simp⟩)
      (fun p i x r hp hd hi hx => by
        obtain ⟨out, done⟩ := p
        have w := wrap_succ (show i < 9223372036854775807 by omega)
        obtain ⟨_, rfl⟩ := List.getElem?_eq_some_iff.1 hx
        left
        cases done <;> simp only [if_true, Bool.false_eq_true, if_false] at hp
        · by_cases h1 : n ≤ s[i]
          · by_cases h2 : n < s[i]
            · refine ⟨(out ++ [n] ++ [s[i]], true), by simp; omega, ?_, ?_⟩
              · simp [ref04_Add_b1, ref04_Add_j3, ref04_Add_j2, hi, h1, h2, w, show out.length ≤ 16777215 by omega, show out.length ≤ 16777214 by omega]
              · simp [insN, show ¬ s[i] < n by omega, show ¬ s[i] = n by omega]
            · refine ⟨(out ++ [s[i]], true), by simp; omega, ?_, ?_⟩
              · simp [ref04_Add_b1, ref04_Add_j3, ref04_Add_j2, hi, h1, h2, w, show out.length ≤ 16777215 by omega]
              · simp [insN, show ¬ s[i] < n by omega, show s[i] = n by omega]
          · refine ⟨(out ++ [s[i]], false), by simp; omega, ?_, ?_⟩
            · simp [ref04_Add_b1, ref04_Add_j3, ref04_Add_j2, hi, h1, w, show out.length ≤ 16777215 by omega]
            · simp [insN, show s[i] < n by omega]
        · refine ⟨(out ++ [s[i]], true), by simp; omega, ?_, ?_⟩
          · simp [ref04_Add_b1, ref04_Add_j3, ref04_Add_j2, hi, w, show out.length ≤ 16777215 by omega]
          · simp)
      ([], d) (by simp)
    simpa using this
  rw [key]
  by_cases h : 0 ≤ n ∧ n < 512 <;> simp [h]

/-- a list is a set: ascending, its numbers from 0 to 511 -/
def ascB : Option Int → List Int → Bool
  | _, [] => true
  | p, x :: r => decide (0 ≤ x ∧ x < 512) && (match p with | none => true | some y => decide (y < x)) && ascB (some x) r

theorem check_eq (s : List Int) (hs : s.length ≤ 9223372036854775807) : ref04_Check s = some (ascB none s) := by
  unfold ref04_Check
  refine loop_list s (fun (_ : Option Int) i => i) (fun p i => match i with | 0 => p = none | k + 1 => s[k]? = p ∧ p ≠ none) (fun p l => some (ascB p l)) (fun _ _ => ⟨true, by simp [ref04_Check_b1], by simp [ascB]⟩) (fun p i x r hp hd hi hx => ?_) none rfl
  have w := wrap_succ (show i < 9223372036854775807 by omega)
  obtain ⟨_, rfl⟩ := List.getElem?_eq_some_iff.1 hx
  by_cases hg : 0 ≤ s[i] ∧ s[i] < 512
  · cases i with
    | zero =>
      simp only at hp
      subst hp
      exact .inl ⟨some s[0], ⟨hx, by simp⟩, by simp [ref04_Check_b1, hi, good_true hg], by simp [ascB, hg]⟩
    | succ k =>
      obtain ⟨hp, hpn⟩ := hp
      have hk : k < s.length := by omega
      rw [List.getElem?_eq_getElem hk] at hp
      subst hp
      have w : IntKind.i64.wrap ((k : Int) + 1 + 1) = (k : Int) + 1 + 1 := wrap64 (by omega) (by omega)
      have wp : IntKind.i64.wrap (k : Int) = k := wrap64 (by omega) (by omega)
      have e0 : (k : Int) + 1 - 1 = k := by omega
      by_cases hlt : s[k] < s[k + 1]
      · exact .inl ⟨some s[k + 1], ⟨hx, by simp⟩, by simp [ref04_Check_b1, hi, good_true hg, w, wp, e0, hk, show ¬ s[k + 1] ≤ s[k] by omega, show (0 : Int) < k + 1 by omega, show (k : Int) + 1 < s.length by omega], by simp [ascB, hg, hlt]⟩
      · exact .inr ⟨false, by simp [ref04_Check_b1, hi, good_true hg, w, wp, e0, hk, show s[k + 1] ≤ s[k] by omega, show (0 : Int) < k + 1 by omega, show (k : Int) + 1 < s.length by omega], by simp [ascB, hlt]⟩
  · exact .inr ⟨false, by simp [ref04_Check_b1, hi, good_false hg], by simp [ascB, hg]⟩

/-- ascending, from 0 to 511 -/
def IsSet (s : List Int) : Prop := s.Pairwise (· < ·) ∧ ∀ x ∈ s, 0 ≤ x ∧ x < 512
theorem ascB_iff : ∀ (p : Option Int) (s : List Int), ascB p s = true ↔ IsSet s ∧ ∀ y, p = some y → ∀ x ∈ s, y < x
  | p, [] => by simp [ascB, IsSet]
  | p, x :: r => by
    simp only [ascB, Bool.and_eq_true, ascB_iff (some x) r, decide_eq_true_eq, IsSet, List.pairwise_cons, List.mem_cons, forall_eq_or_imp, Option.some.injEq]
    constructor
    · rintro ⟨⟨h1, h2⟩, ⟨h3, h4⟩, h5⟩
      have h5' := h5 x rfl
      refine ⟨⟨⟨h5', h3⟩, h1, h4⟩, fun y hy => ?_⟩
      subst hy
      simp only [decide_eq_true_eq] at h2
      exact ⟨h2, fun z hz => Int.lt_trans h2 (h5' z hz)⟩
    · rintro ⟨⟨⟨h1, h2⟩, h3, h4⟩, h5⟩
      refine ⟨⟨h3, ?_⟩, ⟨h2, h4⟩, fun y hy z hz => by subst hy; exact h1 z hz⟩
      cases p with
      | none => rfl
      | some y => simpa using (h5 y rfl).1
theorem asc_iff (s : List Int) : ascB none s = true ↔ IsSet s := by
  rw [ascB_iff]; simp
theorem IsSet.length_le {s : List Int} (h : IsSet s) : s.length ≤ 512 := by
  have : ∀ (s : List Int) (a : Int), s.Pairwise (· < ·) → (∀ x ∈ s, a ≤ x ∧ x < 512) → a ≤ 512 → (s.length : Int) ≤ 512 - a := by
    intro s
    induction s with
    | nil => intro a _ _ ha; simp; omega
    | cons x r ih =>
      intro a hp hb ha
      rw [List.pairwise_cons] at hp
      have hx := hb x (by simp)
      have := ih (x + 1) hp.2 (fun y hy => ⟨by have := hp.1 y hy; omega, (hb y (by simp [hy])).2⟩) (by omega)
      simp only [List.length_cons]
      omega
  have := this s 0 h.1 h.2 (by omega)
  omega
theorem mem_insN (n m : Int) : ∀ s, m ∈ insN n s ↔ m = n ∨ m ∈ s
  | [] => by simp [insN]
  | x :: r => by
    simp only [insN]
    split
    · simp only [List.mem_cons, mem_insN n m r]
      constructor
      · rintro (h | h | h) <;> simp [h]
      · rintro (h | h | h) <;> simp [h]
    · split
      · rename_i h; subst h; simp
      · simp
theorem IsSet.insN {n : Int} {s : List Int} (h : IsSet s) (hn : 0 ≤ n ∧ n < 512) : IsSet (Proofs.Ytihomlbcppfngaa.insN n s) := by
  refine ⟨?_, fun x hx => ?_⟩
  · replace h := h.1
    clear hn
    induction s with
    | nil => simp [Proofs.Ytihomlbcppfngaa.insN]
    | cons x r ih =>
      rw [List.pairwise_cons] at h
      simp only [Proofs.Ytihomlbcppfngaa.insN]
      split
      · rw [List.pairwise_cons]
        refine ⟨fun y hy => ?_, ih h.2⟩
        rw [mem_insN] at hy
        rcases hy with rfl | hy
        · assumption
        · exact h.1 y hy
      · split
        · rw [List.pairwise_cons]; exact h
        · rw [List.pairwise_cons, List.pairwise_cons]
          refine ⟨fun y hy => ?_, h⟩
          rcases List.mem_cons.1 hy with rfl | hy
          · omega
          · have := h.1 y hy; omega
  · rw [mem_insN] at hx
    rcases hx with rfl | hx
    · exact hn
    · exact h.2 x hx
theorem IsSet.nil : IsSet [] := ⟨List.Pairwise.nil, fun x hx => by cases hx⟩

/-! ### the slices' library at ints -/
def idxF (v : Int) : Nat → List Int → Int
  | _, [] => -1
  | a, x :: r => if v = x then a else idxF v (a + 1) r
theorem idxF_nonneg (v : Int) : ∀ (a : Nat) (s : List Int), 0 ≤ idxF v a s ↔ v ∈ s
  | a, [] => by simp [idxF]
  | a, x :: r => by
    simp only [idxF]
    split
    · rename_i h; simp [h]
    · rename_i h; rw [idxF_nonneg v (a + 1) r]; simp [h]
theorem index_eq (s : List Int) (v : Int) (hs : s.length ≤ 9223372036854775807) : slices_Index_int_int s v = some (idxF v 0 s) := by
  unfold slices_Index_int_int
  refine loop_list s (fun (_ : Nat) i => i) (fun a i => a = i) (fun a l => some (idxF v a l)) (fun _ _ => ⟨-1, by simp [slices_Index_int_int_b1], by simp [idxF]⟩) (fun a i x r ha hd hi hx => ?_) 0 rfl
  subst ha
  have w := wrap_succ (show a < 9223372036854775807 by omega)
  obtain ⟨_, rfl⟩ := List.getElem?_eq_some_iff.1 hx
  by_cases h : v = s[a]
  · exact .inr ⟨a, by simp [slices_Index_int_int_b1, hi, h], by simp [idxF, h]⟩
  · exact .inl ⟨a + 1, rfl, by simp [slices_Index_int_int_b1, hi, h, w], by simp [idxF, h]⟩
theorem contains_eq (s : List Int) (v : Int) (hs : s.length ≤ 9223372036854775807) : slices_Contains_int_int s v = some (decide (v ∈ s)) := by
  simp [slices_Contains_int_int, index_eq s v hs, idxF_nonneg]

theorem less_eq (x y : Int) : cmp_Less_int x y = some (decide (x < y)) := by simp [cmp_Less_int, cmp_isNaN_int]

theorem search_eq (s : List Int) (t : Int) (hp : s.Pairwise (· < ·)) (hs : s.length ≤ 1000000) : ∃ i, slices_BinarySearch_int_int s t = some (i, decide (t ∈ s)) := by
  unfold slices_BinarySearch_int_int
  have key := LoopT_inv (body := fun s_1 : Int × Int => slices_BinarySearch_int_int_b2 s t s_1.1 s_1.2) (s := (0, (s.length : Int)))
    (fun st => ∃ i j : Nat, st = ((i : Int), (j : Int)) ∧ i ≤ j ∧ j ≤ s.length ∧ (∀ (k : Nat) x, k < i → s[k]? = some x → x < t) ∧ ∀ (k : Nat) x, j ≤ k → s[k]? = some x → t ≤ x)
    (fun r => r.2 = decide (t ∈ s)) (fun st => (st.2 - st.1).toNat) ⟨0, s.length, rfl, Nat.zero_le _, Nat.le_refl _, fun k x hk => absurd hk (Nat.not_lt_zero _), fun k x hk hx => by
      have := (List.getElem?_eq_some_iff.1 hx).1
      omega⟩ (fun st hI => by
      obtain ⟨i, j, rfl, hij, hj, h1, h2⟩ := hI
      by_cases hlt : i < j
      · left
        have hm := mid_eq (a := (i : Int) + j) (by omega) (by omega)
        have hmid : ((i : Int) + j) / 2 = (((i + j) / 2 : Nat) : Int) := by omega
        rw [hmid] at hm
        have hm1 : i ≤ (i + j) / 2 := by omega
        have hm2 : (i + j) / 2 < j := by omega
        clear hmid
        generalize (i + j) / 2 = m at *
        have hml : m < s.length := by omega
        have w := wrap_succ (show m < 9223372036854775807 by omega)
        by_cases hx : s[m] < t
        · refine ⟨(((m + 1 : Nat) : Int), (j : Int)), ?_, ⟨m + 1, j, rfl, by omega, hj, fun k x hk hkx => ?_, h2⟩, by simp only; omega⟩
          · simp only [slices_BinarySearch_int_int_b2, hm]
            simp [hlt, hml, less_eq, hx, w]
          · by_cases hk' : k = m
            · subst hk'
              rw [List.getElem?_eq_getElem hml] at hkx
              cases hkx
              exact hx
            · obtain ⟨hkl, rfl⟩ := List.getElem?_eq_some_iff.1 hkx
              have := List.pairwise_iff_getElem.1 hp k (m) hkl hml (by omega)
              omega
        · refine ⟨((i : Int), (m : Int)), ?_, ⟨i, m, rfl, by omega, by omega, h1, fun k x hk hkx => ?_⟩, by simp only; omega⟩
          · simp only [slices_BinarySearch_int_int_b2, hm]
            simp [hlt, hml, less_eq, hx]
          · obtain ⟨hkl, rfl⟩ := List.getElem?_eq_some_iff.1 hkx
            by_cases hk' : k = m
            · subst hk'; omega
            · have := List.pairwise_iff_getElem.1 hp (m) k hml hkl (by omega)
              omega
      · right
        have e : i = j := by omega
        subst e
        have hmem : t ∈ s ↔ s[i]? = some t := by
          constructor
          · intro ht
            obtain ⟨k, hk⟩ := List.getElem?_of_mem ht
            rcases Nat.lt_trichotomy k i with h | h | h
            · have := h1 k t h hk; omega
            · subst h; exact hk
            · obtain ⟨hkl, hkt⟩ := List.getElem?_eq_some_iff.1 hk
              have h3 := h2 i s[i] (Nat.le_refl _) (List.getElem?_eq_getElem (by omega))
              have := List.pairwise_iff_getElem.1 hp i k (by omega) hkl h
              omega
          · exact List.mem_of_getElem?
        by_cases hil : i < s.length
        · by_cases hx : s[i] = t
          · have ht : t ∈ s := hmem.2 (by rw [List.getElem?_eq_getElem hil, hx])
            exact ⟨((i : Int), true), by simp [slices_BinarySearch_int_int_b2, slices_BinarySearch_int_int_j1, hil, hx], by simp [ht]⟩
          · have ht : ¬ t ∈ s := fun h => by
              have := hmem.1 h
              rw [List.getElem?_eq_getElem hil] at this
              exact hx (Option.some.inj this)
            exact ⟨((i : Int), false), by simp [slices_BinarySearch_int_int_b2, slices_BinarySearch_int_int_j1, slices_isNaN_int, hil, hx], by simp [ht]⟩
        · have ht : ¬ t ∈ s := fun h => by
            have := hmem.1 h
            exact hil (List.getElem?_eq_some_iff.1 this).1
          exact ⟨((i : Int), false), by simp [slices_BinarySearch_int_int_b2, slices_BinarySearch_int_int_j1, hil], by simp [ht]⟩)
  obtain ⟨⟨i, b⟩, h1, h2⟩ := key
  simp only at h2
  exact ⟨i, by rw [h1, h2]⟩

theorem within_eq (n : Int) : bitset_within_int n = some (decide (0 ≤ n ∧ n < 512)) := by
  unfold bitset_within_int
  by_cases h : 0 ≤ n <;> simp [h]
theorem within_true {n : Int} (h : 0 ≤ n ∧ n < 512) : bitset_within_int n = some true := by rw [within_eq, decide_eq_true h]
theorem within_false {n : Int} (h : ¬ (0 ≤ n ∧ n < 512)) : bitset_within_int n = some false := by rw [within_eq, decide_eq_false h]
theorem bcheck_eq (s : List Int) (hs : s.length ≤ 9223372036854775807) : bitset_Check s = some (ascB none s) := by
  unfold bitset_Check
  refine loop_list s (fun (_ : Option Int) i => i) (fun p i => match i with | 0 => p = none | k + 1 => s[k]? = p ∧ p ≠ none) (fun p l => some (ascB p l)) (fun _ _ => ⟨true, by simp [bitset_Check_b1], by simp [ascB]⟩) (fun p i x r hp hd hi hx => ?_) none rfl
  have w := wrap_succ (show i < 9223372036854775807 by omega)
  obtain ⟨_, rfl⟩ := List.getElem?_eq_some_iff.1 hx
  by_cases hg : 0 ≤ s[i] ∧ s[i] < 512
  · cases i with
    | zero =>
      simp only at hp
      subst hp
      exact .inl ⟨some s[0], ⟨hx, by simp⟩, by simp [bitset_Check_b1, hi, within_true hg], by simp [ascB, hg]⟩
    | succ k =>
      obtain ⟨hp, hpn⟩ := hp
      have hk : k < s.length := by omega
      rw [List.getElem?_eq_getElem hk] at hp
      subst hp
      have w : IntKind.i64.wrap ((k : Int) + 1 + 1) = (k : Int) + 1 + 1 := wrap64 (by omega) (by omega)
      have wp : IntKind.i64.wrap (k : Int) = k := wrap64 (by omega) (by omega)
      have e0 : (k : Int) + 1 - 1 = k := by omega
      by_cases hlt : s[k] < s[k + 1]
      · exact .inl ⟨some s[k + 1], ⟨hx, by simp⟩, by simp [bitset_Check_b1, hi, within_true hg, w, wp, e0, hk, show ¬ s[k + 1] ≤ s[k] by omega, show (0 : Int) < k + 1 by omega, show (k : Int) + 1 < s.length by omega], by simp [ascB, hg, hlt]⟩
      · exact .inr ⟨false, by simp [bitset_Check_b1, hi, within_true hg, w, wp, e0, hk, show s[k + 1] ≤ s[k] by omega, show (0 : Int) < k + 1 by omega, show (k : Int) + 1 < s.length by omega], by simp [ascB, hlt]⟩
  · exact .inr ⟨false, by simp [bitset_Check_b1, hi, within_false hg], by simp [ascB, hg]⟩
end Go.Proofs.Ytihomlbcppfngaa
