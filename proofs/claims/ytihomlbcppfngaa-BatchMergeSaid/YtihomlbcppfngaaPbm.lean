/-
  BatchMerge: its typed program answers true.
-/
import Derived.Test.YtihomlbcppfngaaDxP
import Derived.Test.YtihomlbcppfngaaPl
namespace Go.Proofs.Ytihomlbcppfngaa
open Go Go.Dw Go.Proofs

attribute [local simp] chk_pos Bool.cond_eq_ite

theorem sameBytes_eq (a b : List Int) (ha : a.length ≤ maxLen) : ref01_SameBytes a b = some (decide (a = b)) := by
  unfold maxLen at ha
  unfold ref01_SameBytes
  by_cases hl : a.length = b.length
  · simp only [hl, bne_self_eq_false, cond_false]
    by_cases hab : a = b
    · subst hab
      refine loop_steps (fun i => (i : Int)) a.length (fun i hi => ?_) ?_
      · simp [ref01_SameBytes_b1, hi, wrap_succ (show i < 9223372036854775807 by omega)]
      · simp [ref01_SameBytes_b1]
    · obtain ⟨m, x, y, hx, hy, hne, hlt⟩ := first_diff hl hab
      have hm : m < a.length := (List.getElem?_eq_some_iff.1 hx).1
      refine loop_steps (fun i => (i : Int)) m (fun i hi => ?_) ?_
      · obtain ⟨z, h1, h2⟩ := hlt i hi
        obtain ⟨p, rfl⟩ := List.getElem?_eq_some_iff.1 h1
        simp [ref01_SameBytes_b1, p, h2, wrap_succ (show i < 9223372036854775807 by omega)]
      · obtain ⟨_, rfl⟩ := List.getElem?_eq_some_iff.1 hx
        simp [ref01_SameBytes_b1, hm, hy, hne, hab]
  · have : ¬ a = b := fun e => hl (by rw [e])
    simp [this, show ¬ ((a.length : Int) = b.length) by omega]

theorem same_eq (a b : List TResult) (ha : qL qResult a) : ref34_Same a b = some (decide (a = b)) := by
  have hl0 : a.length ≤ maxLen := ha.1
  have hby : ∀ (i : Nat) x, a[i]? = some x → x.Bytes.length ≤ maxLen := fun i x hx => (ha.2 x (List.mem_of_getElem? hx)).1.1
  unfold maxLen at hl0
  unfold ref34_Same
  by_cases hl : a.length = b.length
  · simp only [hl, bne_self_eq_false, cond_false]
    by_cases hab : a = b
    · subst hab
      refine loop_steps (fun i => (i : Int)) a.length (fun i hi => ?_) ?_
      · have hx : a[i]? = some a[i] := List.getElem?_eq_getElem hi
        simp [ref34_Same_b1, hi, sameBytes_eq _ _ (hby i _ hx), wrap_succ (show i < 9223372036854775807 by omega)]
      · simp [ref34_Same_b1]
    · obtain ⟨m, x, y, hx, hy, hne, hlt⟩ := first_diff hl hab
      have hm : m < a.length := (List.getElem?_eq_some_iff.1 hx).1
      refine loop_steps (fun i => (i : Int)) m (fun i hi => ?_) ?_
      · obtain ⟨z, h1, h2⟩ := hlt i hi
        have h0 := hby i _ h1
        obtain ⟨p, rfl⟩ := List.getElem?_eq_some_iff.1 h1
        simp [ref34_Same_b1, p, h2, sameBytes_eq _ _ h0, wrap_succ (show i < 9223372036854775807 by omega)]
      · have hh := hby m _ hx
        obtain ⟨_, rfl⟩ := List.getElem?_eq_some_iff.1 hx
        by_cases hn : a[m].Bound = y.Bound <;> by_cases he : a[m].Err = y.Err <;> simp [ref34_Same_b1, hm, hy, hab, hn, he, sameBytes_eq _ _ hh]
        intro h
        exact hne (by rcases hq : a[m] with ⟨b1, n1, e1⟩; rw [hq] at h hn he; cases y; simp_all)
  · have : ¬ a = b := fun e => hl (by rw [e])
    simp [this, show ¬ ((a.length : Int) = b.length) by omega]

def better (a b : TResult) : Bool := if (a.Err == 0) != (b.Err == 0) then (a.Err == 0) else decide (a.Bound < b.Bound) || (decide (a.Bound = b.Bound) && decide (a.Bytes.length < b.Bytes.length))
theorem better_eq (a b : TResult) : ref34_better a b = some (better a b) := by
  unfold ref34_better better
  cases h1 : a.Err == 0 <;> cases h2 : b.Err == 0 <;> by_cases h3 : a.Bound < b.Bound <;> by_cases h4 : a.Bound = b.Bound <;> simp [h3, h4]

def cmpI (a b : Int) : Int := if a < b then -1 else if a > b then 1 else 0
theorem cmp_eq (a b : Int) : cmp_Compare_int a b = some (cmpI a b) := by
  unfold cmp_Compare_int cmpI
  by_cases h1 : a < b <;> by_cases h2 : b < a <;> simp [cmp_isNaN_int, h1, h2]
theorem or_eq (a b c : Int) : cmp_Or_int [a, b, c] = some (if a ≠ 0 then a else if b ≠ 0 then b else c) := by
  unfold cmp_Or_int
  have w1 : IntKind.i64.wrap 1 = 1 := wrap64 (by omega) (by omega)
  have w2 : IntKind.i64.wrap 2 = 2 := wrap64 (by omega) (by omega)
  have w3 : IntKind.i64.wrap 3 = 3 := wrap64 (by omega) (by omega)
  rw [LoopT_eq]
  by_cases ha : a = 0
  · simp [cmp_Or_int_b1, ha, w1]
    rw [LoopT_eq]
    by_cases hb : b = 0
    · simp [cmp_Or_int_b1, hb, ixO, w2]
      rw [LoopT_eq]
      by_cases hc : c = 0
      · simp [cmp_Or_int_b1, hc, ixO, w3]
        rw [LoopT_eq]
        simp [cmp_Or_int_b1]
      · simp [cmp_Or_int_b1, hc, ixO]
    · simp [cmp_Or_int_b1, hb, ixO]
  · simp [cmp_Or_int_b1, ha]

def cmpR (a b : TResult) : Int :=
  let p := cmpI (if a.Err == 0 then 0 else 1) (if b.Err == 0 then 0 else 1)
  let q := cmpI a.Bound b.Bound
  if p ≠ 0 then p else if q ≠ 0 then q else cmpI a.Bytes.length b.Bytes.length
theorem bad_eq (a : TResult) : batch_compare_1 a = some (if a.Err == 0 then 0 else 1) := by
  unfold batch_compare_1
  simp only [bne]
  cases h : a.Err == 0 <;> simp
theorem compare_eq (a b : TResult) : batch_compare a b = some (cmpR a b) := by
  simp [batch_compare, bad_eq, cmp_eq, or_eq, cmpR]
theorem cmpR_lt (a b : TResult) : cmpR a b < 0 ↔ better a b = true := by
  simp only [cmpR, cmpI, better]
  rcases Bool.eq_false_or_eq_true (a.Err == 0) with h1 | h1 <;> rcases Bool.eq_false_or_eq_true (b.Err == 0) with h2 | h2 <;> simp only [h1, h2]
  all_goals
    by_cases h3 : a.Bound < b.Bound
    · simp [h3]
    · by_cases h4 : a.Bound = b.Bound
      · by_cases h5 : a.Bytes.length < b.Bytes.length
        · simp [h4, h5]
        · by_cases h6 : b.Bytes.length < a.Bytes.length <;> simp [h4, h5, h6]
      · simp [h3, h4, show b.Bound < a.Bound by omega]

/-- the better ones of two lists -/
def mg : List TResult → List TResult → List TResult
  | [], b => b
  | a, [] => a
  | x :: a, y :: b => (if better y x then y else x) :: mg a b
theorem mg_nil (a : List TResult) : mg a [] = a := by cases a <;> rfl
theorem mg_self : ∀ a : List TResult, mg a a = a
  | [] => rfl
  | x :: a => by simp [mg, mg_self a]
theorem mg_get : ∀ (a b : List TResult) (i : Nat), (mg a b)[i]? = match a[i]?, b[i]? with
    | none, y => y
    | x, none => x
    | some x, some y => some (if better y x then y else x)
  | [], b, i => by simp [mg]
  | x :: a, [], i => by simp [mg]; cases (x :: a)[i]? <;> rfl
  | x :: a, y :: b, 0 => by simp [mg]
  | x :: a, y :: b, i + 1 => by simp [mg, mg_get a b i]
theorem mg_length : ∀ a b : List TResult, (mg a b).length = max a.length b.length
  | [], b => by simp [mg]
  | x :: a, [] => by simp [mg]
  | x :: a, y :: b => by simp [mg, mg_length a b]

theorem merge_eq (a b : List TResult) (ha : a.length ≤ 100) (hb : b.length ≤ 100) : batch_Merge a b = some (mg a b) := by
  unfold batch_Merge
  have hlen := mg_length a b
  refine loop_steps (fun i => ((mg a b).take i, (i : Int))) (max a.length b.length) (fun i hi => ?_) ?_
  · have hg := mg_get a b i
    have w := wrap_succ (show i < 9223372036854775807 by omega)
    have hi' : ((i : Int) < max (a.length : Int) b.length) := by omega
    have hm : min i (mg a b).length + 1 ≤ 16777216 := by omega
    by_cases h1 : b.length ≤ i
    · have hx : a[i]? = some (a[i]'(by omega)) := List.getElem?_eq_getElem _
      have hy : b[i]? = none := List.getElem?_eq_none h1
      rw [hx, hy] at hg
      have hs := take_succ_map id hg
      simp only [List.map_id, id] at hs
      simp [batch_Merge_b1, maxI_eq, hi', h1, hx, hm, w, hs]
    · have hy : b[i]? = some (b[i]'(by omega)) := List.getElem?_eq_getElem _
      by_cases h2 : a.length ≤ i
      · have hx : a[i]? = none := List.getElem?_eq_none h2
        rw [hx, hy] at hg
        have hs := take_succ_map id hg
        simp only [List.map_id, id] at hs
        simp [batch_Merge_b1, batch_Merge_j2, maxI_eq, hi', h1, h2, hy, hm, w, hs]
      · have hx : a[i]? = some (a[i]'(by omega)) := List.getElem?_eq_getElem _
        rw [hx, hy] at hg
        have hs := take_succ_map id hg
        simp only [List.map_id, id] at hs
        cases hbt : better (b[i]'(by omega)) (a[i]'(by omega)) <;> simp [batch_Merge_b1, batch_Merge_j2, maxI_eq, hi', h1, h2, hx, hy, hm, w, hs, compare_eq, cmpR_lt, hbt]
  · have : ¬ (((mg a b).length : Int) < max (a.length : Int) b.length) := by omega
    simp [batch_Merge_b1, maxI_eq, ← hlen, this]

theorem refMerge_eq (a b : List TResult) (ha : a.length ≤ 100) (hb : b.length ≤ 100) : ref34_Merge a b = some (mg a b) := by
  unfold ref34_Merge
  have hlen := mg_length a b
  refine loop_steps (fun i => ((mg a b).take i, (i : Int))) (max a.length b.length) (fun i hi => ?_) ?_
  · have hg := mg_get a b i
    have w := wrap_succ (show i < 9223372036854775807 by omega)
    have hm : min i (mg a b).length + 1 ≤ 16777216 := by omega
    by_cases h1 : b.length ≤ i
    · have hal : i < a.length := by omega
      have hx : a[i]? = some (a[i]'hal) := List.getElem?_eq_getElem _
      have hy : b[i]? = none := List.getElem?_eq_none h1
      rw [hx, hy] at hg
      have hs := take_succ_map id hg
      simp only [List.map_id, id] at hs
      simp [ref34_Merge_b1, ref34_Merge_j2, ref34_Merge_j3, hal, show ¬ a.length ≤ i by omega, show ¬ i < b.length by omega, hx, hm, w, hs]
    · have hy : b[i]? = some (b[i]'(by omega)) := List.getElem?_eq_getElem _
      by_cases h2 : a.length ≤ i
      · have hx : a[i]? = none := List.getElem?_eq_none h2
        rw [hx, hy] at hg
        have hs := take_succ_map id hg
        simp only [List.map_id, id] at hs
        simp [ref34_Merge_b1, ref34_Merge_j2, ref34_Merge_j3, show ¬ i < a.length by omega, h2, show i < b.length by omega, hy, hm, w, hs]
      · have hx : a[i]? = some (a[i]'(by omega)) := List.getElem?_eq_getElem _
        rw [hx, hy] at hg
        have hs := take_succ_map id hg
        simp only [List.map_id, id] at hs
        cases hbt : better (b[i]'(by omega)) (a[i]'(by omega)) <;> simp [ref34_Merge_b1, ref34_Merge_j2, ref34_Merge_j3, show i < a.length by omega, h2, show i < b.length by omega, hx, hy, hm, w, hs, better_eq, hbt]
  · simp [ref34_Merge_b1, ← hlen, show ¬ (mg a b).length < a.length by omega, show ¬ (mg a b).length < b.length by omega]

theorem bmAwake : law34_awake = some true := by
  simp [law34_awake, merge_eq, mg, better]

theorem law34_BatchMerge_true (a b : List TResult) (ha : qL qResult a) (hb : qL qResult b) : law34_BatchMerge a b = some true := by
  by_cases h1 : a.length ≤ 100
  · by_cases h2 : b.length ≤ 100
    · have hm : qL qResult (mg a b) := by
        refine ⟨by rw [mg_length]; unfold maxLen; omega, fun x hx => ?_⟩
        obtain ⟨i, hi⟩ := List.getElem?_of_mem hx
        rw [mg_get] at hi
        cases hp : a[i]? with
        | none => rw [hp] at hi; exact hb.2 x (List.mem_of_getElem? hi)
        | some p =>
          cases hy : b[i]? with
          | none => rw [hp, hy] at hi; cases hi; exact ha.2 _ (List.mem_of_getElem? hp)
          | some q =>
            rw [hp, hy] at hi
            simp only [Option.some.injEq] at hi
            split at hi
            · subst hi; exact hb.2 _ (List.mem_of_getElem? hy)
            · subst hi; exact ha.2 _ (List.mem_of_getElem? hp)
      have e0 : ([] : List TResult).length ≤ 100 := by simp
      simp [law34_BatchMerge, law34_BatchMerge_j1, law34_BatchMerge_j2, bmAwake, show ¬ (100 : Int) < a.length by omega, show ¬ (100 : Int) < b.length by omega, merge_eq, refMerge_eq, h1, h2, same_eq _ _ hm, mg_self, mg_nil, same_eq _ _ ha, mg, same_eq _ _ hb]
    · simp [law34_BatchMerge, law34_BatchMerge_j1, law34_BatchMerge_j2, bmAwake, show ¬ (100 : Int) < a.length by omega, show (100 : Int) < b.length by omega]
  · simp [law34_BatchMerge, law34_BatchMerge_j2, bmAwake, show (100 : Int) < a.length by omega]
end Go.Proofs.Ytihomlbcppfngaa
