/-
  flow.Before and the reference's: the instructions that an instruction may follow.
-/
import Derived.Test.YtlphpepmbcbmiaaPfr0
namespace Go.Proofs.Ytlphpepmbcbmiaa
open Go Go.Dw Go.Proofs

/-- k is put at the end of list j -/
def bstep (k : Nat) (l : List (List Int)) (j : Int) : List (List Int) := l.set j.toNat ((l[j.toNat]?).getD [] ++ [(k : Int)])
def bsteps (k : Nat) (l : List (List Int)) (nx : List Int) : List (List Int) := nx.foldl (bstep k) l
/-- what the first k instructions may go to -/
def befN (f : TFunc) : Nat → List (List Int)
  | 0 => List.replicate f.Code.length []
  | k + 1 => bsteps k (befN f k) (nextN (codeOf f k) k)

theorem bstep_length (k : Nat) (l : List (List Int)) (j : Int) : (bstep k l j).length = l.length := by simp [bstep]
theorem bsteps_length (k : Nat) : ∀ (nx : List Int) (l : List (List Int)), (bsteps k l nx).length = l.length
  | [], _ => rfl
  | j :: nx, l => (bsteps_length k nx _).trans (bstep_length k l j)
theorem bstep_bound {k m : Nat} {l : List (List Int)} (h : ∀ q ∈ l, q.length ≤ m) (j : Int) : ∀ q ∈ bstep k l j, q.length ≤ m + 1 := by
  intro q hq
  rcases List.mem_or_eq_of_mem_set hq with hq | hq
  · exact Nat.le_succ_of_le (h q hq)
  · subst hq
    cases hx : l[j.toNat]? with
    | none => simp
    | some q => have := h q (List.mem_of_getElem? hx); simp; omega
theorem bsteps_bound {k : Nat} : ∀ (nx : List Int) (m : Nat) (l : List (List Int)), (∀ q ∈ l, q.length ≤ m) → ∀ q ∈ bsteps k l nx, q.length ≤ m + nx.length
  | [], m, l, h => h
  | j :: nx, m, l, h => fun q hq => by
    have := bsteps_bound nx (m + 1) _ (bstep_bound h j) q hq
    simp only [List.length_cons]; omega
theorem bsteps_take {k i : Nat} {l : List (List Int)} {nx : List Int} {y : Int} (h : nx[i]? = some y) : bsteps k l (nx.take (i + 1)) = bstep k (bsteps k l (nx.take i)) y := by
  simp [bsteps, List.take_add_one, h, List.foldl_append]
theorem befN_length (f : TFunc) : ∀ k, (befN f k).length = f.Code.length
  | 0 => by simp [befN]
  | k + 1 => (bsteps_length k _ _).trans (befN_length f k)
theorem nextN_length2 (x : TInstr) (k : Int) : (nextN x k).length ≤ 2 := by unfold nextN; (repeat' split) <;> simp
theorem befN_bound (f : TFunc) : ∀ k, ∀ q ∈ befN f k, q.length ≤ 2 * k
  | 0, q, hq => by simp only [befN, List.mem_replicate] at hq; simp [hq.2]
  | k + 1, q, hq => by
    have := bsteps_bound _ _ _ (befN_bound f k) q hq
    have := nextN_length2 (codeOf f k) k
    omega

theorem bstep_mem {k : Nat} {l : List (List Int)} {y : Int} {j : Nat} {q : List Int} (hy : 0 ≤ y) (h : l[j]? = some q) : ∃ q', (bstep k l y)[j]? = some q' ∧ ∀ x, x ∈ q' ↔ x ∈ q ∨ (x = (k : Int) ∧ y = (j : Int)) := by
  obtain ⟨hl, _⟩ := List.getElem?_eq_some_iff.1 h
  by_cases e : y.toNat = j
  · subst e
    refine ⟨q ++ [(k : Int)], by simp only [bstep, h, Option.getD_some]; exact List.getElem?_set_self hl, fun x => ?_⟩
    simp only [List.mem_append, List.mem_singleton]
    constructor
    · rintro (h | h)
      · exact .inl h
      · exact .inr ⟨h, by omega⟩
    · rintro (h | h)
      · exact .inl h
      · exact .inr h.1
  · refine ⟨q, by simp only [bstep]; rw [List.getElem?_set_ne e]; exact h, fun x => ?_⟩
    constructor
    · exact .inl
    · rintro (h | h)
      · exact h
      · omega
theorem bsteps_mem {k : Nat} {j : Nat} : ∀ (nx : List Int) (l : List (List Int)) (q : List Int), (∀ y ∈ nx, 0 ≤ y) → l[j]? = some q → ∃ q', (bsteps k l nx)[j]? = some q' ∧ ∀ x, x ∈ q' ↔ x ∈ q ∨ (x = (k : Int) ∧ (j : Int) ∈ nx)
  | [], l, q, _, h => ⟨q, h, fun x => by simp⟩
  | y :: nx, l, q, hn, h => by
    obtain ⟨q1, h1, m1⟩ := bstep_mem (k := k) (hn y (by simp)) h
    obtain ⟨q2, h2, m2⟩ := bsteps_mem nx _ q1 (fun z hz => hn z (by simp [hz])) h1
    refine ⟨q2, h2, fun x => ?_⟩
    rw [m2, m1]
    simp only [List.mem_cons]
    constructor
    · rintro ((h | h) | h)
      · exact .inl h
      · exact .inr ⟨h.1, .inl h.2.symm⟩
      · exact .inr ⟨h.1, .inr h.2⟩
    · rintro (h | ⟨h, h' | h'⟩)
      · exact .inl (.inl h)
      · exact .inl (.inr ⟨h, h'.symm⟩)
      · exact .inr ⟨h, h'⟩
theorem befN_mem {f : TFunc} (hf : FlowOk f) {j : Nat} (hj : j < f.Code.length) : ∀ k, k ≤ f.Code.length → ∃ q, (befN f k)[j]? = some q ∧ ∀ x, x ∈ q ↔ ∃ i : Nat, i < k ∧ x = (i : Int) ∧ (j : Int) ∈ nextN (codeOf f i) i
  | 0, _ => ⟨[], by simp [befN, hj], fun x => by simp⟩
  | k + 1, hk => by
    obtain ⟨q, h1, m1⟩ := befN_mem hf hj k (by omega)
    have hcode : f.Code[k]? = some (codeOf f k) := by simp [codeOf, show k < f.Code.length by omega]
    obtain ⟨q2, h2, m2⟩ := bsteps_mem (k := k) (nextN (codeOf f k) k) _ q (fun y hy => (hf.next k _ hcode y hy).1) h1
    refine ⟨q2, h2, fun x => ?_⟩
    rw [m2, m1]
    constructor
    · rintro (⟨i, h3, h4, h5⟩ | ⟨h3, h4⟩)
      · exact ⟨i, by omega, h4, h5⟩
      · exact ⟨k, by omega, h3, h4⟩
    · rintro ⟨i, h3, h4, h5⟩
      by_cases e : i = k
      · subst e; exact .inr ⟨h4, h5⟩
      · exact .inl ⟨i, by omega, h4, h5⟩

theorem fbefore_eq {f : TFunc} (hf : FlowOk f) : flow_Before f = some (befN f f.Code.length) := by
  have hlen := hf.len
  have hlen' := hf.len'
  have : Hs (flow_Before f) (· = befN f f.Code.length) := by
    unfold flow_Before
    refine .chk (by omega) ?_
    refine Hs.loop (fun s => ∃ k : Nat, s.2 = (k : Int) ∧ k ≤ f.Code.length ∧ s.1 = befN f k) (fun s => f.Code.length - s.2.toNat) ⟨0, rfl, Nat.zero_le _, by simp [befN]⟩ ?_
    rintro ⟨l, k'⟩ ⟨k, rfl, hk, rfl⟩
    unfold flow_Before_b1
    dsimp only
    refine .dec (fun hlt => ?_) fun hlt => .lft (.pure ?_)
    · have hlt : k < f.Code.length := Int.ofNat_lt.1 hlt
      have wk := wrap_succ (show k < 9223372036854775807 by omega)
      have hcode : f.Code[k]? = some (codeOf f k) := by simp [codeOf, hlt]
      have hnx := hf.next k _ hcode
      have hnl := nextN_length2 (codeOf f k) k
      have hb := befN_bound f k
      have hbl := befN_length f k
      rw [fnext_eq hcode (by omega), Option.bind_some]
      refine Hs.loop (fun s => ∃ i : Nat, s.2 = (i : Int) ∧ i ≤ (nextN (codeOf f k) k).length ∧ s.1 = bsteps k (befN f k) ((nextN (codeOf f k) k).take i)) (fun s => (nextN (codeOf f k) k).length - s.2.toNat) ⟨0, rfl, Nat.zero_le _, rfl⟩ ?_
      rintro ⟨l, i'⟩ ⟨i, rfl, hi, rfl⟩
      unfold flow_Before_b2
      dsimp only
      refine .dec (fun hil => ?_) fun hil => .lft (.cnt ⟨⟨k + 1, wk, hlt, ?_⟩, ?_⟩)
      · have hil : i < (nextN (codeOf f k) k).length := Int.ofNat_lt.1 hil
        have wi := wrap_succ (show i < 9223372036854775807 by omega)
        refine .chk (by omega) ((Hs.get (i := (i : Int)) (by omega) (by omega) fun z hz => hz).bind fun y hy => ?_)
        simp only [Int.toNat_natCast] at hy
        have hyr := hnx y (List.mem_of_getElem? hy)
        have hl2 := bsteps_length k ((nextN (codeOf f k) k).take i) (befN f k)
        refine .chk (by omega) ((Hs.get (i := y) (by omega) (by omega) fun z hz => hz).bind fun q hq => ?_)
        have hqb := bsteps_bound _ _ _ hb q (List.mem_of_getElem? hq)
        simp only [List.length_take] at hqb
        refine .chk (by simp only [List.length_singleton]; omega) (.chk (by omega) (.cnt ⟨⟨i + 1, wi, hil, ?_⟩, by simp only [wi]; omega⟩))
        rw [bsteps_take hy, bstep, hq]; rfl
      · have : i = (nextN (codeOf f k) k).length := by have : ¬ i < (nextN (codeOf f k) k).length := fun h => hil (Int.ofNat_lt.2 h); omega
        subst this
        simp only [List.take_length]; rfl
      · simp only [wk]; omega
    · have : k = f.Code.length := by have : ¬ k < f.Code.length := fun h => hlt (Int.ofNat_lt.2 h); omega
      rw [this]; rfl
  obtain ⟨r, h1, h2⟩ := this
  rw [h1, h2]

theorem rbefore_eq {f : TFunc} (hf : FlowOk f) : ref13_Before f = some (befN f f.Code.length) := by
  have hlen := hf.len
  have hlen' := hf.len'
  have : Hs (ref13_Before f) (· = befN f f.Code.length) := by
    unfold ref13_Before
    refine .chk (by omega) ?_
    refine Hs.loop (fun s => ∃ k : Nat, s.2 = (k : Int) ∧ k ≤ f.Code.length ∧ s.1 = befN f k) (fun s => f.Code.length - s.2.toNat) ⟨0, rfl, Nat.zero_le _, by simp [befN]⟩ ?_
    rintro ⟨l, k'⟩ ⟨k, rfl, hk, rfl⟩
    unfold ref13_Before_b1
    dsimp only
    refine .dec (fun hlt => ?_) fun hlt => .lft (.pure ?_)
    · have hlt : k < f.Code.length := Int.ofNat_lt.1 hlt
      have wk := wrap_succ (show k < 9223372036854775807 by omega)
      have hcode : f.Code[k]? = some (codeOf f k) := by simp [codeOf, hlt]
      have hnx := hf.next k _ hcode
      have hnl := nextN_length2 (codeOf f k) k
      have hb := befN_bound f k
      have hbl := befN_length f k
      rw [rnext_eq hcode (by omega), Option.bind_some]
      refine Hs.loop (fun s => ∃ i : Nat, s.2 = (i : Int) ∧ i ≤ (nextN (codeOf f k) k).length ∧ s.1 = bsteps k (befN f k) ((nextN (codeOf f k) k).take i)) (fun s => (nextN (codeOf f k) k).length - s.2.toNat) ⟨0, rfl, Nat.zero_le _, rfl⟩ ?_
      rintro ⟨l, i'⟩ ⟨i, rfl, hi, rfl⟩
      unfold ref13_Before_b3
      dsimp only
      refine .dec (fun hil => ?_) fun hil => .lft ?_
      · have hil : i < (nextN (codeOf f k) k).length := Int.ofNat_lt.1 hil
        have wi := wrap_succ (show i < 9223372036854775807 by omega)
        refine .chk (by omega) ((Hs.get (i := (i : Int)) (by omega) (by omega) fun z hz => hz).bind fun y hy => ?_)
        simp only [Int.toNat_natCast] at hy
        have hyr := hnx y (List.mem_of_getElem? hy)
        have hl2 := bsteps_length k ((nextN (codeOf f k) k).take i) (befN f k)
        refine .chk (by omega) (.chk (by omega) ((Hs.get (i := y) (by omega) (by omega) fun z hz => hz).bind fun q hq => ?_))
        have hqb := bsteps_bound _ _ _ hb q (List.mem_of_getElem? hq)
        simp only [List.length_take] at hqb
        refine .chk (by simp only [List.length_singleton]; omega) (.chk (by omega) (.cnt ⟨⟨i + 1, wi, hil, ?_⟩, by simp only [wi]; omega⟩))
        rw [bsteps_take hy, bstep, hq]; rfl
      · unfold ref13_Before_j2
        refine .cnt ⟨⟨k + 1, wk, hlt, ?_⟩, ?_⟩
        · have : i = (nextN (codeOf f k) k).length := by have : ¬ i < (nextN (codeOf f k) k).length := fun h => hil (Int.ofNat_lt.2 h); omega
          subst this
          simp only [List.take_length]; rfl
        · simp only [wk]; omega
    · have : k = f.Code.length := by have : ¬ k < f.Code.length := fun h => hlt (Int.ofNat_lt.2 h); omega
      rw [this]; rfl
  obtain ⟨r, h1, h2⟩ := this
  rw [h1, h2]
end Go.Proofs.Ytlphpepmbcbmiaa
