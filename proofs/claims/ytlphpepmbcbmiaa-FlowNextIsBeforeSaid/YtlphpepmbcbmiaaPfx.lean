/-
  FlowNext, FlowNextIsBefore: their typed programs answer true.
-/
import Derived.Test.YtlphpepmbcbmiaaPbe
import Derived.Test.YtlphpepmbcbmiaaPsa
namespace Go.Proofs.Ytlphpepmbcbmiaa
open Go Go.Dw Go.Proofs

theorem next_any {f : TFunc} (hf : FlowOk f) (k : Int) : ∃ l, flow_Next f k = some l ∧ ref13_Next f k = some l ∧ l.length ≤ 2 := by
  have hlen' := hf.len'
  by_cases h0 : k < 0
  · refine ⟨[], ?_, ?_, by simp⟩
    · unfold flow_Next; rw [decide_eq_true h0]; rfl
    · unfold ref13_Next; rw [decide_eq_true h0]; rfl
  · by_cases h1 : k ≥ (f.Code.length : Int)
    · refine ⟨[], ?_, ?_, by simp⟩
      · unfold flow_Next; rw [decide_eq_false h0, decide_eq_true h1]; rfl
      · unfold ref13_Next; rw [decide_eq_false h0, decide_eq_true h1]; rfl
    · obtain ⟨j, rfl⟩ : ∃ j : Nat, k = (j : Int) := ⟨k.toNat, by omega⟩
      have hj : j < f.Code.length := by omega
      have hcode : f.Code[j]? = some (codeOf f j) := by simp [codeOf, hj]
      exact ⟨_, fnext_eq hcode (by omega), rnext_eq hcode (by omega), nextN_length2 _ _⟩

theorem law13_FlowNext_true (codes : List Int) (k : Int) (hc : qL (qInt .u8) codes) (_hk : qInt .i64 k) : law13_FlowNext codes k = some true := by
  obtain ⟨p, e1, _, ps, i, hf⟩ := function13_hs codes hc
  have hfl := hf.flow (by omega)
  have hlen' := hfl.len'
  suffices h : Hs (law13_FlowNext codes k) (· = true) by obtain ⟨r, h1, h2⟩ := h; rw [h1, h2]
  unfold law13_FlowNext
  rw [awake13]
  simp only [Option.bind_some, Bool.not_true, cond_false, e1]
  refine Hs.loop (fun s => ∃ i : Nat, s = (i : Int) ∧ i ≤ p.1.Code.length) (fun s => p.1.Code.length - s.toNat) ⟨0, rfl, Nat.zero_le _⟩ ?_
  rintro _ ⟨i, rfl, hi⟩
  unfold law13_FlowNext_b1
  refine .dec (fun hlt => ?_) fun _ => .lft ?_
  · have hlt : i < p.1.Code.length := Int.ofNat_lt.1 hlt
    have wi := wrap_succ (show i < 9223372036854775807 by omega)
    obtain ⟨l, h1, h2, h3⟩ := next_any hfl (i : Int)
    rw [h1, Option.bind_some, h2, Option.bind_some, same_eq l l (by omega), Option.bind_some]
    simp only [decide_true, Bool.not_true, cond_false]
    exact .cnt ⟨⟨i + 1, wi, hlt⟩, by simp only [wi]; omega⟩
  · obtain ⟨l, h1, h2, h3⟩ := next_any hfl k
    rw [h1, Option.bind_some, h2, Option.bind_some, same_eq l l (by omega), Option.bind_some]
    simp only [decide_true, cond_true]
    rw [fbefore_eq hfl, Option.bind_some, rbefore_eq hfl, Option.bind_some, sameall_eq _ _ (by rw [befN_length]; omega) (fun q hq => by have := befN_bound _ _ q hq; omega), Option.bind_some]
    exact .pure (by simp [Rnd])

theorem has_hs (s : List Int) (n : Int) (h : s.length ≤ 9223372036854775806) : ref04_Has s n = some (decide (n ∈ s)) := by
  suffices h : Hs (ref04_Has s n) (· = decide (n ∈ s)) by obtain ⟨r, h1, h2⟩ := h; rw [h1, h2]
  unfold ref04_Has
  refine Hs.loop (fun x => ∃ i : Nat, x = (i : Int) ∧ i ≤ s.length ∧ ∀ j : Nat, j < i → s[j]? ≠ some n) (fun x => s.length - x.toNat) ⟨0, rfl, Nat.zero_le _, fun j h => absurd h (Nat.not_lt_zero _)⟩ ?_
  rintro _ ⟨i, rfl, hi, hn⟩
  unfold ref04_Has_b1
  refine .dec (fun hlt => ?_) fun hlt => .lft (.pure ?_)
  · have hlt : i < s.length := Int.ofNat_lt.1 hlt
    have wi := wrap_succ (show i < 9223372036854775807 by omega)
    refine (Hs.ix (i := (i : Int)) (by omega) (by omega) fun z hz => hz).bind fun y hy => ?_
    simp only [Int.toNat_natCast] at hy
    refine .beq (fun e => .lft (.pure ?_)) fun e => .cnt ⟨⟨i + 1, wi, hlt, fun j hj => ?_⟩, by simp only [wi]; omega⟩
    · subst e
      have : y ∈ s := List.mem_of_getElem? hy
      show true = decide (y ∈ s)
      simp [this]
    · by_cases ej : j = i
      · subst ej; rw [hy]; intro h; exact e (Option.some.inj h)
      · exact hn j (by omega)
  · have hil : i = s.length := by have : ¬ i < s.length := fun h => hlt (Int.ofNat_lt.2 h); omega
    subst hil
    have : ¬ n ∈ s := fun hm => by
      obtain ⟨j, hj⟩ := List.getElem?_of_mem hm
      exact hn j (List.getElem?_eq_some_iff.1 hj).1 hj
    show false = decide (n ∈ s)
    simp [this]

theorem law13_FlowNextIsBefore_true (codes : List Int) (hc : qL (qInt .u8) codes) : law13_FlowNextIsBefore codes = some true := by
  obtain ⟨p, e1, _, ps, i, hf⟩ := function13_hs codes hc
  have hfl := hf.flow (by omega)
  have hlen' := hfl.len'
  suffices h : Hs (law13_FlowNextIsBefore codes) (· = true) by obtain ⟨r, h1, h2⟩ := h; rw [h1, h2]
  unfold law13_FlowNextIsBefore
  rw [awake13]
  simp only [Option.bind_some, Bool.not_true, cond_false, e1, fbefore_eq hfl]
  refine .bne (fun h => (h (by rw [befN_length])).elim) fun _ => ?_
  refine Hs.loop (fun s => ∃ i : Nat, s = (i : Int) ∧ i ≤ p.1.Code.length) (fun s => p.1.Code.length - s.toNat) ⟨0, rfl, Nat.zero_le _⟩ ?_
  rintro _ ⟨k, rfl, hk⟩
  unfold law13_FlowNextIsBefore_b1
  refine .dec (fun hlt => ?_) fun _ => .lft (.pure rfl)
  have hlt : k < p.1.Code.length := Int.ofNat_lt.1 hlt
  have wk := wrap_succ (show k < 9223372036854775807 by omega)
  have hcode : p.1.Code[k]? = some (codeOf p.1 k) := by simp [codeOf, hlt]
  rw [fnext_eq hcode (by omega), Option.bind_some]
  have hnl := nextN_length2 (codeOf p.1 k) k
  refine Hs.loop (fun s => ∃ i : Nat, s = (i : Int) ∧ i ≤ p.1.Code.length) (fun s => p.1.Code.length - s.toNat) ⟨0, rfl, Nat.zero_le _⟩ ?_
  rintro _ ⟨j, rfl, hj⟩
  unfold law13_FlowNextIsBefore_b3
  refine .dec (fun hjl => ?_) fun _ => .lft ?_
  · have hjl : j < p.1.Code.length := Int.ofNat_lt.1 hjl
    have wj := wrap_succ (show j < 9223372036854775807 by omega)
    obtain ⟨q, hq, hm⟩ := befN_mem hfl hjl p.1.Code.length (Nat.le_refl _)
    have hqb := befN_bound _ _ q (List.mem_of_getElem? hq)
    rw [has_hs _ _ (by omega), Option.bind_some]
    have hix : ixO (befN p.1 p.1.Code.length) (j : Int) = some q := by rw [ixO_nat]; exact hq
    rw [hix, Option.bind_some, has_hs _ _ (by omega), Option.bind_some]
    have hiff : ((j : Int) ∈ nextN (codeOf p.1 k) k) ↔ ((k : Int) ∈ q) := by
      rw [hm]
      constructor
      · exact fun h => ⟨k, hlt, rfl, h⟩
      · rintro ⟨i, _, h2, h3⟩
        have : i = k := by omega
        subst this; exact h3
    have : (decide ((j : Int) ∈ nextN (codeOf p.1 k) k) == decide ((k : Int) ∈ q)) = true := by simp [hiff]
    rw [this]
    simp only [Bool.not_true, cond_false]
    exact .cnt ⟨⟨j + 1, wj, hjl⟩, by simp only [wj]; omega⟩
  · unfold law13_FlowNextIsBefore_j2
    exact .cnt ⟨⟨k + 1, wk, hlt⟩, by simp only [wk]; omega⟩
end Go.Proofs.Ytlphpepmbcbmiaa
