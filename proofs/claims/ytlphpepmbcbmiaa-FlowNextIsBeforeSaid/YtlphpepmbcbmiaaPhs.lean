/-
  A calculus for typed programs: a program comes to something of which P holds.
-/
import Derived.Test.YtlphpepmbcbmiaaPl
namespace Go.Dw
open Go

/-- the program ends, and P holds of what it gives -/
def Hs {α : Type} (m : Option α) (P : α → Prop) : Prop := ∃ r, m = some r ∧ P r

section
variable {α β ι R : Type}
theorem Hs.pure {a : α} {P : α → Prop} (h : P a) : Hs (some a) P := ⟨a, rfl, h⟩
theorem Hs.bind {m : Option α} {f : α → Option β} {P : α → Prop} {Q : β → Prop} (h : Hs m P) (hf : ∀ r, P r → Hs (f r) Q) : Hs (m.bind f) Q := by
  obtain ⟨r, rfl, hr⟩ := h
  exact hf r hr
theorem Hs.mono {m : Option α} {P Q : α → Prop} (h : Hs m P) (hf : ∀ r, P r → Q r) : Hs m Q := by
  obtain ⟨r, h1, hr⟩ := h
  exact ⟨r, h1, hf r hr⟩
theorem Hs.chk {p : Prop} [Decidable p] {m : Option α} {P : α → Prop} (hp : p) (h : Hs m P) : Hs (chk p m) P := by
  rw [chk_pos hp]; exact h
theorem Hs.cond {b : Bool} {x y : Option α} {P : α → Prop} (h1 : b = true → Hs x P) (h2 : b = false → Hs y P) : Hs (bif b then x else y) P := by
  cases b
  · exact h2 rfl
  · exact h1 rfl
theorem Hs.dec {p : Prop} [Decidable p] {x y : Option α} {P : α → Prop} (h1 : p → Hs x P) (h2 : ¬ p → Hs y P) : Hs (bif decide p then x else y) P :=
  Hs.cond (fun h => h1 (of_decide_eq_true h)) (fun h => h2 (of_decide_eq_false h))
theorem Hs.beq {a b : Int} {x y : Option α} {P : α → Prop} (h1 : a = b → Hs x P) (h2 : a ≠ b → Hs y P) : Hs (bif a == b then x else y) P :=
  Hs.cond (fun h => h1 (by simpa using h)) (fun h => h2 (by simpa using h))
theorem Hs.bne {a b : Int} {x y : Option α} {P : α → Prop} (h1 : a ≠ b → Hs x P) (h2 : a = b → Hs y P) : Hs (bif a != b then x else y) P :=
  Hs.cond (fun h => h1 (by simpa using h)) (fun h => h2 (by simpa using h))
theorem Hs.cnt {s : ι} {P : ι ⊕ R → Prop} (h : P (.inl s)) : Hs (Go.Dw.cnt s) P := ⟨_, rfl, h⟩
theorem Hs.lft {m : Option R} {P : ι ⊕ R → Prop} (h : Hs m fun r => P (.inr r)) : Hs (Go.Dw.lft m) P := by
  obtain ⟨r, rfl, h⟩ := h
  exact ⟨_, rfl, h⟩
/-- what a round gives: the next state, closer to the end, or the result -/
def Rnd (I : ι → Prop) (μ : ι → Nat) (s : ι) (Q : R → Prop) : ι ⊕ R → Prop
  | .inl s' => I s' ∧ μ s' < μ s
  | .inr r => Q r
theorem Hs.loop {body : ι → Option (ι ⊕ R)} {s : ι} {Q : R → Prop} (I : ι → Prop) (μ : ι → Nat) (h0 : I s) (hb : ∀ s, I s → Hs (body s) (Rnd I μ s Q)) : Hs (LoopT body s) Q := by
  refine LoopT_inv I Q μ h0 fun s hs => ?_
  obtain ⟨z, hz, hq⟩ := hb s hs
  cases z with
  | inl s' => exact .inl ⟨s', hz, hq⟩
  | inr r => exact .inr ⟨r, hz, hq⟩
theorem Hs.get {l : List α} {i : Int} {P : α → Prop} (h0 : 0 ≤ i) (h1 : i < l.length) (h : ∀ x, l[i.toNat]? = some x → P x) : Hs (l[i.toNat]?) P := by
  have : l[i.toNat]? = some (l[i.toNat]'(by omega)) := List.getElem?_eq_getElem _
  exact ⟨_, this, h _ this⟩
theorem Hs.ix {l : List α} {i : Int} {P : α → Prop} (h0 : 0 ≤ i) (h1 : i < l.length) (h : ∀ x, l[i.toNat]? = some x → P x) : Hs (ixO l i) P := by
  rw [ixO_pos _ h0]; exact Hs.get h0 h1 h
end
theorem u64_rng (n : Int) : 0 ≤ IntKind.u64.wrap n ∧ IntKind.u64.wrap n < 18446744073709551616 := by
  simp [IntKind.wrap, IntKind.signed, IntKind.bits]; omega
end Go.Dw
