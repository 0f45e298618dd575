/-
  What may follow an instruction; drawn code stays inside.
-/
import Derived.Test.YtlphpepmbcbmiaaPpr
namespace Go.Proofs.Ytlphpepmbcbmiaa
open Go Go.Dw Go.Proofs

attribute [local simp] chk_pos Bool.cond_eq_ite

def codeOf (f : TFunc) (k : Nat) : TInstr := (f.Code[k]?).getD default
/-- the instructions that may follow instruction x at k -/
def nextN (x : TInstr) (k : Int) : List Int :=
  if x.Op = 20 then [x.A] else if x.Op = 23 ∨ x.Op = 24 then [] else
  if x.Op = 21 then (if x.B < k + 1 then [x.B, k + 1] else if k + 1 < x.B then [k + 1, x.B] else [k + 1]) else [k + 1]

theorem rnext_eq {f : TFunc} {k : Nat} {x : TInstr} (h : f.Code[k]? = some x) (hk : k < 9223372036854775807) : ref13_Next f (k : Int) = some (nextN x k) := by
  obtain ⟨hl, hx⟩ := List.getElem?_eq_some_iff.1 h
  have hnl : ¬ f.Code.length ≤ k := by omega
  have w : IntKind.i64.wrap ((k : Int) + 1) = (k : Int) + 1 := wrap64 (by omega) (by omega)
  unfold ref13_Next ref13_Next_j1 nextN
  obtain ⟨op, a, b, c, i⟩ := x
  by_cases h20 : op = 20
  · subst h20; simp [hx, hl, hnl, show ¬ (k : Int) < 0 by omega]
  · have e20 : (op == 20) = false := by simpa using h20
    by_cases h23 : op = 23
    · subst h23; simp [hx, hl, hnl, show ¬ (k : Int) < 0 by omega, ref13_Next_j2]
    · have e23 : (op == 23) = false := by simpa using h23
      by_cases h24 : op = 24
      · subst h24; simp [hx, hl, hnl, show ¬ (k : Int) < 0 by omega, ref13_Next_j2]
      · have e24 : (op == 24) = false := by simpa using h24
        by_cases h21 : op = 21
        · subst h21
          by_cases hb : b < (k : Int) + 1
          · simp [hx, hl, hnl, show ¬ (k : Int) < 0 by omega, ref13_Next_j2, w, hb]
          · by_cases hb' : (k : Int) + 1 < b
            · simp [hx, hl, hnl, show ¬ (k : Int) < 0 by omega, ref13_Next_j2, w, hb, hb']
            · simp [hx, hl, hnl, show ¬ (k : Int) < 0 by omega, ref13_Next_j2, w, hb, hb']
        · have e21 : (op == 21) = false := by simpa using h21
          simp [hx, hl, hnl, show ¬ (k : Int) < 0 by omega, ref13_Next_j2, w, e20, e23, e24, e21, h20, h23, h24, h21]

def usesN (x : TInstr) : List Int := if x.Op = 15 ∨ x.Op = 17 then [x.B] else []
/-- code whose steps stay inside, and whose slots are there -/
structure FlowOk (f : TFunc) : Prop where
  len : 1 ≤ f.Code.length
  len' : f.Code.length ≤ 10000
  slots : f.Slots.length ≤ 500
  next : ∀ (k : Nat) x, f.Code[k]? = some x → ∀ j ∈ nextN x k, 0 ≤ j ∧ j < f.Code.length
  uses : ∀ x ∈ f.Code, ∀ v ∈ usesN x, 0 ≤ v ∧ v < f.Slots.length

theorem FuncOk.flow {ps : List Int} {i most : Int} {f : TFunc} (h : FuncOk ps i most f) (hm : most ≤ 1000) : FlowOk f := by
  have hl := h.len
  have hl' := h.len'
  have hs := h.slots
  refine ⟨hl, by omega, by omega, fun k x hx j hj => ?_, fun x hx v hv => ?_⟩
  · have hkl := (List.getElem?_eq_some_iff.1 hx).1
    by_cases hk : k + 1 < f.Code.length
    · have hins := h.body k x hx hk
      cases hins with
      | jump t h1 => simp [nextN] at hj; subst hj; exact h1
      | branch a t h0 h1 =>
        simp [nextN] at hj
        have : j = t ∨ j = (k : Int) + 1 := by
          split at hj
          · simpa using hj
          · split at hj
            · simp at hj; omega
            · simp at hj; omega
        rcases this with rfl | rfl <;> omega
      | bin op a b c h1 h2 h3 h4 h5 h6 =>
        simp [nextN, show op ≠ 20 by omega, show op ≠ 23 by omega, show op ≠ 24 by omega, show op ≠ 21 by omega] at hj
        subst hj; omega
      | un op a h1 h2 =>
        simp [nextN, show op ≠ 20 by omega, show op ≠ 23 by omega, show op ≠ 24 by omega, show op ≠ 21 by omega] at hj
        subst hj; omega
      | _ => simp [nextN] at hj; subst hj; omega
    · have he := h.last x (by rw [show f.Code.length - 1 = k by omega]; exact hx)
      rcases he with rfl | ⟨w, _, rfl⟩ <;> simp [nextN] at hj
  · obtain ⟨k, hk⟩ := List.getElem?_of_mem hx
    have hkl := (List.getElem?_eq_some_iff.1 hk).1
    by_cases hk1 : k + 1 < f.Code.length
    · have hins := h.body k x hk hk1
      cases hins with
      | load a b h0 h1 h2 => simp [usesN] at hv; subst hv; exact ⟨h1, h2⟩
      | move a b h0 h1 h2 => simp [usesN] at hv; subst hv; exact ⟨h1, h2⟩
      | bin op a b c h1 h2 h3 h4 h5 h6 => simp [usesN, show op ≠ 15 by omega, show op ≠ 17 by omega] at hv
      | un op a h1 h2 => simp [usesN, show op ≠ 15 by omega, show op ≠ 17 by omega] at hv
      | _ => simp [usesN] at hv
    · have he := h.last x (by rw [show f.Code.length - 1 = k by omega]; exact hk)
      rcases he with rfl | ⟨w, _, rfl⟩ <;> simp [usesN] at hv
end Go.Proofs.Ytlphpepmbcbmiaa
