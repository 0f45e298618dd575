/-
  FlowBlocks: its typed program answers true.
-/
import Derived.Test.YtlphpepmbcbmiaaPfb
namespace Go.Proofs.Ytlphpepmbcbmiaa
open Go Go.Dw Go.Proofs

theorem out_block {f : TFunc} {k : Int} (h : k < 0 ∨ (f.Code.length : Int) ≤ k) : flow_Block f k = some ⟨0, 0⟩ ∧ ref13_Block f k = some ⟨0, 0⟩ := by
  unfold flow_Block ref13_Block
  by_cases h0 : k < 0
  · simp [h0]
  · have : (f.Code.length : Int) ≤ k := h.resolve_left h0
    simp [h0, this]

theorem both_blocks {f : TFunc} (hf : FlowOk f) (k : Int) : ∃ b, flow_Block f k = some b ∧ ref13_Block f k = some b := by
  by_cases h : k < 0 ∨ (f.Code.length : Int) ≤ k
  · exact ⟨_, (out_block h).1, (out_block h).2⟩
  · obtain ⟨j, rfl⟩ : ∃ j : Nat, k = (j : Int) := ⟨k.toNat, by omega⟩
    obtain ⟨b, e1, p, q, h1⟩ := fblock_hs hf (k := j) (by omega)
    obtain ⟨b', e2, p', q', h2⟩ := rblock_hs hf (k := j) (by omega)
    exact ⟨b, e1, by rw [e2, (h1.uniq h2).2.2]⟩

theorem law13_FlowBlocks_true (codes : List Int) (k : Int) (hc : qL (qInt .u8) codes) (_hk : (qInt .i64) k) : law13_FlowBlocks codes k = some true := by
  obtain ⟨p, e1, _, ps, i, hf⟩ := function13_hs codes hc
  have hfl := hf.flow (by omega)
  have hlen' := hfl.len'
  have key : Hs (law13_FlowBlocks codes k) fun b => b = true := by
    unfold law13_FlowBlocks
    rw [awake13]
    simp only [Option.bind_some, Bool.not_true, cond_false, e1]
    refine Hs.loop (fun s => ∃ j : Nat, s = (j : Int) ∧ j ≤ p.1.Code.length) (fun s => p.1.Code.length - s.toNat) ⟨0, rfl, Nat.zero_le _⟩ ?_
    rintro s ⟨j, rfl, hj⟩
    unfold law13_FlowBlocks_b1
    refine .dec (fun hlt => ?_) fun hlt => .lft ?_
    · have hlt : j < p.1.Code.length := Int.ofNat_lt.1 hlt
      have wj := wrap_succ (show j < 9223372036854775807 by omega)
      obtain ⟨b, h1, h2⟩ := both_blocks hfl (j : Int)
      rw [h1, h2, Option.bind_some, Option.bind_some]
      simp only [beq_self_eq_true, Bool.and_self, Bool.not_true, cond_false]
      exact .cnt ⟨⟨j + 1, wj, by omega⟩, by simp only [wj]; omega⟩
    · refine (fleaders_hs hfl).bind fun l1 hl1 => (rleaders_hs hfl).bind fun l2 hl2 => ?_
      subst hl1; subst hl2
      have hll := ledN_length p.1 p.1.Code.length
      rw [same_eq _ _ (by omega), Option.bind_some]
      simp only [decide_true, cond_true]
      obtain ⟨b, h1, h2⟩ := both_blocks hfl k
      rw [h1, h2, Option.bind_some, Option.bind_some]
      exact .pure (by show (_ : Bool) = true; simp)
  obtain ⟨b, h1, h2⟩ := key
  rw [h1, h2]
end Go.Proofs.Ytlphpepmbcbmiaa
