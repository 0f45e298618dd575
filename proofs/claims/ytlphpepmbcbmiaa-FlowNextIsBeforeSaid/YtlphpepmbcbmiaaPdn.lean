/-
  The choices: what drawing them comes to.
-/
import Derived.Test.YtlphpepmbcbmiaaDxP
import Derived.Test.YtlphpepmbcbmiaaPl
namespace Go.Proofs.Ytlphpepmbcbmiaa
open Go Go.Dw Go.Proofs

attribute [local simp] chk_pos Bool.cond_eq_ite

/-- choices as they are drawn -/
def okC (c : Tdraw_Codes) : Prop := 0 ≤ c.at_ ∧ c.at_ ≤ c.list.length ∧ c.list.length ≤ 1000 ∧ ∀ v ∈ c.list, 0 ≤ v ∧ v ≤ 255

theorem new_ok (l : List Int) (n : Int) (hl : qL (qInt .u8) l) (h0 : 0 ≤ n) (h1 : n ≤ 1000) : ∃ c, draw_New l n = some c ∧ okC c := by
  unfold draw_New
  have e : minI (l.length : Int) n = min (l.length : Int) n := minI_eq _ _
  rw [e]
  refine ⟨_, by rw [chk_pos (by omega)], by simp, ?_, ?_, ?_⟩
  · simp
  · simp only [List.length_take]; omega
  · intro v hv
    have := hl.2 v (List.mem_of_mem_take hv)
    simpa [qInt, IntKind.min, IntKind.max, IntKind.signed, IntKind.bits] using this

theorem next_ok (c : Tdraw_Codes) (h : okC c) (n : Int) (h1 : n ≤ 1099511627776) : ∃ r c', draw_Codes_Next c n = some (r, c') ∧ okC c' ∧ 0 ≤ r ∧ (r < n ∨ r = 0) := by
  obtain ⟨ha, hb, hc, hd⟩ := h
  unfold draw_Codes_Next draw_Codes_Left
  by_cases hl : c.at_ < c.list.length
  · by_cases hn : n < 1
    · exact ⟨0, c, by simp [hl, hn], ⟨ha, hb, hc, hd⟩, by omega, .inr rfl⟩
    · have hx : c.list[c.at_.toNat]? = some (c.list[c.at_.toNat]'(by omega)) := List.getElem?_eq_getElem _
      have hv := hd _ (List.getElem_mem (show c.at_.toNat < c.list.length by omega))
      generalize hq : c.list[c.at_.toNat]'(by omega) = v at hx hv
      have e1 : IntKind.i64.wrap v = v := wrap64 (by omega) (by omega)
      have hm0 : 0 ≤ v * n := Int.mul_nonneg hv.1 (by omega)
      have hm1 : v * n ≤ 255 * n := Int.mul_le_mul_of_nonneg_right hv.2 (by omega)
      have e2 : IntKind.i64.wrap (v * n) = v * n := wrap64 (by omega) (by omega)
      have e3 : (v * n).tdiv 256 = v * n / 256 := Int.tdiv_eq_ediv_of_nonneg hm0
      have e4 : IntKind.i64.wrap (v * n / 256) = v * n / 256 := wrap64 (by omega) (by omega)
      have e5 : IntKind.i64.wrap (c.at_ + 1) = c.at_ + 1 := wrap64 (by omega) (by omega)
      refine ⟨v * n / 256, ⟨c.list, c.at_ + 1⟩, ?_, ⟨by simp only; omega, by simp only; omega, hc, hd⟩, by omega, .inl (by omega)⟩
      simp [hl, hn, draw_Codes_Next_j1, ixO_pos _ ha, hx, e1, e2, e3, e4, e5]
  · exact ⟨0, c, by simp [hl], ⟨ha, hb, hc, hd⟩, by omega, .inr rfl⟩
end Go.Proofs.Ytlphpepmbcbmiaa
