/-
  The choices: what the drawing functions come to.
-/
import Derived.Test.YtihomlbcppfngaaP04
namespace Go.Proofs.Ytihomlbcppfngaa
open Go Go.Dw Go.Proofs

attribute [local simp] chk_pos Bool.cond_eq_ite

/-- choices as they are drawn -/
def okC (c : Tdraw_Codes) : Prop := 0 ≤ c.at_ ∧ c.at_ ≤ c.list.length ∧ c.list.length ≤ 1000 ∧ ∀ v ∈ c.list, 0 ≤ v ∧ v ≤ 255

theorem new_ok (l : List Int) (n : Int) (hl : qL (qInt .u8) l) (h0 : 0 ≤ n) (h1 : n ≤ 1000) : ∃ c, draw_New l n = some c ∧ okC c := by
  unfold draw_New
  have e : minI (l.length : Int) n = min (l.length : Int) n := minI_eq _ _
  rw [e]
  refine ⟨_, by rw [chk_pos (by omega)], by simp, ?_, ?_, ?_⟩
  · simp
  · simp only [List.length_take]; omega
  · intro v hv
    have := hl.2 v (List.mem_of_mem_take hv)
    simpa [qInt, IntKind.min, IntKind.max, IntKind.signed, IntKind.bits] using this

theorem next_ok (c : Tdraw_Codes) (h : okC c) (n : Int) (h1 : n ≤ 1099511627776) : ∃ r c', draw_Codes_Next c n = some (r, c') ∧ okC c' ∧ 0 ≤ r ∧ (r < n ∨ r = 0) := by
  obtain ⟨ha, hb, hc, hd⟩ := h
  unfold draw_Codes_Next draw_Codes_Left
  by_cases hl : c.at_ < c.list.length
  · by_cases hn : n < 1
    · exact ⟨0, c, by simp [hl, hn], ⟨ha, hb, hc, hd⟩, by omega, .inr rfl⟩
    · have hx : c.list[c.at_.toNat]? = some (c.list[c.at_.toNat]'(by omega)) := List.getElem?_eq_getElem _
      have hv := hd _ (List.getElem_mem (show c.at_.toNat < c.list.length by omega))
      generalize hq : c.list[c.at_.toNat]'(by omega) = v at hx hv
      have e1 : IntKind.i64.wrap v = v := wrap64 (by omega) (by omega)
      have hm0 : 0 ≤ v * n := Int.mul_nonneg hv.1 (by omega)
      have hm1 : v * n ≤ 255 * n := Int.mul_le_mul_of_nonneg_right hv.2 (by omega)
      have e2 : IntKind.i64.wrap (v * n) = v * n := wrap64 (by omega) (by omega)
      have e3 : (v * n).tdiv 256 = v * n / 256 := Int.tdiv_eq_ediv_of_nonneg hm0
      have e4 : IntKind.i64.wrap (v * n / 256) = v * n / 256 := wrap64 (by omega) (by omega)
      have e5 : IntKind.i64.wrap (c.at_ + 1) = c.at_ + 1 := wrap64 (by omega) (by omega)
      refine ⟨v * n / 256, ⟨c.list, c.at_ + 1⟩, ?_, ⟨by simp only; omega, by simp only; omega, hc, hd⟩, by omega, .inl (by omega)⟩
      simp [hl, hn, draw_Codes_Next_j1, ixO_pos _ ha, hx, e1, e2, e3, e4, e5]
  · exact ⟨0, c, by simp [hl], ⟨ha, hb, hc, hd⟩, by omega, .inr rfl⟩

/-- a set of numbers below n -/
def SetIn (n : Int) (s : List Int) : Prop := IsSet s ∧ ∀ x ∈ s, x < n
theorem SetIn.nil (n : Int) : SetIn n [] := ⟨IsSet.nil, fun x hx => by cases hx⟩
theorem SetIn.add {n m : Int} {s : List Int} (h : SetIn n s) (hm : 0 ≤ m ∧ m < n) (hn : n ≤ 512) : SetIn n (addN m s) ∧ ref04_Add s m = some (addN m s) := by
  have hl := h.1.length_le
  refine ⟨?_, add_eq s m (by omega)⟩
  unfold addN
  rw [if_pos (by omega)]
  refine ⟨h.1.insN (by omega), fun x hx => ?_⟩
  rw [mem_insN] at hx
  rcases hx with rfl | hx
  · exact hm.2
  · exact h.2 x hx

def RowsIn (n : Int) (g : List (List Int)) : Prop := ∀ s ∈ g, SetIn n s
theorem RowsIn.set {n : Int} {g : List (List Int)} (h : RowsIn n g) {i : Nat} {s : List Int} (hs : SetIn n s) : RowsIn n (g.set i s) := by
  intro x hx
  rcases List.mem_or_eq_of_mem_set hx with h1 | rfl
  · exact h x h1
  · exact hs

theorem graph_ok (c : Tdraw_Codes) (h : okC c) (m : Int) (free : Bool) (hm : 1 ≤ m) (hm' : m ≤ 500) :
    ∃ g c', draw_Codes_Graph c m free = some (g, c') ∧ okC c' ∧ 1 ≤ g.length ∧ (g.length : Int) ≤ m ∧ RowsIn g.length g := by
  unfold draw_Codes_Graph
  obtain ⟨r, c1, e1, h1, r0, r1⟩ := next_ok c h m (by omega)
  have hr : r < m := by omega
  obtain ⟨N, hN⟩ : ∃ N : Nat, 1 + r = (N : Int) := ⟨(1 + r).toNat, by omega⟩
  have w : IntKind.i64.wrap (1 + r) = (N : Int) := by rw [wrap64 (by omega) (by omega)]; exact hN
  rw [e1, Option.bind_some]
  simp only [w]
  rw [chk_pos (by omega)]
  have hN1 : 1 ≤ N := by omega
  have hNm : (N : Int) ≤ m := by omega
  have key := LoopT_inv (body := fun s : List Int × Int × List (List Int) × Int => draw_Codes_Graph_b1 (r, c1) free s.1 s.2.1 s.2.2.1 s.2.2.2) (s := (c1.list, c1.at_, List.replicate ((N : Int)).toNat ([] : List Int), 0))
    (fun s => okC ⟨s.1, s.2.1⟩ ∧ s.2.2.1.length = N ∧ RowsIn N s.2.2.1 ∧ 0 ≤ s.2.2.2 ∧ s.2.2.2 ≤ N)
    (fun p => okC p.2 ∧ p.1.length = N ∧ RowsIn N p.1) (fun s => (N - s.2.2.2).toNat)
    ⟨h1, by simp, fun s hs => by rw [List.mem_replicate] at hs; rw [hs.2]; exact SetIn.nil _, by simp, by simp⟩ (fun s hI => by
      obtain ⟨l, a, g, i⟩ := s
      obtain ⟨hc, hg, hrow, hi0, hi1⟩ := hI
      simp only at hc hg hrow hi0 hi1
      have wi : i < N → IntKind.i64.wrap (i + 1) = i + 1 := fun _ => wrap64 (by omega) (by omega)
      by_cases hlt : i < N
      · left
        obtain ⟨k, c2, e2, h2, k0, k1⟩ := next_ok ⟨l, a⟩ hc 4 (by omega)
        have inner := LoopT_inv (body := fun s : List Int × Int × List (List Int) × Int => draw_Codes_Graph_b3 (r, c1) free i s.1 s.2.1 s.2.2.1 s.2.2.2) (s := (c2.list, c2.at_, g, k))
          (fun s => okC ⟨s.1, s.2.1⟩ ∧ s.2.2.1.length = N ∧ RowsIn N s.2.2.1 ∧ 0 ≤ s.2.2.2 ∧ s.2.2.2 ≤ 4)
          (fun p => ∃ l' a' g', p = .inl (l', a', g', i + 1) ∧ okC ⟨l', a'⟩ ∧ g'.length = N ∧ RowsIn N g') (fun s => s.2.2.2.toNat)
          ⟨h2, hg, hrow, k0, by simp only; omega⟩ (fun s hI => by
            obtain ⟨l, a, g, k⟩ := s
            obtain ⟨hc, hg, hrow, hk0, hk1⟩ := hI
            simp only at hc hg hrow hk0 hk1
            by_cases hk : 0 < k
            · left
              obtain ⟨j, c3, e3, h3, j0, j1⟩ := next_ok ⟨l, a⟩ hc (N : Int) (by omega)
              have wk : IntKind.i64.wrap (k - 1) = k - 1 := wrap64 (by omega) (by omega)
              have hgi : g[i.toNat]? = some (g[i.toNat]'(by omega)) := List.getElem?_eq_getElem _
              have hrow' := hrow _ (List.getElem_mem (show i.toNat < g.length by omega))
              -- the element that is added: below N
              have fin : ∀ (c4 : Tdraw_Codes) (j : Int), okC c4 → 0 ≤ j → j < N → ∃ g', draw_Codes_Graph_j6 i g j c4.list c4.at_ k true = some (.inl (c4.list, c4.at_, g', k - 1)) ∧ g'.length = N ∧ RowsIn N g' := by
                intro c4 j h4 hj0 hj1
                obtain ⟨a1, a2⟩ := hrow'.add ⟨hj0, hj1⟩ (by omega)
                refine ⟨g.set i.toNat (addN j (g[i.toNat]'(by omega))), ?_, by simp [hg], hrow.set a1⟩
                simp [draw_Codes_Graph_j6, hg, hi0, hlt, hgi, a2, wk]
              have skip : ∀ (c4 : Tdraw_Codes) (j : Int), draw_Codes_Graph_j6 i g j c4.list c4.at_ k false = some (.inl (c4.list, c4.at_, g, k - 1)) := by
                intro c4 j
                simp [draw_Codes_Graph_j6, wk]
              cases free with
              | false =>
                obtain ⟨g', f1, f2, f3⟩ := fin c3 j h3 j0 (by omega)
                refine ⟨(c3.list, c3.at_, g', k - 1), ?_, ⟨h3, f2, f3, by simp only; omega, by simp only; omega⟩, by simp only; omega⟩
                simp only [draw_Codes_Graph_b3, w, decide_eq_true hk, cond_true, e3, Option.bind_some, cond_false, draw_Codes_Graph_j5, draw_Codes_Graph_j4, Bool.not_false, gt_iff_lt]
                exact f1
              | true =>
                by_cases hin : i + 1 < N
                · have w2 : IntKind.i64.wrap ((N : Int) - i) = (N : Int) - i := wrap64 (by omega) (by omega)
                  have w3 : IntKind.i64.wrap ((N : Int) - i - 1) = (N : Int) - i - 1 := wrap64 (by omega) (by omega)
                  obtain ⟨q, c4, e4, h4, q0, q1⟩ := next_ok c3 h3 ((N : Int) - i - 1) (by omega)
                  have w4 : IntKind.i64.wrap (i + 1 + q) = i + 1 + q := wrap64 (by omega) (by omega)
                  obtain ⟨g', f1, f2, f3⟩ := fin c4 (i + 1 + q) h4 (by omega) (by omega)
                  refine ⟨(c4.list, c4.at_, g', k - 1), ?_, ⟨h4, f2, f3, by simp only; omega, by simp only; omega⟩, by simp only; omega⟩
                  simp only [draw_Codes_Graph_b3, w, decide_eq_true hk, cond_true, e3, Option.bind_some, draw_Codes_Graph_j5, draw_Codes_Graph_j4, Bool.not_true, cond_false, wi hlt, decide_eq_true hin, w2, w3, e4, w4, Option.bind_some, gt_iff_lt]
                  exact f1
                · refine ⟨(c3.list, c3.at_, g, k - 1), ?_, ⟨h3, hg, hrow, by simp only; omega, by simp only; omega⟩, by simp only; omega⟩
                  simp only [draw_Codes_Graph_b3, w, decide_eq_true hk, cond_true, e3, Option.bind_some, draw_Codes_Graph_j5, draw_Codes_Graph_j4, Bool.not_true, cond_false, wi hlt, decide_eq_false hin, gt_iff_lt]
                  exact skip c3 j
            · right
              exact ⟨.inl (l, a, g, i + 1), by simp [draw_Codes_Graph_b3, draw_Codes_Graph_j2, hk, wi hlt], l, a, g, rfl, hc, hg, hrow⟩)
        obtain ⟨p, hp, l', a', g', rfl, q1, q2, q3⟩ := inner
        refine ⟨(l', a', g', i + 1), ?_, ⟨q1, q2, q3, by simp only; omega, by simp only; omega⟩, by simp only; omega⟩
        simp only [draw_Codes_Graph_b1, w, decide_eq_true hlt, cond_true, e2, Option.bind_some]
        exact hp
      · right
        exact ⟨(g, ⟨l, a⟩), by simp [draw_Codes_Graph_b1, w, hlt], hc, hg, hrow⟩)
  obtain ⟨⟨g, c'⟩, hp, q1, q2, q3⟩ := key
  simp only at q1 q2 q3
  refine ⟨g, c', hp, q1, by omega, by omega, by rw [q2]; exact q3⟩
end Go.Proofs.Ytihomlbcppfngaa
