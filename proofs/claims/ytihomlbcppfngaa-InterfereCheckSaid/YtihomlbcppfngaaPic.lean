/-
  InterfereCheck: its typed program answers true.
-/
import Derived.Test.YtihomlbcppfngaaPdr
namespace Go.Proofs.Ytihomlbcppfngaa
open Go Go.Dw Go.Proofs

attribute [local simp] chk_pos Bool.cond_eq_ite

def rowAt (g : List (List Int)) (y : Int) : List Int := (g[y.toNat]?).getD []
/-- a row of a graph of n slots, without its symmetry -/
def RowOk (n : Int) (x : Nat) (s : List Int) : Prop := IsSet s ∧ (∀ y ∈ s, y < n) ∧ (x : Int) ∉ s
def IsGraph (g : List (List Int)) (n : Int) : Prop := (g.length : Int) = n ∧ (∀ (x : Nat) s, g[x]? = some s → RowOk n x s) ∧ ∀ (x : Nat) s, g[x]? = some s → ∀ y ∈ s, (x : Int) ∈ rowAt g y

section
variable {g : List (List Int)} {n : Int}

theorem b3_eq (hn : (g.length : Int) = n) (hg : g.length ≤ 1000) (hr : ∀ (x : Nat) s, g[x]? = some s → RowOk n x s) {x : Nat} {row : List Int} (hx : g[x]? = some row) :
    ∃ r, LoopT (fun s => interfere_Check_b3 row g (x : Int) s) 0 = some r ∧ ((∀ y ∈ row, (x : Int) ∈ rowAt g y) ∧ r = .inl ((x + 1 : Nat) : Int) ∨ (¬ ∀ y ∈ row, (x : Int) ∈ rowAt g y) ∧ r = .inr false) := by
  have hrow := hr x row hx
  have hxl := (List.getElem?_eq_some_iff.1 hx).1
  have hlen := hrow.1.length_le
  have wx := wrap_succ (show x < 9223372036854775807 by omega)
  open Classical in
  have := loop_list (body := fun s => interfere_Check_b3 row g (x : Int) s) row (fun (_ : Unit) i => i) (fun _ _ => True) (fun _ l => some (if ∀ y ∈ l, (x : Int) ∈ rowAt g y then (.inl ((x + 1 : Nat) : Int) : Int ⊕ Bool) else .inr false))
    (fun _ _ => ⟨.inl ((x + 1 : Nat) : Int), by simp [interfere_Check_b3, wx], by simp⟩) (fun _ i y r _ hd hi hy => by
      have hym : y ∈ row := List.mem_of_getElem? hy
      have h0 := hrow.1.2 y hym
      have h1 := hrow.2.1 y hym
      have hyl : y.toNat < g.length := by omega
      have hgy : g[y.toNat]? = some g[y.toNat] := List.getElem?_eq_getElem hyl
      have hs := hr _ _ hgy
      obtain ⟨q, hq⟩ := search_eq g[y.toNat] (x : Int) hs.1.1 (by have := hs.1.length_le; omega)
      have w := wrap_succ (show i < 9223372036854775807 by omega)
      have hra : rowAt g y = g[y.toNat] := by simp [rowAt, hgy]
      by_cases hin : (x : Int) ∈ g[y.toNat]
      · refine .inl ⟨(), trivial, ?_, ?_⟩
        · obtain ⟨_, rfl⟩ := List.getElem?_eq_some_iff.1 hy
          simp [interfere_Check_b3, hi, ixO_pos _ h0.1, hgy, hq, hin, w]
        · simp [hra, hin]
      · refine .inr ⟨.inr false, ?_, ?_⟩
        · obtain ⟨_, rfl⟩ := List.getElem?_eq_some_iff.1 hy
          simp [interfere_Check_b3, hi, ixO_pos _ h0.1, hgy, hq, hin]
        · simp [hra, hin]) () trivial
  refine ⟨_, this, ?_⟩
  by_cases h : ∀ y ∈ row, (x : Int) ∈ rowAt g y
  · exact .inl ⟨h, if_pos h⟩
  · exact .inr ⟨h, if_neg h⟩

theorem b2_eq (hn : (g.length : Int) = n) (hg : g.length ≤ 1000) (hr : ∀ (x : Nat) s, g[x]? = some s → RowOk n x s) : ∃ b, LoopT (fun s => interfere_Check_b2 g s) 0 = some b ∧ (b = true ↔ IsGraph g n) := by
  have key := LoopT_inv (body := fun s => interfere_Check_b2 g s) (s := 0) (fun s => ∃ x : Nat, s = (x : Int) ∧ x ≤ g.length ∧ ∀ (k : Nat) s, k < x → g[k]? = some s → ∀ y ∈ s, (k : Int) ∈ rowAt g y)
    (fun b => b = true ↔ IsGraph g n) (fun s => g.length - s.toNat) ⟨0, rfl, Nat.zero_le _, fun k s hk => absurd hk (Nat.not_lt_zero _)⟩ (fun s hI => by
      obtain ⟨x, rfl, hx, hall⟩ := hI
      by_cases hlt : x < g.length
      · have hgx : g[x]? = some g[x] := List.getElem?_eq_getElem hlt
        obtain ⟨r, h1, ⟨h2, rfl⟩ | ⟨h2, rfl⟩⟩ := b3_eq hn hg hr hgx
        · refine .inl ⟨((x + 1 : Nat) : Int), ?_, ⟨x + 1, rfl, hlt, fun k s hk hks => ?_⟩, by omega⟩
          · simp [interfere_Check_b2, hlt, h1]
          · by_cases hkx : k = x
            · subst hkx; rw [hgx] at hks; cases hks; exact h2
            · exact hall k s (by omega) hks
        · refine .inr ⟨false, by simp [interfere_Check_b2, hlt, h1], ?_⟩
          constructor
          · intro h; cases h
          · intro h; exact (h2 (h.2.2 x _ hgx)).elim
      · refine .inr ⟨true, by simp [interfere_Check_b2, hlt], ?_⟩
        constructor
        · intro _; exact ⟨hn, hr, fun k s hks => hall k s (by have := (List.getElem?_eq_some_iff.1 hks).1; omega) hks⟩
        · intro _; rfl)
  exact key

/-- the last element of a set is the greatest -/
theorem last_lt {s : List Int} (h : IsSet s) (hs : 0 < s.length) : (∀ y ∈ s, y < n) ↔ s[s.length - 1] < n := by
  constructor
  · intro h1; exact h1 _ (List.getElem_mem _)
  · intro h1 y hy
    obtain ⟨k, hk⟩ := List.getElem?_of_mem hy
    obtain ⟨hkl, rfl⟩ := List.getElem?_eq_some_iff.1 hk
    by_cases e : k = s.length - 1
    · subst e; exact h1
    · have := List.pairwise_iff_getElem.1 h.1 k (s.length - 1) hkl (by omega) (by omega)
      omega

theorem icheck_ok (hg : g.length ≤ 1000) (hq : ∀ s ∈ g, s.length ≤ 9223372036854775807) : ∃ b, interfere_Check g n = some b ∧ (b = true ↔ IsGraph g n) := by
  unfold interfere_Check
  by_cases hn : (g.length : Int) = n
  · simp only [hn, bne_self_eq_false, cond_false]
    refine LoopT_inv (body := fun s => interfere_Check_b1 g n s) (s := 0) (fun s => ∃ x : Nat, s = (x : Int) ∧ x ≤ g.length ∧ ∀ (k : Nat) s, k < x → g[k]? = some s → RowOk n k s)
      (fun b => b = true ↔ IsGraph g n) (fun s => g.length - s.toNat) ⟨0, rfl, Nat.zero_le _, fun k s hk => absurd hk (Nat.not_lt_zero _)⟩ (fun s hI => ?_)
    obtain ⟨x, rfl, hx, hall⟩ := hI
    by_cases hlt : x < g.length
    · have hgx : g[x]? = some g[x] := List.getElem?_eq_getElem hlt
      have hl := hq _ (List.getElem_mem hlt)
      have w := wrap_succ (show x < 9223372036854775807 by omega)
      have bad : ¬ RowOk n x g[x] → interfere_Check_b1 g n x = some (.inr false) → (∃ r, interfere_Check_b1 g n x = some (.inr r) ∧ (r = true ↔ IsGraph g n)) := fun h1 h2 => ⟨false, h2, fun h => (by cases h), fun h => (h1 (h.2.1 x _ hgx)).elim⟩
      have good : RowOk n x g[x] → interfere_Check_b1 g n x = some (.inl ((x + 1 : Nat) : Int)) → (∃ s', interfere_Check_b1 g n x = some (.inl s') ∧ (∃ x : Nat, s' = (x : Int) ∧ x ≤ g.length ∧ ∀ (k : Nat) s, k < x → g[k]? = some s → RowOk n k s) ∧ g.length - s'.toNat < g.length - ((x : Int)).toNat) :=
        fun h1 h2 => ⟨_, h2, ⟨x + 1, rfl, hlt, fun k s hk hks => by
          by_cases hkx : k = x
          · subst hkx; rw [hgx] at hks; cases hks; exact h1
          · exact hall k s (by omega) hks⟩, by omega⟩
      by_cases hset : IsSet g[x]
      · have hb : ascB none g[x] = true := (asc_iff _).2 hset
        by_cases h0 : 0 < g[x].length
        · have wl : IntKind.i64.wrap ((g[x].length : Int) - 1) = ((g[x].length - 1 : Nat) : Int) := by rw [wrap64 (by omega) (by omega)]; omega
          have hlast : g[x][g[x].length - 1]? = some (g[x][g[x].length - 1]'(by omega)) := List.getElem?_eq_getElem _
          by_cases hm : g[x][g[x].length - 1]'(by omega) < n
          · have hall' := (last_lt (n := n) hset h0).2 hm
            by_cases hc : (x : Int) ∈ g[x]
            · exact .inr (bad (fun h => h.2.2 hc) (by simp [interfere_Check_b1, hlt, bcheck_eq _ hl, hb, h0, wl, hlast, show ¬ n ≤ g[x][g[x].length - 1]'(by omega) by omega, contains_eq _ _ hl, hc]))
            · exact .inl (good ⟨hset, hall', hc⟩ (by simp [interfere_Check_b1, hlt, bcheck_eq _ hl, hb, h0, wl, hlast, show ¬ n ≤ g[x][g[x].length - 1]'(by omega) by omega, contains_eq _ _ hl, hc, w]))
          · exact .inr (bad (fun h => hm (h.2.1 _ (List.getElem_mem _))) (by simp [interfere_Check_b1, hlt, bcheck_eq _ hl, hb, h0, wl, hlast, show n ≤ g[x][g[x].length - 1]'(by omega) by omega]))
        · have hnil : g[x] = [] := List.eq_nil_of_length_eq_zero (by omega)
          exact .inl (good (by rw [hnil]; exact ⟨IsSet.nil, fun y hy => (by cases hy), by simp⟩) (by simp [interfere_Check_b1, hlt, hnil, bcheck_eq [] (by simp), ascB, contains_eq [] _ (by simp), w]))
      · have hb : ascB none g[x] = false := by
          cases h : ascB none g[x]
          · rfl
          · exact (hset ((asc_iff _).1 h)).elim
        exact .inr (bad (fun h => hset h.1) (by simp [interfere_Check_b1, hlt, bcheck_eq _ hl, hb]))
    · right
      obtain ⟨b, h1, h2⟩ := b2_eq hn hg (fun k s hks => hall k s (by have := (List.getElem?_eq_some_iff.1 hks).1; omega) hks)
      exact ⟨b, by simp [interfere_Check_b1, hlt, h1], h2⟩
  · refine ⟨false, by simp [hn], ?_⟩
    constructor
    · intro h; cases h
    · intro h; exact (hn h.1).elim

theorem j3_eq (hn : (g.length : Int) = n) (hg : g.length ≤ 1000) (hq : ∀ s ∈ g, s.length ≤ 9223372036854775807) {x : Nat} {row : List Int} (hx : g[x]? = some row) (hset : IsSet row) (a b : List Int) (d : Bool) :
    ∃ r, ref18_Check_j3 g (x : Int) n a b d = some r ∧ ((∀ y ∈ row, y < n ∧ (x : Int) ∈ rowAt g y) ∧ r = .inl ((x + 1 : Nat) : Int) ∨ (¬ ∀ y ∈ row, y < n ∧ (x : Int) ∈ rowAt g y) ∧ r = .inr false) := by
  have hxl := (List.getElem?_eq_some_iff.1 hx).1
  have hlen := hset.length_le
  have wx := wrap_succ (show x < 9223372036854775807 by omega)
  unfold ref18_Check_j3
  open Classical in
  have := loop_list (body := fun s => ref18_Check_b4 g (x : Int) n a b d s) row (fun (_ : Unit) i => i) (fun _ _ => True) (fun _ l => some (if ∀ y ∈ l, y < n ∧ (x : Int) ∈ rowAt g y then (.inl ((x + 1 : Nat) : Int) : Int ⊕ Bool) else .inr false))
    (fun _ _ => ⟨.inl ((x + 1 : Nat) : Int), by simp [ref18_Check_b4, ref18_Check_j2, hx, wx], by simp⟩) (fun _ i y r _ hd hi hy => by
      have hym : y ∈ row := List.mem_of_getElem? hy
      have h0 := hset.2 y hym
      have w := wrap_succ (show i < 9223372036854775807 by omega)
      by_cases hyn : y < n
      · have hyl : y.toNat < g.length := by omega
        have hgy : g[y.toNat]? = some g[y.toNat] := List.getElem?_eq_getElem hyl
        have hs := hq _ (List.getElem_mem hyl)
        have hra : rowAt g y = g[y.toNat] := by simp [rowAt, hgy]
        by_cases hin : (x : Int) ∈ g[y.toNat]
        · refine .inl ⟨(), trivial, ?_, ?_⟩
          · obtain ⟨_, rfl⟩ := List.getElem?_eq_some_iff.1 hy
            simp [ref18_Check_b4, hx, hi, show ¬ n ≤ row[i] by omega, ixO_pos _ h0.1, hgy, has_eq _ _ hs, hin, w]
          · simp [hra, hin, hyn]
        · refine .inr ⟨.inr false, ?_, ?_⟩
          · obtain ⟨_, rfl⟩ := List.getElem?_eq_some_iff.1 hy
            simp [ref18_Check_b4, hx, hi, show ¬ n ≤ row[i] by omega, ixO_pos _ h0.1, hgy, has_eq _ _ hs, hin]
          · simp [hra, hin]
      · refine .inr ⟨.inr false, ?_, ?_⟩
        · obtain ⟨_, rfl⟩ := List.getElem?_eq_some_iff.1 hy
          simp [ref18_Check_b4, hx, hi, show n ≤ row[i] by omega]
        · simp [hyn]) () trivial
  refine ⟨_, this, ?_⟩
  by_cases h : ∀ y ∈ row, y < n ∧ (x : Int) ∈ rowAt g y
  · exact .inl ⟨h, if_pos h⟩
  · exact .inr ⟨h, if_neg h⟩

theorem rcheck_ok (hg : g.length ≤ 1000) (hq : ∀ s ∈ g, s.length ≤ 9223372036854775807) : ∃ b, ref18_Check g n = some b ∧ (b = true ↔ IsGraph g n) := by
  unfold ref18_Check
  by_cases hn : (g.length : Int) = n
  · simp only [hn, bne_self_eq_false, cond_false]
    refine LoopT_inv (body := fun s => ref18_Check_b1 n g s) (s := 0) (fun s => ∃ x : Nat, s = (x : Int) ∧ x ≤ g.length ∧ ∀ (k : Nat) s, k < x → g[k]? = some s → RowOk n k s ∧ ∀ y ∈ s, (k : Int) ∈ rowAt g y)
      (fun b => b = true ↔ IsGraph g n) (fun s => g.length - s.toNat) ⟨0, rfl, Nat.zero_le _, fun k s hk => absurd hk (Nat.not_lt_zero _)⟩ (fun s hI => ?_)
    obtain ⟨x, rfl, hx, hall⟩ := hI
    by_cases hlt : x < g.length
    · have hgx : g[x]? = some g[x] := List.getElem?_eq_getElem hlt
      have hxn : (x : Int) < n := by omega
      have hl := hq _ (List.getElem_mem hlt)
      have bad : ¬ (RowOk n x g[x] ∧ ∀ y ∈ g[x], (x : Int) ∈ rowAt g y) → ref18_Check_b1 n g x = some (.inr false) → (∃ r, ref18_Check_b1 n g x = some (.inr r) ∧ (r = true ↔ IsGraph g n)) := fun h1 h2 => ⟨false, h2, fun h => (by cases h), fun h => (h1 ⟨h.2.1 x _ hgx, h.2.2 x _ hgx⟩).elim⟩
      by_cases hset : IsSet g[x]
      · have hb : ascB none g[x] = true := (asc_iff _).2 hset
        by_cases hc : (x : Int) ∈ g[x]
        · exact .inr (bad (fun h => h.1.2.2 hc) (by simp [ref18_Check_b1, hxn, hlt, check_eq _ hl, hb, has_eq _ _ hl, hc]))
        · obtain ⟨r, h1, ⟨h2, rfl⟩ | ⟨h2, rfl⟩⟩ := j3_eq hn hg hq hgx hset g[x] g[x] false
          · refine .inl ⟨((x + 1 : Nat) : Int), by simp [ref18_Check_b1, hxn, hlt, check_eq _ hl, hb, has_eq _ _ hl, hc, h1], ⟨x + 1, rfl, hlt, fun k s hk hks => ?_⟩, by omega⟩
            by_cases hkx : k = x
            · subst hkx; rw [hgx] at hks; cases hks; exact ⟨⟨hset, fun y hy => (h2 y hy).1, hc⟩, fun y hy => (h2 y hy).2⟩
            · exact hall k s (by omega) hks
          · exact .inr (bad (fun h => h2 fun y hy => ⟨h.1.2.1 y hy, h.2 y hy⟩) (by simp [ref18_Check_b1, hxn, hlt, check_eq _ hl, hb, has_eq _ _ hl, hc, h1]))
      · have hb : ascB none g[x] = false := by
          cases h : ascB none g[x]
          · rfl
          · exact (hset ((asc_iff _).1 h)).elim
        exact .inr (bad (fun h => hset h.1.1) (by simp [ref18_Check_b1, hxn, hlt, check_eq _ hl, hb]))
    · right
      have hxn : ¬ (x : Int) < n := by omega
      refine ⟨true, by simp [ref18_Check_b1, hxn], fun _ => ?_, fun _ => rfl⟩
      exact ⟨hn, fun k s hks => (hall k s (by have := (List.getElem?_eq_some_iff.1 hks).1; omega) hks).1, fun k s hks => (hall k s (by have := (List.getElem?_eq_some_iff.1 hks).1; omega) hks).2⟩
  · refine ⟨false, by simp [hn], fun h => (by cases h), fun h => (hn h.1).elim⟩

theorem checks_same (hg : g.length ≤ 1000) (hq : ∀ s ∈ g, s.length ≤ 9223372036854775807) : ∃ b, interfere_Check g n = some b ∧ ref18_Check g n = some b ∧ (b = true ↔ IsGraph g n) := by
  obtain ⟨b, h1, h2⟩ := icheck_ok (n := n) hg hq
  obtain ⟨b', h3, h4⟩ := rcheck_ok (n := n) hg hq
  have : b = b' := by
    cases b <;> cases b' <;> simp_all
  subst this
  exact ⟨b, h1, h3, h2⟩

theorem degree_same (hg : g.length ≤ 1000) (hq : ∀ s ∈ g, s.length ≤ 9223372036854775807) : ∃ d, interfere_Degree g = some d ∧ ref18_Degree g = some d := by
  have e : ref18_Degree g = interfere_Degree g := rfl
  rw [e]
  obtain ⟨d, hd, _⟩ := LoopT_inv (body := fun s : Int × Int => interfere_Degree_b1 g s.1 s.2) (s := (0, 0)) (fun s => ∃ x : Nat, s.2 = (x : Int) ∧ x ≤ g.length) (fun _ => True) (fun s => g.length - s.2.toNat) ⟨0, rfl, Nat.zero_le _⟩ (fun s hI => by
    obtain ⟨m, k⟩ := s
    obtain ⟨x, hx, hxl⟩ := hI
    simp only at hx
    subst hx
    by_cases hlt : x < g.length
    · have w := wrap_succ (show x < 9223372036854775807 by omega)
      exact .inl ⟨_, by simp [interfere_Degree_b1, hlt]; rfl, ⟨x + 1, w, hlt⟩, by simp only [w]; omega⟩
    · exact .inr ⟨m, by simp [interfere_Degree_b1, hlt], trivial⟩)
  exact ⟨d, hd, hd⟩
end

/-! ### The symmetric graph -/
/-- symmetric, without loops, its rows sets of numbers below its length -/
def Sym (y : List (List Int)) : Prop := RowsIn y.length y ∧ ∀ (a b : Nat) s t, y[a]? = some s → y[b]? = some t → ((b : Int) ∈ s ↔ (a : Int) ∈ t) ∧ (a : Int) ∉ s
theorem Sym.isGraph {y : List (List Int)} (h : Sym y) : IsGraph y y.length := by
  refine ⟨rfl, fun x s hx => ?_, fun x s hx z hz => ?_⟩
  · have h1 := h.1 s (List.mem_of_getElem? hx)
    exact ⟨h1.1, h1.2, (h.2 x x s s hx hx).2⟩
  · have h1 := h.1 s (List.mem_of_getElem? hx)
    have h2 := h1.1.2 z hz
    have h3 := h1.2 z hz
    have hzl : z.toNat < y.length := by omega
    have hgz : y[z.toNat]? = some y[z.toNat] := List.getElem?_eq_getElem hzl
    have e : ((z.toNat : Nat) : Int) = z := by omega
    have := ((h.2 x z.toNat s _ hx hgz).1).1 (by rw [e]; exact hz)
    simpa [rowAt, hgz] using this
theorem Sym.start (n : Nat) : Sym (List.replicate n []) := by
  refine ⟨fun s hs => ?_, fun a b s t ha hb => ?_⟩
  · rw [List.mem_replicate] at hs; rw [hs.2]; exact SetIn.nil _
  · have h1 := List.mem_of_getElem? ha
    have h2 := List.mem_of_getElem? hb
    rw [List.mem_replicate] at h1 h2
    simp [h1.2, h2.2]
theorem Sym.join {y : List (List Int)} (h : Sym y) (hl : y.length ≤ 500) {i j : Nat} (hi : i < y.length) (hj : j < y.length) (hij : i ≠ j) :
    Sym ((y.set i (addN j y[i])).set j (addN i y[j])) := by
  have hsi := h.1 _ (List.getElem_mem hi)
  have hsj := h.1 _ (List.getElem_mem hj)
  obtain ⟨a1, _⟩ := hsi.add (m := j) ⟨by omega, by omega⟩ (by omega)
  obtain ⟨a2, _⟩ := hsj.add (m := i) ⟨by omega, by omega⟩ (by omega)
  have hm1 : ∀ m : Int, m ∈ addN j y[i] ↔ m = j ∨ m ∈ y[i] := fun m => by unfold addN; rw [if_pos (by omega)]; exact mem_insN _ _ _
  have hm2 : ∀ m : Int, m ∈ addN i y[j] ↔ m = i ∨ m ∈ y[j] := fun m => by unfold addN; rw [if_pos (by omega)]; exact mem_insN _ _ _
  refine ⟨?_, ?_⟩
  · have hlen : ((y.set i (addN j y[i])).set j (addN i y[j])).length = y.length := by simp
    rw [hlen]
    exact (h.1.set a1).set a2
  · intro a b s t ha hb
    have look : ∀ (q : Nat) r, ((y.set i (addN j y[i])).set j (addN i y[j]))[q]? = some r → ∃ r0, y[q]? = some r0 ∧ ∀ m : Int, m ∈ r ↔ (q = i ∧ m = j) ∨ (q = j ∧ m = i) ∨ m ∈ r0 := by
      intro q r hr
      by_cases e1 : q = j
      · subst e1
        rw [List.getElem?_set_self (by simpa using hj)] at hr
        obtain rfl := Option.some.inj hr
        refine ⟨y[q], List.getElem?_eq_getElem hj, fun m => ?_⟩
        rw [hm2]
        constructor
        · rintro (h | h)
          · exact .inr (.inl ⟨rfl, h⟩)
          · exact .inr (.inr h)
        · rintro (h | h | h)
          · exact (hij h.1.symm).elim
          · exact .inl h.2
          · exact .inr h
      · rw [List.getElem?_set_ne (Ne.symm e1)] at hr
        by_cases e2 : q = i
        · subst e2
          rw [List.getElem?_set_self hi] at hr
          obtain rfl := Option.some.inj hr
          refine ⟨y[q], List.getElem?_eq_getElem hi, fun m => ?_⟩
          rw [hm1]
          constructor
          · rintro (h | h)
            · exact .inl ⟨rfl, h⟩
            · exact .inr (.inr h)
          · rintro (h | h | h)
            · exact .inl h.2
            · exact (e1 h.1).elim
            · exact .inr h
        · rw [List.getElem?_set_ne (Ne.symm e2)] at hr
          refine ⟨r, hr, fun m => ?_⟩
          constructor
          · intro h; exact .inr (.inr h)
          · rintro (h | h | h)
            · exact (e2 h.1).elim
            · exact (e1 h.1).elim
            · exact h
    obtain ⟨s0, hs0, hms⟩ := look a s ha
    obtain ⟨t0, ht0, hmt⟩ := look b t hb
    obtain ⟨k1, k2⟩ := h.2 a b s0 t0 hs0 ht0
    rw [hms, hmt, hms, k1]
    constructor
    · constructor
      · rintro (⟨h1, h2⟩ | ⟨h1, h2⟩ | h1)
        · exact .inr (.inl ⟨by omega, by omega⟩)
        · exact .inl ⟨by omega, by omega⟩
        · exact .inr (.inr h1)
      · rintro (⟨h1, h2⟩ | ⟨h1, h2⟩ | h1)
        · exact .inr (.inl ⟨by omega, by omega⟩)
        · exact .inl ⟨by omega, by omega⟩
        · exact .inr (.inr h1)
    · rintro (⟨h1, h2⟩ | ⟨h1, h2⟩ | h1)
      · omega
      · omega
      · exact k2 h1

theorem imAwake : law18_awake = some true := by
  have w1 : IntKind.i64.wrap 1 = 1 := wrap64 (by omega) (by omega)
  have w2 : IntKind.i64.wrap 2 = 2 := wrap64 (by omega) (by omega)
  have c0 : slices_Contains_2_int_2_int [] ⟨0, 1⟩ = some false := by
    unfold slices_Contains_2_int_2_int slices_Index_2_int_2_int
    rw [LoopT_eq]
    simp [slices_Index_2_int_2_int_b1]
  unfold law18_awake interfere_Moves
  rw [LoopT_eq]
  simp [interfere_Moves_b1, c0, w1]
  rw [LoopT_eq]
  simp [interfere_Moves_b1, ixO, w2]
  rw [LoopT_eq]
  simp [interfere_Moves_b1]

theorem RowsIn.short {n : Int} {g : List (List Int)} (h : RowsIn n g) : ∀ s ∈ g, s.length ≤ 9223372036854775807 := fun s hs => by
  have := (h s hs).1.length_le; omega

/-- the loop over one row: both ends are joined -/
theorem b4_ok (p : (List (List Int)) × Tdraw_Codes) (hx : RowsIn p.1.length p.1) (hl : p.1.length ≤ 100) {i : Nat} (hi : i < p.1.length) (y : List (List Int)) (hy : Sym y) (hyl : y.length = p.1.length) :
    ∃ y', LoopT (fun s : List (List Int) × Int => law18_InterfereCheck_b4 (i : Int) p s.1 s.2) (y, 0) = some (.inl (y', ((i + 1 : Nat) : Int))) ∧ Sym y' ∧ y'.length = p.1.length := by
  have hgi : p.1[i]? = some p.1[i] := List.getElem?_eq_getElem hi
  have hrow := hx _ (List.getElem_mem hi)
  generalize hrr : p.1[i] = row at hgi hrow
  have hlen := hrow.1.length_le
  have wi := wrap_succ (show i < 9223372036854775807 by omega)
  have key := LoopT_inv (body := fun s : List (List Int) × Int => law18_InterfereCheck_b4 (i : Int) p s.1 s.2) (s := (y, 0))
    (fun s => ∃ k : Nat, s.2 = (k : Int) ∧ k ≤ row.length ∧ Sym s.1 ∧ s.1.length = p.1.length)
    (fun r => ∃ y', r = .inl (y', ((i + 1 : Nat) : Int)) ∧ Sym y' ∧ y'.length = p.1.length) (fun s => row.length - s.2.toNat)
    ⟨0, rfl, Nat.zero_le _, hy, hyl⟩ (fun s hI => by
      obtain ⟨y, k⟩ := s
      obtain ⟨k, hk, hkl, hy, hyl⟩ := hI
      simp only at hk hy hyl
      subst hk
      by_cases hlt : k < row.length
      · left
        have wk := wrap_succ (show k < 9223372036854775807 by omega)
        have hzm : row[k] ∈ row := List.getElem_mem hlt
        have hz0 := hrow.1.2 _ hzm
        have hz1 := hrow.2 _ hzm
        by_cases he : row[k] = (i : Int)
        · refine ⟨(y, ((k + 1 : Nat) : Int)), ?_, ⟨k + 1, rfl, hlt, hy, hyl⟩, by simp only; omega⟩
          simp [law18_InterfereCheck_b4, hi, hrr, hlt, he, wk]
        · obtain ⟨z, hz⟩ : ∃ z : Nat, row[k] = (z : Int) := ⟨row[k].toNat, by omega⟩
          rw [hz] at he hz1
          have hzl : z < y.length := by omega
          have hil : i < y.length := by omega
          have hiz : i ≠ z := by omega
          have hyi : y[i]? = some y[i] := List.getElem?_eq_getElem hil
          have hyz : y[z]? = some y[z] := List.getElem?_eq_getElem hzl
          have hzi : ¬ i = z := hiz
          obtain ⟨_, a1⟩ := (hy.1 _ (List.getElem_mem hil)).add (m := z) ⟨by omega, by omega⟩ (by omega)
          obtain ⟨_, a2⟩ := (hy.1 _ (List.getElem_mem hzl)).add (m := i) ⟨by omega, by omega⟩ (by omega)
          have hyz' : (y.set i (addN z y[i]))[z]? = some y[z] := by rw [List.getElem?_set_ne hiz]; exact hyz
          refine ⟨((y.set i (addN z y[i])).set z (addN i y[z]), ((k + 1 : Nat) : Int)), ?_, ⟨k + 1, rfl, hlt, hy.join (by omega) hil hzl hiz, by simp [hyl]⟩, by simp only; omega⟩
          have hpl : i < p.1.length := hi
          have he' : ((z : Int) == (i : Int)) = false := by simpa using he
          simp only [law18_InterfereCheck_b4]
          simp [hpl, hrr, hlt, hz, he, he', hil, hyi, a1, hzl, hyz, a2, wk, List.getElem?_set_ne hiz]
      · right
        exact ⟨.inl (y, ((i + 1 : Nat) : Int)), by simp [law18_InterfereCheck_b4, law18_InterfereCheck_j3, hi, hrr, hlt, wi], y, rfl, hy, hyl⟩)
  obtain ⟨r, h1, y', rfl, h2, h3⟩ := key
  exact ⟨y', h1, h2, h3⟩

theorem law18_InterfereCheck_true (g : List (List Int)) (n : Int) (codes : List Int) (hg : qL (qL (qInt .i64)) g) (_hn : qInt .i64 n) (hc : qL (qInt .u8) codes) : law18_InterfereCheck g n codes = some true := by
  unfold law18_InterfereCheck
  rw [imAwake]
  by_cases h100 : g.length ≤ 100
  · have hq : ∀ s ∈ g, s.length ≤ 9223372036854775807 := fun s hs => by
      have := (hg.2 s hs).1
      unfold maxLen at this
      omega
    obtain ⟨c, e1, hcok⟩ := new_ok codes 60 hc (by omega) (by omega)
    obtain ⟨x, c', e2, _, hx1, hx2, hxr⟩ := graph_ok c hcok 7 false (by omega) (by omega)
    simp [show ¬ (100 : Int) < g.length by omega]
    unfold law18_InterfereCheck_j1
    rw [e1, Option.bind_some, e2, Option.bind_some]
    simp only
    rw [chk_pos (by omega)]
    have key := LoopT_inv (body := fun s : List (List Int) × Int => law18_InterfereCheck_b2 (x, c') g n s.1 s.2) (s := (List.replicate (x.length : Int).toNat ([] : List Int), 0))
      (fun s => ∃ i : Nat, s.2 = (i : Int) ∧ i ≤ x.length ∧ Sym s.1 ∧ s.1.length = x.length) (fun r => r = true) (fun s => x.length - s.2.toNat)
      ⟨0, rfl, Nat.zero_le _, Sym.start _, by simp⟩ (fun s hI => by
        obtain ⟨y, i⟩ := s
        obtain ⟨i, hi, hil, hy, hyl⟩ := hI
        simp only at hi hy hyl
        subst hi
        by_cases hlt : i < x.length
        · left
          obtain ⟨y', h1, h2, h3⟩ := b4_ok (x, c') hxr (by simp only; omega) hlt y hy hyl
          exact ⟨(y', ((i + 1 : Nat) : Int)), by simp [law18_InterfereCheck_b2, hlt, h1], ⟨i + 1, rfl, hlt, h2, h3⟩, by simp only; omega⟩
        · right
          have hx100 : x.length ≤ 1000 := by omega
          obtain ⟨b1, p1, p2, _⟩ := checks_same (n := n) (show g.length ≤ 1000 by omega) hq
          obtain ⟨b2, p3, p4, _⟩ := checks_same (n := (g.length : Int)) (show g.length ≤ 1000 by omega) hq
          obtain ⟨b3, p5, p6, _⟩ := checks_same (n := (x.length : Int)) hx100 hxr.short
          obtain ⟨b4, p7, _, p8⟩ := checks_same (n := (y.length : Int)) (show y.length ≤ 1000 by omega) hy.1.short
          have p9 : b4 = true := p8.2 hy.isGraph
          subst p9
          obtain ⟨d1, p10, p11⟩ := degree_same (show y.length ≤ 1000 by omega) hy.1.short
          obtain ⟨d2, p12, p13⟩ := degree_same hx100 hxr.short
          exact ⟨true, by simp [law18_InterfereCheck_b2, hlt, p1, p2, p3, p4, p5, p6, p7, p10, p11, p12, p13], rfl⟩)
    obtain ⟨r, h1, rfl⟩ := key
    exact h1
  · simp [show (100 : Int) < g.length by omega]
end Go.Proofs.Ytihomlbcppfngaa
