/-
  THE LAYER Dw, PART 8: structs built, variables and slices made.
-/
import Derived.Test.YtlphpepmbcbmiaaDw7
namespace Go.Dw

section
variable {N : Nat} {w0 : World} {F0 : Fz} {M : Nat → Prop} {B0 : Bt} {σ : S} {F : Fz} {β : Bt} {a : Act} {w : World}

/-- 'Corr R cs C off': the data cs stand for the cells of C from off on -/
def Corr (R : D → Value → Prop) (cs : List D) (C : Array Value) (off : Nat) : Prop := ∀ (j : Nat) c, cs[j]? = some c → ∃ x, C[off + j]? = some x ∧ x.oneCell' = true ∧ R c x

theorem setCells_get (new : List Value) : ∀ (off k : Nat) (C : Array Value), ((new.zipIdx k).foldl (fun cs (c, j) => cs.setIfInBounds (off + j) c) C).size = C.size ∧
    ∀ q, ((new.zipIdx k).foldl (fun cs (c, j) => cs.setIfInBounds (off + j) c) C)[q]? = if off + k ≤ q ∧ q < off + k + new.length ∧ q < C.size then new[q - (off + k)]? else C[q]? := by
  induction new with
  | nil => intro off k C; refine ⟨rfl, fun q => ?_⟩; rw [if_neg (by simp; omega)]; rfl
  | cons x new ih =>
    intro off k C
    simp only [List.zipIdx_cons, List.foldl_cons]
    obtain ⟨h1, h2⟩ := ih off (k + 1) (C.setIfInBounds (off + k) x)
    refine ⟨by rw [h1]; simp, fun q => ?_⟩
    rw [h2 q]
    simp only [Array.size_setIfInBounds, List.length_cons]
    by_cases hq : q = off + k
    · subst hq
      rw [if_neg (by omega)]
      by_cases hb : off + k < C.size
      · rw [if_pos ⟨Nat.le_refl _, by omega, hb⟩]
        simp [hb]
      · rw [if_neg (by omega), Array.getElem?_eq_none (by simp; omega), Array.getElem?_eq_none (by omega)]
    · by_cases hc : off + (k + 1) ≤ q ∧ q < off + (k + 1) + new.length ∧ q < C.size
      · rw [if_pos hc, if_pos ⟨by omega, by omega, hc.2.2⟩]
        have : q - (off + k) = (q - (off + (k + 1))) + 1 := by omega
        rw [this, List.getElem?_cons_succ]
      · rw [if_neg hc, Array.getElem?_setIfInBounds_ne (by omega)]
        by_cases hc' : off + k ≤ q ∧ q < off + k + (new.length + 1) ∧ q < C.size
        · exact absurd ⟨by omega, by omega, hc'.2.2⟩ hc
        · rw [if_neg hc']

theorem setAt_get (new : List D) : ∀ (cs : List D) (off : Nat), (setAt cs off new).length = cs.length ∧
    ∀ q, (setAt cs off new)[q]? = if off ≤ q ∧ q < off + new.length ∧ q < cs.length then new[q - off]? else cs[q]? := by
  induction new with
  | nil => intro cs off; refine ⟨rfl, fun q => ?_⟩; rw [if_neg (by simp; omega)]; rfl
  | cons x new ih =>
    intro cs off
    simp only [setAt]
    obtain ⟨h1, h2⟩ := ih (cs.set off x) (off + 1)
    refine ⟨by rw [h1]; simp, fun q => ?_⟩
    rw [h2 q]
    simp only [List.length_set, List.length_cons]
    by_cases hq : q = off
    · subst hq
      rw [if_neg (by omega)]
      by_cases hb : q < cs.length
      · rw [if_pos ⟨Nat.le_refl _, by omega, hb⟩]
        simp [hb]
      · rw [if_neg (by omega), List.getElem?_eq_none (by simp; omega), List.getElem?_eq_none (by omega)]
    · by_cases hc : off + 1 ≤ q ∧ q < off + 1 + new.length ∧ q < cs.length
      · rw [if_pos hc, if_pos ⟨by omega, by omega, hc.2.2⟩]
        have : q - off = (q - (off + 1)) + 1 := by omega
        rw [this, List.getElem?_cons_succ]
      · rw [if_neg hc, List.getElem?_set_ne (by omega)]
        by_cases hc' : off ≤ q ∧ q < off + (new.length + 1) ∧ q < cs.length
        · exact absurd ⟨by omega, by omega, hc'.2.2⟩ hc
        · rw [if_neg hc']

/-- the parts of a struct -/
theorem fill_ok {places : Nat → Option (Nat × Nat)} : ∀ (parts : List (Nat × Value)) (ps : List (Nat × Nat × D)) (cs : List D) (C : Array Value),
    cs.length = C.size → Corr (Cel F β) cs C 0 → (∀ x ∈ C, x.oneCell' = true) → fillOk cs.length ps →
    parts.length = ps.length → (∀ (q : Nat) i x off s d, parts[q]? = some (i, x) → ps[q]? = some (off, s, d) → places i = some (off, s) ∧ Val F β d x) →
    ∃ C', Instr.fill places C parts = some C' ∧ C'.size = C.size ∧ (fillD cs ps).length = cs.length ∧ Corr (Cel F β) (fillD cs ps) C' 0 ∧ (∀ x ∈ C', x.oneCell' = true)
  | [], [], cs, C, hl, hc, h1, _, _, _ => ⟨C, rfl, rfl, rfl, hc, h1⟩
  | [], _ :: _, _, _, _, _, _, _, h, _ => by simp at h
  | _ :: _, [], _, _, _, _, _, _, h, _ => by simp at h
  | (i, x) :: parts, (off, s, d) :: ps, cs, C, hl, hc, h1, hok, hlen, hp => by
    obtain ⟨hk, hs, hle, hok'⟩ := hok
    obtain ⟨hpl, hv⟩ := hp 0 i x off s d rfl rfl
    obtain ⟨hsz, hone, hcell⟩ := val_cells hv hk
    obtain ⟨g1, g2⟩ := setCells_get x.cells.toList off 0 C
    obtain ⟨s1, s2⟩ := setAt_get (cells d) cs off
    have hxs : x.cells.size = s := by rw [hsz, hs]
    have e1 : x.cells.zipIdx.foldl (fun cs (c, j) => cs.setIfInBounds (off + j) c) C = (x.cells.toList.zipIdx 0).foldl (fun cs (c, j) => cs.setIfInBounds (off + j) c) C := by
      rw [← Array.foldl_toList, Array.toList_zipIdx]
    obtain ⟨C', f1, f2, f3, f4, f5⟩ := fill_ok parts ps (setAt cs off (cells d)) (x.cells.zipIdx.foldl (fun cs (c, j) => cs.setIfInBounds (off + j) c) C)
      (by rw [s1, hl, e1, g1]) (by
        intro j c hj
        rw [s2] at hj
        rw [e1, g2]
        simp only [Nat.add_zero, Nat.zero_add, Array.length_toList]
        by_cases hcond : off ≤ j ∧ j < off + (cells d).length ∧ j < cs.length
        · rw [if_pos hcond] at hj
          rw [if_pos ⟨hcond.1, by rw [hsz]; exact hcond.2.1, by rw [← hl]; exact hcond.2.2⟩]
          obtain ⟨v, hv1, hv2, hv3⟩ := hcell _ _ hj
          exact ⟨v, by simpa using hv1, hv2, hv3⟩
        · rw [if_neg hcond] at hj
          rw [if_neg (by rw [hsz, ← hl]; exact hcond)]
          have := hc j c hj
          simpa using this)
      (by
        intro y hy
        rw [Array.mem_iff_getElem?] at hy
        obtain ⟨q, hq⟩ := hy
        rw [e1, g2] at hq
        split at hq
        · exact hone y (by rw [Array.mem_iff_getElem?]; exact ⟨_, by simpa using hq⟩)
        · exact h1 y (by rw [Array.mem_iff_getElem?]; exact ⟨_, hq⟩))
      (by rw [s1]; exact hok') (by simpa using hlen) (fun q i x off s d h1 h2 => hp (q + 1) i x off s d (by simpa using h1) (by simpa using h2))
    refine ⟨C', ?_, by rw [f2, e1, g1], by simp only [fillD]; rw [f3, s1], by simpa only [fillD] using f4, f5⟩
    simp only [Instr.fill, hpl]
    rw [if_neg (by simp [hxs]; omega)]
    exact f1

theorem cells_valD (z : Value) (h : oneCells z = true) : (cells (valD z)).length = z.cells.size ∧ (∀ x ∈ z.cells, x.oneCell' = true) ∧ Corr (Fro F) (cells (valD z)) z.cells 0 := by
  have one : ∀ v : Value, v.oneCell' = true → v.cells = #[v] → valD v = valD1 v → (cells (valD v)).length = v.cells.size ∧ (∀ x ∈ v.cells, x.oneCell' = true) ∧ Corr (Fro F) (cells (valD v)) v.cells 0 := by
    intro v h1 h2 h3
    have h4 : cells (valD1 v) = [valD1 v] := by
      unfold valD1; split <;> rfl
    rw [h3, h4, h2]
    refine ⟨rfl, fun x hx => by simp at hx; subst hx; exact h1, fun j c hj => ?_⟩
    rcases j with _ | j
    · simp only [List.getElem?_cons_zero, Option.some.injEq] at hj
      subst hj
      exact ⟨v, rfl, h1, fro_valD1 v⟩
    · simp at hj
  cases z with
  | agg cs =>
    have h1 : ∀ v ∈ cs.toList, v.oneCell' = true := by simp only [oneCells, List.all_eq_true] at h; exact h
    refine ⟨by simp [valD, cells, Value.cells], fun x hx => h1 x (by simpa [Value.cells] using hx), fun j c hj => ?_⟩
    simp only [valD, cells, List.getElem?_map, Option.map_eq_some_iff] at hj
    obtain ⟨v, hv, rfl⟩ := hj
    refine ⟨v, by simpa [Value.cells] using hv, h1 v (List.mem_of_getElem? hv), fro_valD1 v⟩
  | tuple vs => simp [oneCells, Value.oneCell'] at h
  | _ => exact one _ (by simpa [oneCells] using h) rfl rfl

theorem zeroD_ok {P : Program} {t : TypeId} {d : D} (h : zeroD P t = some d) : ∃ i z, P.info? t = some i ∧ i.zero = some z ∧ oneCells z = true ∧ z.cells.size = P.cellsOf t ∧ d = valD z := by
  unfold zeroD at h
  cases hi : P.info? t with
  | none => simp [hi] at h
  | some i =>
    cases hz : i.zero with
    | none => simp [hi, hz] at h
    | some z =>
      simp only [hi, hz, Option.bind_eq_bind, Option.bind_some] at h
      split at h
      · rename_i hc
        simp only [Bool.and_eq_true, beq_iff_eq] at hc
        cases h
        exact ⟨i, z, rfl, hz, hc.1, hc.2, rfl⟩
      · cases h

/-- a new variable -/
theorem OwnOK.var_new {w1 : World} {d : D} {C : Array Value} {s ty : Nat} (hs : 0 < s) (hC : C.size = s) (hd : (cells d).length = s) (hc : Corr (Cel F β) (cells d) C 0) :
    OwnOK F β (w1.alloc (.cells C ty)) ⟨some w1.heap.size, 1, s⟩ ⟨false, true, s, ty, [d]⟩ := by
  refine ⟨rfl, hs, by simp, by simp, fun e he => by simp at he; subst he; exact hd, C, heap_alloc_new w1 _, by simp [hC], ?_⟩
  intro i j e c he hj
  rcases i with _ | i
  · simp only [List.getElem?_cons_zero, Option.some.injEq] at he
    subst he
    obtain ⟨x, h1, h2, h3⟩ := hc j c hj
    exact ⟨x, by simpa using h1, h2, by simpa using h3⟩
  · simp at he

/-- a new row -/
theorem OwnOK.row_new {w1 : World} {es : List D} {C : Array Value} {s ty cap : Nat} (hs : 0 < s) (hC : C.size = cap * s) (hl : es.length ≤ cap) (hm : cap ≤ maxLen) (hd : ∀ e ∈ es, (cells e).length = s)
    (hc : ∀ (i j : Nat) e c, es[i]? = some e → (cells e)[j]? = some c → ∃ x, C[i * s + j]? = some x ∧ x.oneCell' = true ∧ Fro F c x) :
    OwnOK F β (w1.alloc (.cells C ty)) ⟨some w1.heap.size, cap, s⟩ ⟨false, false, s, ty, es⟩ :=
  ⟨rfl, hs, hl, by simpa using hm, hd, C, heap_alloc_new w1 _, hC, fun i j e c he hj => by
    obtain ⟨x, h1, h2, h3⟩ := hc i j e c he hj
    exact ⟨x, h1, h2, by simpa using h3⟩⟩

/-- the elements of a slice literal -/
theorem fillS_ok {s : Nat} (hs : 0 < s) : ∀ (parts : List (Nat × Value)) (ps : List (Nat × D)) (es : List D) (C : Array Value),
    C.size = es.length * s → (∀ e ∈ es, (cells e).length = s) → (∀ (i j : Nat) e c, es[i]? = some e → (cells e)[j]? = some c → ∃ x, C[i * s + j]? = some x ∧ x.oneCell' = true ∧ Fro F c x) →
    (∀ p ∈ ps, known p.2 = true ∧ (cells p.2).length = s ∧ p.1 < es.length) → parts.length = ps.length →
    (∀ (q : Nat) i x i' d, parts[q]? = some (i, x) → ps[q]? = some (i', d) → i = i' ∧ Fro F d x) →
    ∃ C', Instr.fill (fun i => some (i * s, s)) C parts = some C' ∧ C'.size = C.size ∧ (fillS es ps).length = es.length ∧ (∀ e ∈ fillS es ps, (cells e).length = s) ∧
      (∀ (i j : Nat) e c, (fillS es ps)[i]? = some e → (cells e)[j]? = some c → ∃ x, C'[i * s + j]? = some x ∧ x.oneCell' = true ∧ Fro F c x)
  | [], [], es, C, _, hd, hc, _, _, _ => ⟨C, rfl, rfl, rfl, hd, hc⟩
  | [], _ :: _, _, _, _, _, _, _, h, _ => by simp at h
  | _ :: _, [], _, _, _, _, _, _, h, _ => by simp at h
  | (i, x) :: parts, (i', d) :: ps, es, C, hC, hd, hc, hok, hlen, hp => by
    obtain ⟨hk, hds, hi⟩ := hok (i', d) (by simp)
    simp only at hk hds hi
    obtain ⟨rfl, hv⟩ := hp 0 i x i' d rfl rfl
    obtain ⟨hsz, hone, hcell⟩ := fro_cells hv hk
    have hxs : x.cells.size = s := by rw [hsz, hds]
    obtain ⟨g1, g2⟩ := setCells_get x.cells.toList (i * s) 0 C
    have e1 : x.cells.zipIdx.foldl (fun cs (c, j) => cs.setIfInBounds (i * s + j) c) C = (x.cells.toList.zipIdx 0).foldl (fun cs (c, j) => cs.setIfInBounds (i * s + j) c) C := by
      rw [← Array.foldl_toList, Array.toList_zipIdx]
    have hle : i * s + s ≤ C.size := by
      rw [hC]
      have : (i + 1) * s ≤ es.length * s := Nat.mul_le_mul_right s hi
      rw [Nat.add_mul] at this
      omega
    obtain ⟨C', f1, f2, f3, f4, f5⟩ := fillS_ok hs parts ps (es.set i d) (x.cells.zipIdx.foldl (fun cs (c, j) => cs.setIfInBounds (i * s + j) c) C)
      (by rw [e1, g1, hC]; simp) (fun e he => by
        rcases List.mem_or_eq_of_mem_set he with h | h
        · exact hd e h
        · subst h; exact hds) (by
        intro q j e c he hj
        rw [e1, g2]
        simp only [Nat.add_zero, Nat.zero_add, Array.length_toList]
        by_cases hq : q = i
        · subst hq
          rw [List.getElem?_set_self hi] at he
          cases he
          have hjl : j < s := by rw [← hds]; exact (List.getElem?_eq_some_iff.1 hj).1
          rw [if_pos ⟨by omega, by rw [hxs]; omega, by omega⟩]
          obtain ⟨v, hv1, hv2, hv3⟩ := hcell _ _ hj
          refine ⟨v, ?_, hv2, hv3⟩
          have : q * s + j - q * s = j := by omega
          rw [this]
          simpa using hv1
        · rw [List.getElem?_set_ne (fun e => hq e.symm)] at he
          have hjl : j < s := by rw [← hd e (List.mem_of_getElem? he)]; exact (List.getElem?_eq_some_iff.1 hj).1
          rw [if_neg]
          · exact hc q j e c he hj
          · rw [hxs]
            rintro ⟨c1, c2, _⟩
            rcases Nat.lt_or_gt_of_ne hq with hlt | hgt
            · have : (q + 1) * s ≤ i * s := Nat.mul_le_mul_right s hlt
              rw [Nat.add_mul] at this; omega
            · have : (i + 1) * s ≤ q * s := Nat.mul_le_mul_right s hgt
              rw [Nat.add_mul] at this; omega)
      (fun p hp' => by
        obtain ⟨k1, k2, k3⟩ := hok p (List.mem_cons_of_mem _ hp')
        exact ⟨k1, k2, by simpa using k3⟩) (by simpa using hlen) (fun q i x i' d h1 h2 => hp (q + 1) i x i' d (by simpa using h1) (by simpa using h2))
    refine ⟨C', ?_, by rw [f2, e1, g1], by simp only [fillS]; rw [f3]; simp, by simpa only [fillS] using f4, by simpa only [fillS] using f5⟩
    simp only [Instr.fill]
    rw [if_neg (by simp [hxs]; omega)]
    exact f1

/-- the cells of a new slice: zeros -/
theorem zeros_ok {z : Value} {s n m : Nat} (h : oneCells z = true) (hz : z.cells.size = s) (hs : 0 < s) (hn : n * s ≤ m) :
    ∀ (i j : Nat) e c, (List.replicate n (valD z))[i]? = some e → (cells e)[j]? = some c → ∃ x, (madeCells z.cells m)[i * s + j]? = some x ∧ x.oneCell' = true ∧ Fro F c x := by
  intro i j e c he hj
  obtain ⟨h1, h2, h3⟩ := cells_valD (F := F) z h
  rw [List.getElem?_replicate] at he
  split at he
  · rename_i hi
    cases he
    have hjs : j < s := by rw [← hz, ← h1]; exact (List.getElem?_eq_some_iff.1 hj).1
    obtain ⟨x, hx1, hx2, hx3⟩ := h3 j c hj
    refine ⟨x, ?_, hx2, hx3⟩
    have hlt : i * s + j < m := by
      have : (i + 1) * s ≤ n * s := Nat.mul_le_mul_right s hi
      rw [Nat.add_mul] at this; omega
    have hmod : (i * s + j) % z.cells.size = j := by rw [hz, Nat.mul_comm, Nat.mul_add_mod]; exact Nat.mod_eq_of_lt hjs
    simp only [Nat.zero_add] at hx1
    unfold madeCells
    rw [Array.getElem?_map, Array.getElem?_range]
    simp only [hlt, if_true, Option.map_some, hmod]
    rw [getElem!_def, hx1]
  · cases he

theorem zeros_ok' {z : Value} {s n m : Nat} (h : oneCells z = true) (hz : z.cells.size = s) (hs : 0 < s) (hn : n * s ≤ m) :
    ∀ (i j : Nat) e c, (List.replicate n (nrm (valD z)))[i]? = some e → (cells e)[j]? = some c → ∃ x, (madeCells z.cells m)[i * s + j]? = some x ∧ x.oneCell' = true ∧ Fro F c x := by
  intro i j e c he hj
  rw [List.getElem?_replicate] at he
  split at he
  · rename_i hi
    cases he
    rw [cells_nrm, nrms_map, List.getElem?_map, Option.map_eq_some_iff] at hj
    obtain ⟨c', hc', rfl⟩ := hj
    obtain ⟨x, h1, h2, h3⟩ := zeros_ok (F := F) h hz hs hn i j (valD z) c' (by simp [hi]) hc'
    exact ⟨x, h1, h2, h3.nrm⟩
  · cases he
theorem cells_valD_nrm {z : Value} (h : oneCells z = true) : (cells (nrm (valD z))).length = z.cells.size := by
  rw [cells_nrm, nrms_map, List.length_map]
  exact (cells_valD (F := fun _ _ => none) z h).1

end
end Go.Dw
