/-
  THE LAYER Dw, PART 14r: rich objects: a slice is taken out of a cell; values are stored into cells.
-/
import Derived.Test.YtlphpepmbcbmiaaDw14
namespace Go.Dw

section
variable {N : Nat} {w0 : World} {F0 : Fz} {M : Nat → Prop} {B0 : Bt} {σ : S} {F : Fz} {β : Bt} {a : Act} {w : World} {P : Program}

theorem go_cons (e : List (Nat × D)) (o : List (Nat × Obj?)) (n k g : Nat) (y : Obj?) : (S.mk e ((k, y) :: o) n).go g = if g = k then y else (S.mk e o n).go g := by
  simp only [S.go, look]
  split <;> simp

/-- the cells of an element, one of them replaced -/
theorem setE_one {e : D} {off : Nat} {d : D} (hle : off < (cells e).length) (h1 : cells d = [d]) (q : Nat) : (cells (setE e off [d])).length = (cells e).length ∧ (cells (setE e off [d]))[q]? = if q = off then some d else (cells e)[q]? := by
  rw [cells_setE (by simp; omega) (fun c hc => by simp at hc; subst hc; exact h1) (.inl (by simp))]
  obtain ⟨h2, h3⟩ := setAt_get [d] (cells e) off
  refine ⟨h2, ?_⟩
  rw [h3]
  simp only [List.length_singleton]
  by_cases hq : q = off
  · subst hq
    rw [if_pos ⟨Nat.le_refl _, by omega, hle⟩, if_pos rfl]
    simp
  · rw [if_neg (by omega), if_neg hq]

/-- a slice is taken out of a cell of a rich object -/
theorem open_ok (h : Sim N w0 F0 M B0 σ F β a w) {nv t : Nat} (hnv : β nv = none) (ht : t < N) {g v i off s ty : Nat} {es : List D} {o : Own} (hg : σ.go g = some (v, o)) (hr : rich g = true) (hfz : o.fz = false) (hi : i < o.es.length)
    (hrow : (cells (o.es.getD i .top))[off]? = some (.row s ty es)) (hne : g ≠ 4096 + t) {px : Value} (hpx : Val F β (.optr g v i off) px) (c : Prop) :
    ∃ b L x, px = .pointer (some ⟨b, i * o.s + off, none⟩) ∧ w.cell? ⟨b, i * o.s + off, none⟩ = some x ∧ Sim N w0 F0 M B0 (σ.app ⟨c, put1 (some t) (.osl (4096 + t) nv 0 es.length),
      [(4096 + t, some (nv, ⟨false, false, s, ty, es⟩)), (g, some (v, { o with es := o.es.set i (setE (o.es.getD i .top) off [.hole nv es.length]) }))]⟩) F (upB β nv L) (a.put (some t) x) w := by
  obtain ⟨Lg, bg, hLg, hbg, rfl⟩ := hpx
  obtain ⟨Lg', hLg', _, hk⟩ := h.own g v o hg
  rw [hLg] at hLg'; cases hLg'
  have hokg := hk hfz
  obtain ⟨e1, e2, e3, e4, e5, e6⟩ := hokg
  rw [hbg] at e6
  obtain ⟨C, hC, hCs, hcell⟩ := e6
  have hget : o.es[i]? = some (o.es.getD i .top) := by simp [hi]
  obtain ⟨x, x1, x2, _⟩ := hcell i off _ _ hget hrow
  obtain ⟨φ, hφ⟩ := h.rich
  have hrat := hφ.row g v o Lg bg C i off _ x s ty es hr hg hfz hLg hbg hC hget hrow x1
  have hoff : off < (cells (o.es.getD i .top)).length := (List.getElem?_eq_some_iff.1 hrow).1
  obtain ⟨s1, s2, s3⟩ := h.sep g v o Lg bg hg hfz hLg hbg
  -- where the slice lies, and the blocks inside of it
  have hloc : ∃ (L : Loc) (fp : Nat → Nat → Nat → Prop), L.s = s ∧ x = .slice (L.b.map fun b => ⟨b, 0, none⟩) es.length L.cap ∧ OwnOK F (upB β nv L) w L ⟨false, false, s, ty, es⟩ ∧ (∀ b, L.b = some b → φ g i off b) ∧
      (∀ i' j' b, fp i' j' b → φ g i off b ∧ L.b ≠ some b) ∧ (∀ i j i' j' b, fp i j b → fp i' j' b → i = i' ∧ j = j') ∧
      (∀ b C (i' j' : Nat) e y s' ty' es', L.b = some b → w.heap[b]? = some (.cells C ty (0, 0)) → es[i']? = some e → (cells e)[j']? = some (.row s' ty' es') → C[i' * s + j']? = some y → RowAt F w (fp i' j') s' ty' es' y) ∧
      (∀ (i' j' : Nat) e u n, es[i']? = some e → (cells e)[j']? ≠ some (.hole u n)) := by
    cases hrat with
    | nil _ _ _ hs => exact ⟨⟨none, 0, s⟩, fun _ _ _ => False, rfl, rfl, ⟨rfl, hs, by simp, by simp, fun e he => (by cases he), rfl, rfl⟩, fun b hb => (by cases hb), fun _ _ _ h => h.elim, fun _ _ _ _ _ h => h.elim, fun b C i' j' e y s' ty' es' hb => (by cases hb), fun i' j' e u n he => by simp at he⟩
    | row _ _ _ _ b cap C1 fp xf hs hc hm hl hC1 hC1s hb hx hrr hh hfp hd =>
      refine ⟨⟨some b, cap, s⟩, fp, rfl, rfl, ⟨rfl, hs, hc, by simpa using hm, hl, C1, hC1, hC1s, fun i' j' e d he hd' => ?_⟩, fun b' hb' => (by cases hb'; exact hb), fun i' j' b' hb' => ⟨(hfp i' j' b' hb').1, fun e => by cases e; exact (hfp i' j' _ hb').2 rfl⟩, hd, fun b' C2 i' j' e y s' ty' es' hb' hC2 he hj hy => ?_, hh⟩
      · obtain ⟨y1, y2, y3⟩ := hx i' j' e d he hd'
        exact ⟨_, y1, y2, by simpa using y3⟩
      · cases hb'
        rw [hC1] at hC2; cases hC2
        obtain ⟨y1, _, _⟩ := hx i' j' e _ he hj
        rw [y1] at hy; cases hy
        exact hrr i' j' e s' ty' es' he hj
  obtain ⟨L, fp, l1, l2, l3, l4, l5, l6, l7, l8⟩ := hloc
  have hβ := upB_sub (β := β) (nv := nv) L hnv
  refine ⟨bg, L, x, by simp [e1], by simp [World.cell?, hC, x1], ?_⟩
  obtain ⟨og, hog⟩ : ∃ og : Own, og = { o with es := o.es.set i (setE (o.es.getD i .top) off [.hole nv es.length]) } := ⟨_, rfl⟩
  obtain ⟨og1, og2, og3, og4⟩ : og.fz = false ∧ og.var = o.var ∧ og.s = o.s ∧ og.ty = o.ty := by subst hog; exact ⟨hfz, rfl, rfl, rfl⟩
  -- the cells of the object that the slice is taken from
  have hogc : ∀ (i' j' : Nat) e d, og.es[i']? = some e → (cells e)[j']? = some d → (i' = i ∧ j' = off ∧ d = .hole nv es.length) ∨ (¬ (i' = i ∧ j' = off) ∧ ∃ e', o.es[i']? = some e' ∧ (cells e')[j']? = some d) := by
    intro i' j' e d he hd
    subst hog
    simp only at he
    by_cases hii : i' = i
    · subst hii
      rw [List.getElem?_set_self hi] at he
      cases he
      obtain ⟨_, q2⟩ := setE_one (d := .hole nv es.length) hoff rfl j'
      rw [q2] at hd
      by_cases hj : j' = off
      · rw [if_pos hj] at hd; cases hd
        exact .inl ⟨rfl, hj, rfl⟩
      · rw [if_neg hj] at hd
        exact .inr ⟨fun e => hj e.2, _, hget, hd⟩
    · rw [List.getElem?_set_ne (fun e => hii e.symm)] at he
      exact .inr ⟨fun e => hii e.1, e, he, hd⟩
  have hogok : OwnOK F (upB β nv L) w Lg og := by
    refine ⟨by rw [og3]; exact e1, by rw [og3]; exact e2, by subst hog; simpa using e3, by rw [og2]; exact e4, fun e he => ?_, ?_⟩
    · subst hog
      simp only at he ⊢
      rcases List.mem_or_eq_of_mem_set he with hm | hm
      · exact e5 e hm
      · subst hm
        rw [(setE_one (d := .hole nv es.length) hoff rfl 0).1]
        exact e5 _ (List.mem_of_getElem? hget)
    · rw [hbg]
      refine ⟨C, by rw [og4]; exact hC, by rw [og3]; exact hCs, fun i' j' e d he hd => ?_⟩
      rw [og3, og2]
      rcases hogc i' j' e d he hd with ⟨rfl, rfl, rfl⟩ | ⟨_, e', k1, k2⟩
      · refine ⟨x, x1, x2, ?_⟩
        split
        · exact Cel.of_fro (.hole _ _ _)
        · exact .hole _ _ _
      · obtain ⟨y, y1, y2, y3⟩ := hcell i' j' e' d k1 k2
        refine ⟨y, y1, y2, ?_⟩
        split at y3
        · rename_i hv; rw [if_pos hv]; exact y3.mono (Fsub.refl _) hβ
        · rename_i hv; rw [if_neg hv]; exact y3
  rw [← hog]
  -- what the names hold
  have hgo : ∀ g' v' o', (σ.app ⟨c, put1 (some t) (.osl (4096 + t) nv 0 es.length), [(4096 + t, some (nv, ⟨false, false, s, ty, es⟩)), (g, some (v, og))]⟩).go g' = some (v', o') →
      (g' = 4096 + t ∧ v' = nv ∧ o' = ⟨false, false, s, ty, es⟩) ∨ (g' = g ∧ v' = v ∧ o' = og) ∨ (g' ≠ 4096 + t ∧ g' ≠ g ∧ σ.go g' = some (v', o')) := by
    intro g' v' o' hg'
    rw [S.go_app] at hg'
    simp only [look] at hg'
    by_cases h1 : g' = 4096 + t
    · rw [if_pos h1] at hg'; cases hg'; exact .inl ⟨h1, rfl, rfl⟩
    · rw [if_neg h1] at hg'
      by_cases h2 : g' = g
      · rw [if_pos h2] at hg'; cases hg'; exact .inr (.inl ⟨h2, rfl, rfl⟩)
      · rw [if_neg h2] at hg'; exact .inr (.inr ⟨h1, h2, hg'⟩)
  have hnb : ∀ b, L.b = some b → b ≠ bg := by
    rintro b hb rfl
    exact hφ.sep g i off b g v o Lg (l4 b hb) hg hfz hLg hbg
  have hother : ∀ g' v' o' L' b, g' ≠ g → σ.go g' = some (v', o') → o'.fz = false → β v' = some L' → L'.b = some b → ¬ (b = bg ∨ L.b = some b) := by
    rintro g' v' o' L' b hn hg' hf' hL' hb' (rfl | hb)
    · exact hn (h.dist g' g v' v o' o L' Lg b hg' hg hf' hfz hL' hLg hb' hbg)
    · exact hφ.sep g i off b g' v' o' L' (l4 b hb) hg' hf' hL' hb'
  refine h.change (row := fun b => b = bg ∨ L.b = some b) rfl rfl rfl (Nat.le_refl _) (fun _ _ _ => rfl) ?_ (Fsub.refl _) (fun _ _ _ _ => rfl) h.frz h.fin hβ (by rw [act_size]; exact h.size) (by rw [act_defers]; exact h.defers)
    (h.env_put (Fsub.refl _) hβ (fun t' e => by cases e; exact ht) ⟨L, _, upB_self _ _ _, l2, ?_, fun _ => rfl, fun hp => ?_⟩) ?_ ?_ ?_
  · rintro b (rfl | hb)
    · exact s3.imp id And.left
    · exact hφ.new g i off b (l4 b hb)
  · have := l3.2.2.1; simpa using this
  · cases hLb : L.b with
    | none =>
      obtain ⟨_, _, k3, _, _, k6⟩ := l3
      rw [hLb] at k6
      simp only at k3
      omega
    | some b => exact ⟨b, rfl, by simp⟩
  · intro g' v' o' hg'
    rcases hgo g' v' o' hg' with ⟨rfl, rfl, rfl⟩ | ⟨rfl, rfl, rfl⟩ | ⟨k1, k2, k3⟩
    · refine .inr ⟨L, upB_self _ _ _, rfl, l3, fun b hb => ⟨hφ.none_ g i off b (l4 b hb), hφ.lt g i off b (l4 b hb), (hφ.new g i off b (l4 b hb)).imp id (fun z => ⟨z, .inr (by simp [rich])⟩), .inl (.inr hb)⟩⟩
    · refine .inr ⟨Lg, hβ _ _ hLg, og1, hogok, fun b hb => ?_⟩
      rw [hbg] at hb; cases hb
      rw [og2]
      exact ⟨s1, s2, s3, .inl (.inl rfl)⟩
    · exact .inl ⟨k3, fun L' b hf hL' hb => hother g' v' o' L' b k2 k3 hf hL' hb⟩
  · intro g1 g2 v1 v2 o1 o2 L1 L2 b hg1 hg2 hf1 hf2 hL1 hL2 hb1 hb2 hrow'
    have hrow' : b = bg ∨ L.b = some b := by
      rcases hrow' with h1 | h1
      · exact h1
      · exfalso
        rcases hgo g1 v1 o1 hg1 with ⟨_, rfl, rfl⟩ | ⟨_, rfl, rfl⟩ | ⟨_, k2, k3⟩
        · rw [upB_self] at hL1; cases hL1
          have := hφ.lt g i off b (l4 b hb1); omega
        · have := hβ _ _ hLg; rw [hL1] at this; cases this
          rw [hbg] at hb1; cases hb1; omega
        · obtain ⟨L0, e0, _⟩ := h.own g1 v1 o1 k3
          have := hβ _ _ e0; rw [hL1] at this; cases this
          have := (h.sep g1 v1 o1 L1 b k3 hf1 e0 hb1).2.1; omega
    have key : ∀ g' v' o' L', (σ.app ⟨c, put1 (some t) (.osl (4096 + t) nv 0 es.length), [(4096 + t, some (nv, ⟨false, false, s, ty, es⟩)), (g, some (v, og))]⟩).go g' = some (v', o') → o'.fz = false → upB β nv L v' = some L' → L'.b = some b → (g' = g ∧ b = bg) ∨ (g' = 4096 + t ∧ L.b = some b) := by
      intro g' v' o' L' hg' hf' hL' hb'
      rcases hgo g' v' o' hg' with ⟨rfl, rfl, rfl⟩ | ⟨rfl, rfl, rfl⟩ | ⟨_, k2, k3⟩
      · rw [upB_self] at hL'; cases hL'; exact .inr ⟨rfl, hb'⟩
      · have := hβ _ _ hLg; rw [hL'] at this; cases this
        rw [hbg] at hb'; cases hb'; exact .inl ⟨rfl, rfl⟩
      · obtain ⟨L0, e0, _⟩ := h.own g' v' o' k3
        have := hβ _ _ e0; rw [hL'] at this; cases this
        exact (hother g' v' o' L' b k2 k3 hf' e0 hb' hrow').elim
    rcases key g1 v1 o1 L1 hg1 hf1 hL1 hb1 with ⟨k1, k2⟩ | ⟨k1, k2⟩
    · rcases key g2 v2 o2 L2 hg2 hf2 hL2 hb2 with ⟨k3, _⟩ | ⟨_, k4⟩
      · rw [k1, k3]
      · exact (hnb b k4 k2).elim
    · rcases key g2 v2 o2 L2 hg2 hf2 hL2 hb2 with ⟨_, k4⟩ | ⟨k3, _⟩
      · exact (hnb b k2 k4).elim
      · rw [k1, k3]
  · intro _ _
    let φ' : Nat → Nat → Nat → Nat → Prop := fun g1 i1 j1 b => (g1 = 4096 + t ∧ fp i1 j1 b) ∨ (g1 ≠ 4096 + t ∧ ¬ (g1 = g ∧ i1 = i ∧ j1 = off) ∧ φ g1 i1 j1 b)
    have hsub : ∀ g1 i1 j1 b, φ' g1 i1 j1 b → ∃ g2 i2 j2, φ g2 i2 j2 b := by
      rintro g1 i1 j1 b (⟨_, hb⟩ | ⟨_, _, hb⟩)
      · exact ⟨g, i, off, (l5 i1 j1 b hb).1⟩
      · exact ⟨g1, i1, j1, hb⟩
    refine ⟨φ', ?_, ?_, fun g1 i1 j1 b hb => ?_, fun g1 i1 j1 b hb => ?_, fun g1 i1 j1 b hb => ?_, fun g1 i1 j1 b g' v' o' L' hb hg' hf' hL' hLb => ?_, ?_⟩
    · intro g' v' o' L' b C' i' j' e y s' ty' es' hr' hg' hf' hL' hb' hC' he hj hy
      rcases hgo g' v' o' hg' with ⟨rfl, rfl, rfl⟩ | ⟨rfl, rfl, rfl⟩ | ⟨k1, k2, k3⟩
      · rw [upB_self] at hL'; cases hL'
        exact (l7 b C' i' j' e y s' ty' es' hb' hC' he hj hy).keep (Fsub.refl _) (fun _ _ => rfl) (fun b hb => .inl ⟨rfl, hb⟩)
      · have := hβ _ _ hLg; rw [hL'] at this; cases this
        rw [hbg] at hb'; cases hb'
        rw [og4] at hC'; rw [og3] at hy
        rcases hogc i' j' e _ he hj with ⟨_, _, k⟩ | ⟨kn, e', k1, k2⟩
        · cases k
        · exact (hφ.row g' v' o _ bg C' i' j' e' y s' ty' es' hr' hg hfz hLg hbg hC' k1 k2 hy).keep (Fsub.refl _) (fun _ _ => rfl) (fun b hb => .inr ⟨hne, fun e => kn ⟨e.2.1, e.2.2⟩, hb⟩)
      · obtain ⟨L0, e0, _⟩ := h.own g' v' o' k3
        have := hβ _ _ e0; rw [hL'] at this; cases this
        exact (hφ.row g' v' o' L' b C' i' j' e y s' ty' es' hr' k3 hf' e0 hb' hC' he hj hy).keep (Fsub.refl _) (fun _ _ => rfl) (fun b hb => .inr ⟨k1, fun e => k2 e.1, hb⟩)
    · intro g' v' o' L' b C' i' j' e y u n hr' hg' hf' hL' hb' hC' he hj hy
      rcases hgo g' v' o' hg' with ⟨rfl, rfl, rfl⟩ | ⟨rfl, rfl, rfl⟩ | ⟨k1, k2, k3⟩
      · exact (l8 i' j' e u n he hj).elim
      · have := hβ _ _ hLg; rw [hL'] at this; cases this
        rw [hbg] at hb'; cases hb'
        rw [og4] at hC'; rw [og3] at hy
        rcases hogc i' j' e _ he hj with ⟨rfl, rfl, k⟩ | ⟨kn, e', k1, k2⟩
        · cases k
          rw [hC] at hC'; cases hC'
          rw [x1] at hy; cases hy
          refine ⟨L, _, upB_self _ _ _, l2, ?_, fun _ => rfl, fun hp => ?_⟩
          · have := l3.2.2.1; simpa using this
          · cases hLb : L.b with
            | none =>
              obtain ⟨_, _, k3, _, _, k6⟩ := l3
              rw [hLb] at k6
              simp only at k3
              omega
            | some b => exact ⟨b, rfl, by simp⟩
        · exact (hφ.hole g' v' o _ bg C' i' j' e' y u n hr' hg hfz hLg hbg hC' k1 k2 hy).mono (Fsub.refl _) hβ
      · obtain ⟨L0, e0, _⟩ := h.own g' v' o' k3
        have := hβ _ _ e0; rw [hL'] at this; cases this
        exact (hφ.hole g' v' o' L' b C' i' j' e y u n hr' k3 hf' e0 hb' hC' he hj hy).mono (Fsub.refl _) hβ
    · obtain ⟨g2, i2, j2, hb⟩ := hsub g1 i1 j1 b hb; exact hφ.none_ _ _ _ _ hb
    · obtain ⟨g2, i2, j2, hb⟩ := hsub g1 i1 j1 b hb; exact hφ.lt _ _ _ _ hb
    · obtain ⟨g2, i2, j2, hb⟩ := hsub g1 i1 j1 b hb; exact hφ.new _ _ _ _ hb
    · rcases hgo g' v' o' hg' with ⟨rfl, rfl, rfl⟩ | ⟨rfl, rfl, rfl⟩ | ⟨_, k2, k3⟩
      · rw [upB_self] at hL'; cases hL'
        rcases hb with ⟨_, hb⟩ | ⟨_, hn, hb⟩
        · exact (l5 i1 j1 b hb).2 hLb
        · exact hn (hφ.dis _ _ _ _ _ _ _ hb (l4 b hLb))
      · have := hβ _ _ hLg; rw [hL'] at this; cases this
        obtain ⟨g2, i2, j2, hb⟩ := hsub g1 i1 j1 b hb
        exact hφ.sep g2 i2 j2 b g' v' o _ hb hg hfz hLg hLb
      · obtain ⟨L0, e0, _⟩ := h.own g' v' o' k3
        have := hβ _ _ e0; rw [hL'] at this; cases this
        obtain ⟨g2, i2, j2, hb⟩ := hsub g1 i1 j1 b hb
        exact hφ.sep g2 i2 j2 b g' v' o' L' hb k3 hf' e0 hLb
    · rintro g1 i1 j1 g2 i2 j2 b (⟨rfl, hb⟩ | ⟨hn1, hn, hb⟩) (⟨rfl, hb'⟩ | ⟨hn2, hn', hb'⟩)
      · exact ⟨rfl, l6 i1 j1 i2 j2 b hb hb'⟩
      · exact (hn' (hφ.dis _ _ _ _ _ _ _ hb' (l5 i1 j1 b hb).1)).elim
      · exact (hn (hφ.dis _ _ _ _ _ _ _ hb (l5 i2 j2 b hb').1)).elim
      · exact hφ.dis _ _ _ _ _ _ _ hb hb'

/-- a slice of a rich variable gets a name of its own -/
theorem opn_ok (h : Sim N w0 F0 M B0 σ F β a w) {nv t : Nat} (hnv : β nv = none) {g v i off s ty : Nat} {es : List D} {o : Own} (hg : σ.go g = some (v, o)) (hr : rich g = true) (hfz : o.fz = false) (hvar : o.var = true) (hi : i < o.es.length)
    (hrow : (cells (o.es.getD i .top))[off]? = some (.row s ty es)) (hne : g ≠ 4096 + t) (m : Nat) :
    ∃ L, Sim N w0 F0 M B0 ⟨σ.e, (4096 + t, some (nv, ⟨false, false, s, ty, es⟩)) :: (g, some (v, { o with es := o.es.set i (setE (o.es.getD i .top) off [.osl (4096 + t) nv 0 es.length]) })) :: σ.o, m⟩ F (upB β nv L) a w := by
  obtain ⟨Lg, hLg, _, hk⟩ := h.own g v o hg
  have hokg := hk hfz
  obtain ⟨e1, e2, e3, e4, e5, e6⟩ := hokg
  obtain ⟨bg, hbg⟩ : ∃ bg, Lg.b = some bg := by
    cases hb : Lg.b with
    | some b => exact ⟨b, rfl⟩
    | none =>
      rw [hb] at e6
      omega
  rw [hbg] at e6
  obtain ⟨C, hC, hCs, hcell⟩ := e6
  have hget : o.es[i]? = some (o.es.getD i .top) := by simp [hi]
  obtain ⟨x, x1, x2, _⟩ := hcell i off _ _ hget hrow
  obtain ⟨φ, hφ⟩ := h.rich
  have hrat := hφ.row g v o Lg bg C i off _ x s ty es hr hg hfz hLg hbg hC hget hrow x1
  have hoff : off < (cells (o.es.getD i .top)).length := (List.getElem?_eq_some_iff.1 hrow).1
  obtain ⟨s1, s2, s3⟩ := h.sep g v o Lg bg hg hfz hLg hbg
  -- where the slice lies, and the blocks inside of it
  have hloc : ∃ (L : Loc) (fp : Nat → Nat → Nat → Prop), L.s = s ∧ x = .slice (L.b.map fun b => ⟨b, 0, none⟩) es.length L.cap ∧ OwnOK F (upB β nv L) w L ⟨false, false, s, ty, es⟩ ∧ (∀ b, L.b = some b → φ g i off b) ∧
      (∀ i' j' b, fp i' j' b → φ g i off b ∧ L.b ≠ some b) ∧ (∀ i j i' j' b, fp i j b → fp i' j' b → i = i' ∧ j = j') ∧
      (∀ b C (i' j' : Nat) e y s' ty' es', L.b = some b → w.heap[b]? = some (.cells C ty (0, 0)) → es[i']? = some e → (cells e)[j']? = some (.row s' ty' es') → C[i' * s + j']? = some y → RowAt F w (fp i' j') s' ty' es' y) ∧
      (∀ (i' j' : Nat) e u n, es[i']? = some e → (cells e)[j']? ≠ some (.hole u n)) := by
    cases hrat with
    | nil _ _ _ hs => exact ⟨⟨none, 0, s⟩, fun _ _ _ => False, rfl, rfl, ⟨rfl, hs, by simp, by simp, fun e he => (by cases he), rfl, rfl⟩, fun b hb => (by cases hb), fun _ _ _ h => h.elim, fun _ _ _ _ _ h => h.elim, fun b C i' j' e y s' ty' es' hb => (by cases hb), fun i' j' e u n he => by simp at he⟩
    | row _ _ _ _ b cap C1 fp xf hs hc hm hl hC1 hC1s hb hx hrr hh hfp hd =>
      refine ⟨⟨some b, cap, s⟩, fp, rfl, rfl, ⟨rfl, hs, hc, by simpa using hm, hl, C1, hC1, hC1s, fun i' j' e d he hd' => ?_⟩, fun b' hb' => (by cases hb'; exact hb), fun i' j' b' hb' => ⟨(hfp i' j' b' hb').1, fun e => by cases e; exact (hfp i' j' _ hb').2 rfl⟩, hd, fun b' C2 i' j' e y s' ty' es' hb' hC2 he hj hy => ?_, hh⟩
      · obtain ⟨y1, y2, y3⟩ := hx i' j' e d he hd'
        exact ⟨_, y1, y2, by simpa using y3⟩
      · cases hb'
        rw [hC1] at hC2; cases hC2
        obtain ⟨y1, _, _⟩ := hx i' j' e _ he hj
        rw [y1] at hy; cases hy
        exact hrr i' j' e s' ty' es' he hj
  obtain ⟨L, fp, l1, l2, l3, l4, l5, l6, l7, l8⟩ := hloc
  have hβ := upB_sub (β := β) (nv := nv) L hnv
  refine ⟨L, ?_⟩
  have href : Ref F (upB β nv L) (.osl (4096 + t) nv 0 es.length) x := by
    refine ⟨L, _, upB_self _ _ _, l2, ?_, fun _ => rfl, fun hp => ?_⟩
    · have := l3.2.2.1; simpa using this
    · cases hLb : L.b with
      | none =>
        obtain ⟨_, _, k3, _, _, k6⟩ := l3
        rw [hLb] at k6
        simp only at k3
        omega
      | some b => exact ⟨b, rfl, by simp⟩
  obtain ⟨og, hog⟩ : ∃ og : Own, og = { o with es := o.es.set i (setE (o.es.getD i .top) off [.osl (4096 + t) nv 0 es.length]) } := ⟨_, rfl⟩
  obtain ⟨og1, og2, og3, og4⟩ : og.fz = false ∧ og.var = o.var ∧ og.s = o.s ∧ og.ty = o.ty := by subst hog; exact ⟨hfz, rfl, rfl, rfl⟩
  -- the cells of the object that the slice is taken from
  have hogc : ∀ (i' j' : Nat) e d, og.es[i']? = some e → (cells e)[j']? = some d → (i' = i ∧ j' = off ∧ d = .osl (4096 + t) nv 0 es.length) ∨ (¬ (i' = i ∧ j' = off) ∧ ∃ e', o.es[i']? = some e' ∧ (cells e')[j']? = some d) := by
    intro i' j' e d he hd
    subst hog
    simp only at he
    by_cases hii : i' = i
    · subst hii
      rw [List.getElem?_set_self hi] at he
      cases he
      obtain ⟨_, q2⟩ := setE_one (d := .osl (4096 + t) nv 0 es.length) hoff rfl j'
      rw [q2] at hd
      by_cases hj : j' = off
      · rw [if_pos hj] at hd; cases hd
        exact .inl ⟨rfl, hj, rfl⟩
      · rw [if_neg hj] at hd
        exact .inr ⟨fun e => hj e.2, _, hget, hd⟩
    · rw [List.getElem?_set_ne (fun e => hii e.symm)] at he
      exact .inr ⟨fun e => hii e.1, e, he, hd⟩
  have hogok : OwnOK F (upB β nv L) w Lg og := by
    refine ⟨by rw [og3]; exact e1, by rw [og3]; exact e2, by subst hog; simpa using e3, by rw [og2]; exact e4, fun e he => ?_, ?_⟩
    · subst hog
      simp only at he ⊢
      rcases List.mem_or_eq_of_mem_set he with hm | hm
      · exact e5 e hm
      · subst hm
        rw [(setE_one (d := .osl (4096 + t) nv 0 es.length) hoff rfl 0).1]
        exact e5 _ (List.mem_of_getElem? hget)
    · rw [hbg]
      refine ⟨C, by rw [og4]; exact hC, by rw [og3]; exact hCs, fun i' j' e d he hd => ?_⟩
      rw [og3, og2]
      rcases hogc i' j' e d he hd with ⟨rfl, rfl, rfl⟩ | ⟨_, e', k1, k2⟩
      · refine ⟨x, x1, x2, ?_⟩
        rw [if_pos hvar]
        exact Cel.of_ref href
      · obtain ⟨y, y1, y2, y3⟩ := hcell i' j' e' d k1 k2
        refine ⟨y, y1, y2, ?_⟩
        rw [if_pos hvar] at y3 ⊢
        exact y3.mono (Fsub.refl _) hβ
  rw [← hog]
  -- what the names hold
  have hgo : ∀ g' v' o', (S.mk σ.e ((4096 + t, some (nv, ⟨false, false, s, ty, es⟩)) :: (g, some (v, og)) :: σ.o) m).go g' = some (v', o') →
      (g' = 4096 + t ∧ v' = nv ∧ o' = ⟨false, false, s, ty, es⟩) ∨ (g' = g ∧ v' = v ∧ o' = og) ∨ (g' ≠ 4096 + t ∧ g' ≠ g ∧ σ.go g' = some (v', o')) := by
    intro g' v' o' hg'
    rw [go_cons] at hg'
    split at hg'
    · rename_i h1; cases hg'; exact .inl ⟨h1, rfl, rfl⟩
    · rename_i h1
      rw [go_cons] at hg'
      split at hg'
      · rename_i h2; cases hg'; exact .inr (.inl ⟨h2, rfl, rfl⟩)
      · rename_i h2; exact .inr (.inr ⟨h1, h2, hg'⟩)
  have hnb : ∀ b, L.b = some b → b ≠ bg := by
    rintro b hb rfl
    exact hφ.sep g i off b g v o Lg (l4 b hb) hg hfz hLg hbg
  have hother : ∀ g' v' o' L' b, g' ≠ g → σ.go g' = some (v', o') → o'.fz = false → β v' = some L' → L'.b = some b → ¬ (b = bg ∨ L.b = some b) := by
    rintro g' v' o' L' b hn hg' hf' hL' hb' (rfl | hb)
    · exact hn (h.dist g' g v' v o' o L' Lg b hg' hg hf' hfz hL' hLg hb' hbg)
    · exact hφ.sep g i off b g' v' o' L' (l4 b hb) hg' hf' hL' hb'
  refine h.change (row := fun b => b = bg ∨ L.b = some b) rfl rfl rfl (Nat.le_refl _) (fun _ _ _ => rfl) ?_ (Fsub.refl _) (fun _ _ _ _ => rfl) h.frz h.fin hβ h.size h.defers
    (fun t' => (h.env t').mono (Fsub.refl _) hβ) ?_ ?_ ?_
  · rintro b (rfl | hb)
    · exact s3.imp id And.left
    · exact hφ.new g i off b (l4 b hb)
  · intro g' v' o' hg'
    rcases hgo g' v' o' hg' with ⟨rfl, rfl, rfl⟩ | ⟨rfl, rfl, rfl⟩ | ⟨k1, k2, k3⟩
    · refine .inr ⟨L, upB_self _ _ _, rfl, l3, fun b hb => ⟨hφ.none_ g i off b (l4 b hb), hφ.lt g i off b (l4 b hb), (hφ.new g i off b (l4 b hb)).imp id (fun z => ⟨z, .inr (by simp [rich])⟩), .inl (.inr hb)⟩⟩
    · refine .inr ⟨Lg, hβ _ _ hLg, og1, hogok, fun b hb => ?_⟩
      rw [hbg] at hb; cases hb
      rw [og2]
      exact ⟨s1, s2, s3, .inl (.inl rfl)⟩
    · exact .inl ⟨k3, fun L' b hf hL' hb => hother g' v' o' L' b k2 k3 hf hL' hb⟩
  · intro g1 g2 v1 v2 o1 o2 L1 L2 b hg1 hg2 hf1 hf2 hL1 hL2 hb1 hb2 hrow'
    have hrow' : b = bg ∨ L.b = some b := by
      rcases hrow' with h1 | h1
      · exact h1
      · exfalso
        rcases hgo g1 v1 o1 hg1 with ⟨_, rfl, rfl⟩ | ⟨_, rfl, rfl⟩ | ⟨_, k2, k3⟩
        · rw [upB_self] at hL1; cases hL1
          have := hφ.lt g i off b (l4 b hb1); omega
        · have := hβ _ _ hLg; rw [hL1] at this; cases this
          rw [hbg] at hb1; cases hb1; omega
        · obtain ⟨L0, e0, _⟩ := h.own g1 v1 o1 k3
          have := hβ _ _ e0; rw [hL1] at this; cases this
          have := (h.sep g1 v1 o1 L1 b k3 hf1 e0 hb1).2.1; omega
    have key : ∀ g' v' o' L', (S.mk σ.e ((4096 + t, some (nv, ⟨false, false, s, ty, es⟩)) :: (g, some (v, og)) :: σ.o) m).go g' = some (v', o') → o'.fz = false → upB β nv L v' = some L' → L'.b = some b → (g' = g ∧ b = bg) ∨ (g' = 4096 + t ∧ L.b = some b) := by
      intro g' v' o' L' hg' hf' hL' hb'
      rcases hgo g' v' o' hg' with ⟨rfl, rfl, rfl⟩ | ⟨rfl, rfl, rfl⟩ | ⟨_, k2, k3⟩
      · rw [upB_self] at hL'; cases hL'; exact .inr ⟨rfl, hb'⟩
      · have := hβ _ _ hLg; rw [hL'] at this; cases this
        rw [hbg] at hb'; cases hb'; exact .inl ⟨rfl, rfl⟩
      · obtain ⟨L0, e0, _⟩ := h.own g' v' o' k3
        have := hβ _ _ e0; rw [hL'] at this; cases this
        exact (hother g' v' o' L' b k2 k3 hf' e0 hb' hrow').elim
    rcases key g1 v1 o1 L1 hg1 hf1 hL1 hb1 with ⟨k1, k2⟩ | ⟨k1, k2⟩
    · rcases key g2 v2 o2 L2 hg2 hf2 hL2 hb2 with ⟨k3, _⟩ | ⟨_, k4⟩
      · rw [k1, k3]
      · exact (hnb b k4 k2).elim
    · rcases key g2 v2 o2 L2 hg2 hf2 hL2 hb2 with ⟨_, k4⟩ | ⟨k3, _⟩
      · exact (hnb b k2 k4).elim
      · rw [k1, k3]
  · intro _ _
    let φ' : Nat → Nat → Nat → Nat → Prop := fun g1 i1 j1 b => (g1 = 4096 + t ∧ fp i1 j1 b) ∨ (g1 ≠ 4096 + t ∧ ¬ (g1 = g ∧ i1 = i ∧ j1 = off) ∧ φ g1 i1 j1 b)
    have hsub : ∀ g1 i1 j1 b, φ' g1 i1 j1 b → ∃ g2 i2 j2, φ g2 i2 j2 b := by
      rintro g1 i1 j1 b (⟨_, hb⟩ | ⟨_, _, hb⟩)
      · exact ⟨g, i, off, (l5 i1 j1 b hb).1⟩
      · exact ⟨g1, i1, j1, hb⟩
    refine ⟨φ', ?_, ?_, fun g1 i1 j1 b hb => ?_, fun g1 i1 j1 b hb => ?_, fun g1 i1 j1 b hb => ?_, fun g1 i1 j1 b g' v' o' L' hb hg' hf' hL' hLb => ?_, ?_⟩
    · intro g' v' o' L' b C' i' j' e y s' ty' es' hr' hg' hf' hL' hb' hC' he hj hy
      rcases hgo g' v' o' hg' with ⟨rfl, rfl, rfl⟩ | ⟨rfl, rfl, rfl⟩ | ⟨k1, k2, k3⟩
      · rw [upB_self] at hL'; cases hL'
        exact (l7 b C' i' j' e y s' ty' es' hb' hC' he hj hy).keep (Fsub.refl _) (fun _ _ => rfl) (fun b hb => .inl ⟨rfl, hb⟩)
      · have := hβ _ _ hLg; rw [hL'] at this; cases this
        rw [hbg] at hb'; cases hb'
        rw [og4] at hC'; rw [og3] at hy
        rcases hogc i' j' e _ he hj with ⟨_, _, k⟩ | ⟨kn, e', k1, k2⟩
        · cases k
        · exact (hφ.row g' v' o _ bg C' i' j' e' y s' ty' es' hr' hg hfz hLg hbg hC' k1 k2 hy).keep (Fsub.refl _) (fun _ _ => rfl) (fun b hb => .inr ⟨hne, fun e => kn ⟨e.2.1, e.2.2⟩, hb⟩)
      · obtain ⟨L0, e0, _⟩ := h.own g' v' o' k3
        have := hβ _ _ e0; rw [hL'] at this; cases this
        exact (hφ.row g' v' o' L' b C' i' j' e y s' ty' es' hr' k3 hf' e0 hb' hC' he hj hy).keep (Fsub.refl _) (fun _ _ => rfl) (fun b hb => .inr ⟨k1, fun e => k2 e.1, hb⟩)
    · intro g' v' o' L' b C' i' j' e y u n hr' hg' hf' hL' hb' hC' he hj hy
      rcases hgo g' v' o' hg' with ⟨rfl, rfl, rfl⟩ | ⟨rfl, rfl, rfl⟩ | ⟨k1, k2, k3⟩
      · exact (l8 i' j' e u n he hj).elim
      · have := hβ _ _ hLg; rw [hL'] at this; cases this
        rw [hbg] at hb'; cases hb'
        rw [og4] at hC'; rw [og3] at hy
        rcases hogc i' j' e _ he hj with ⟨rfl, rfl, k⟩ | ⟨kn, e', k1, k2⟩
        · cases k
        · exact (hφ.hole g' v' o _ bg C' i' j' e' y u n hr' hg hfz hLg hbg hC' k1 k2 hy).mono (Fsub.refl _) hβ
      · obtain ⟨L0, e0, _⟩ := h.own g' v' o' k3
        have := hβ _ _ e0; rw [hL'] at this; cases this
        exact (hφ.hole g' v' o' L' b C' i' j' e y u n hr' k3 hf' e0 hb' hC' he hj hy).mono (Fsub.refl _) hβ
    · obtain ⟨g2, i2, j2, hb⟩ := hsub g1 i1 j1 b hb; exact hφ.none_ _ _ _ _ hb
    · obtain ⟨g2, i2, j2, hb⟩ := hsub g1 i1 j1 b hb; exact hφ.lt _ _ _ _ hb
    · obtain ⟨g2, i2, j2, hb⟩ := hsub g1 i1 j1 b hb; exact hφ.new _ _ _ _ hb
    · rcases hgo g' v' o' hg' with ⟨rfl, rfl, rfl⟩ | ⟨rfl, rfl, rfl⟩ | ⟨_, k2, k3⟩
      · rw [upB_self] at hL'; cases hL'
        rcases hb with ⟨_, hb⟩ | ⟨_, hn, hb⟩
        · exact (l5 i1 j1 b hb).2 hLb
        · exact hn (hφ.dis _ _ _ _ _ _ _ hb (l4 b hLb))
      · have := hβ _ _ hLg; rw [hL'] at this; cases this
        obtain ⟨g2, i2, j2, hb⟩ := hsub g1 i1 j1 b hb
        exact hφ.sep g2 i2 j2 b g' v' o _ hb hg hfz hLg hLb
      · obtain ⟨L0, e0, _⟩ := h.own g' v' o' k3
        have := hβ _ _ e0; rw [hL'] at this; cases this
        obtain ⟨g2, i2, j2, hb⟩ := hsub g1 i1 j1 b hb
        exact hφ.sep g2 i2 j2 b g' v' o' L' hb k3 hf' e0 hLb
    · rintro g1 i1 j1 g2 i2 j2 b (⟨rfl, hb⟩ | ⟨hn1, hn, hb⟩) (⟨rfl, hb'⟩ | ⟨hn2, hn', hb'⟩)
      · exact ⟨rfl, l6 i1 j1 i2 j2 b hb hb'⟩
      · exact (hn' (hφ.dis _ _ _ _ _ _ _ hb' (l5 i1 j1 b hb).1)).elim
      · exact (hn (hφ.dis _ _ _ _ _ _ _ hb (l5 i2 j2 b hb').1)).elim
      · exact hφ.dis _ _ _ _ _ _ _ hb hb'

/-- an own plain slice as one that a cell alone holds -/
theorem rowAt_own {L : Loc} {o : Own} (hok : OwnOK F β w L o) (hvar : o.var = false) {g v n : Nat} {x : Value} (hx : Ref F β (.osl g v 0 n) x) (hL : β v = some L) (hn : n ≤ o.es.length) (hp : ∀ e ∈ o.es, plainE e = true) : RowAt F w (fun b => L.b = some b) o.s o.ty (o.es.take n) x := by
  obtain ⟨L', A, hL', rfl, hcap, hA, _⟩ := hx
  rw [hL] at hL'; cases hL'
  obtain ⟨e1, e2, e3, e4, e5, e6⟩ := hok
  have hA := hA rfl
  subst hA
  cases hb : L.b with
  | none =>
    rw [hb] at e6
    have hn0 : n = 0 := by omega
    subst hn0
    have hc0 : L.cap - 0 = 0 := by omega
    rw [hc0]
    simp only [Option.map_none, List.take_zero]
    exact .nil _ _ _ e2
  | some b =>
    rw [hb] at e6
    obtain ⟨C, hC, hCs, hcell⟩ := e6
    have hlen : (o.es.take n).length = n := by simp; omega
    have hidx : ∀ (k : Nat) e, (o.es.take n)[k]? = some e → o.es[k]? = some e := by
      intro k e he
      rw [List.getElem?_take] at he
      split at he
      · exact he
      · cases he
    have := RowAt.row (F := F) (w := w) (fun b' => some b = some b') o.s o.ty (o.es.take n) b L.cap C (fun _ _ _ => False) (fun i j => (C[i * o.s + j]?).getD undef) e2 (by rw [hlen]; omega) (by simpa [hvar] using e4) (fun e he => e5 e (List.mem_of_mem_take he)) hC hCs rfl
      (fun i j e d he hd => by
        obtain ⟨y, y1, y2, y3⟩ := hcell i j e d (hidx i e he) hd
        rw [hvar] at y3
        rw [y1]
        exact ⟨rfl, y2, by simpa using y3⟩)
      (fun i j e s' ty' es' he hj => by
        have := List.all_eq_true.1 (hp e (List.mem_of_getElem? (hidx i e he))) _ (List.mem_of_getElem? hj)
        cases this)
      (fun i j e u n' he hj => by
        have := List.all_eq_true.1 (hp e (List.mem_of_getElem? (hidx i e he))) _ (List.mem_of_getElem? hj)
        cases this)
      (fun _ _ _ h => h.elim) (fun _ _ _ _ _ h => h.elim)
    rw [hlen] at this
    simpa using this

/-- what is stored into cells of a rich object -/
theorem cloC_ok (h : Sim N w0 F0 M B0 σ F β a w) {var : Bool} {d : D} {x : Value} (hx : Cel F β d x) (hc : ((cloC var d).run σ).1) :
    cells ((cloC var d).run σ).2.1 = [((cloC var d).run σ).2.1] ∧ (if var then Cel F β ((cloC var d).run σ).2.1 x else Fro F ((cloC var d).run σ).2.1 x) ∧ (∀ u n, ((cloC var d).run σ).2.1 ≠ .hole u n) ∧
      ((((cloC var d).run σ).2.2 = [] ∧ ∀ s ty es, ((cloC var d).run σ).2.1 ≠ .row s ty es) ∨ ∃ g v o L, ((cloC var d).run σ).2.2 = [(g, none)] ∧ σ.go g = some (v, o) ∧ o.fz = false ∧ β v = some L ∧ ∀ s ty es, ((cloC var d).run σ).2.1 = .row s ty es → RowAt F w (fun b => L.b = some b) s ty es x) := by
  have easy : ∀ d : D, cloC var d = .ret (True, d, []) → cells d = [d] → (∀ u n, d ≠ .hole u n) → (∀ s ty es, d ≠ .row s ty es) → Cel F β d x → Fro F d x → cells ((cloC var d).run σ).2.1 = [((cloC var d).run σ).2.1] ∧ (if var then Cel F β ((cloC var d).run σ).2.1 x else Fro F ((cloC var d).run σ).2.1 x) ∧ (∀ u n, ((cloC var d).run σ).2.1 ≠ .hole u n) ∧
      ((((cloC var d).run σ).2.2 = [] ∧ ∀ s ty es, ((cloC var d).run σ).2.1 ≠ .row s ty es) ∨ ∃ g v o L, ((cloC var d).run σ).2.2 = [(g, none)] ∧ σ.go g = some (v, o) ∧ o.fz = false ∧ β v = some L ∧ ∀ s ty es, ((cloC var d).run σ).2.1 = .row s ty es → RowAt F w (fun b => L.b = some b) s ty es x) := by
    intro d e1 e2 e3 e4 e5 e6
    rw [e1]
    refine ⟨e2, ?_, e3, .inl ⟨rfl, e4⟩⟩
    split
    · exact e5
    · exact e6
  cases d with
  | osl g v i n =>
    cases i with
    | succ i => exact hc.elim
    | zero =>
      simp only [cloC, R.run] at hc ⊢
      cases hg : σ.go g with
      | none => rw [hg] at hc; exact hc.elim
      | some p =>
        obtain ⟨v', o⟩ := p
        rw [hg] at hc
        simp only at hc ⊢
        have hx' : Ref F β (.osl g v 0 n) x := hx
        obtain ⟨L, A, hL, hxe, hcap, hA, hpos⟩ := hx
        by_cases hfz : o.fz = true
        · rw [if_pos hfz] at hc ⊢
          simp only [R.run] at hc ⊢
          obtain ⟨rfl, hvar, hn⟩ := hc
          obtain ⟨L', hL', hz, _⟩ := h.own g v o hg
          rw [hL] at hL'; cases hL'
          have := fro_view (hz hfz) (i := 0) (n := n) (c := L.cap - 0) (a := A) (by simpa using hn) (by simpa using hcap) (by simpa using hpos) (by omega)
          rw [hxe]
          have hf : Fro F (.sl (o.es.take n)) (.slice A n (L.cap - 0)) := by simpa using this
          refine ⟨rfl, ?_, fun u n e => (by cases e), .inl ⟨trivial, fun s ty es e => by cases e⟩⟩
          split
          · exact Cel.of_fro hf
          · exact hf
        · have hfz' : o.fz = false := by simpa using hfz
          rw [if_neg hfz] at hc ⊢
          simp only [R.run] at hc ⊢
          obtain ⟨rfl, hvar, hn, hp⟩ := hc
          obtain ⟨L', hL', _, hk⟩ := h.own g v o hg
          rw [hL] at hL'; cases hL'
          refine ⟨rfl, ?_, fun u n e => (by cases e), .inr ⟨g, v, o, L, rfl, hg, hfz', hL, fun s ty es e => ?_⟩⟩
          · split
            · exact Cel.of_fro (.row _ _ _ _)
            · exact .row _ _ _ _
          · cases e
            exact rowAt_own (hk hfz') hvar hx' hL hn hp
  | top => exact hc.elim
  | row => exact hc.elim
  | hole => exact hc.elim
  | when => exact hc.elim
  | tup => exact hc.elim
  | agg => exact hc.elim
  | optr g v i off =>
    have hv : var = true := hc
    subst hv
    exact ⟨rfl, hx, fun u n e => (by cases e), .inl ⟨rfl, fun s ty es e => by cases e⟩⟩
  | clo f caps =>
    have hv : var = true := hc
    subst hv
    exact ⟨rfl, hx, fun u n e => (by cases e), .inl ⟨rfl, fun s ty es e => by cases e⟩⟩
  | int k n => exact easy _ rfl rfl (fun _ _ e => by cases e) (fun _ _ _ e => by cases e) hx hx
  | bool b => exact easy _ rfl rfl (fun _ _ e => by cases e) (fun _ _ _ e => by cases e) hx hx
  | str b => exact easy _ rfl rfl (fun _ _ e => by cases e) (fun _ _ _ e => by cases e) hx hx
  | sl b => exact easy _ rfl rfl (fun _ _ e => by cases e) (fun _ _ _ e => by cases e) hx hx
  | nils => exact easy _ rfl rfl (fun _ _ e => by cases e) (fun _ _ _ e => by cases e) hx hx
  | fptr b off => exact easy _ rfl rfl (fun _ _ e => by cases e) (fun _ _ _ e => by cases e) hx hx
  | nilf => exact easy _ rfl rfl (fun _ _ e => by cases e) (fun _ _ _ e => by cases e) hx hx

theorem cloCs_ok (h : Sim N w0 F0 M B0 σ F β a w) {var : Bool} : ∀ (cs : List D) (X : Nat → Option Value), (∀ (j : Nat) c, cs[j]? = some c → ∃ x, X j = some x ∧ x.oneCell' = true ∧ Cel F β c x) → ((cloCs var cs).run σ).1 →
    ((cloCs var cs).run σ).2.1.length = cs.length ∧ (∀ c' ∈ ((cloCs var cs).run σ).2.1, cells c' = [c']) ∧ (∀ p ∈ ((cloCs var cs).run σ).2.2, p.2 = none) ∧
      (∀ (j : Nat) c', ((cloCs var cs).run σ).2.1[j]? = some c' → ∃ x, X j = some x ∧ x.oneCell' = true ∧ (if var then Cel F β c' x else Fro F c' x)) ∧ (∀ (j u n : Nat), ((cloCs var cs).run σ).2.1[j]? ≠ some (.hole u n)) ∧
      ∃ G : Nat → Option Nat, (∀ j g', G j = some g' → (g', none) ∈ ((cloCs var cs).run σ).2.2 ∧ ∃ v' o' L', σ.go g' = some (v', o') ∧ o'.fz = false ∧ β v' = some L') ∧ (∀ j j' g', G j = some g' → G j' = some g' → j = j') ∧
        (∀ (j s ty : Nat) es, ((cloCs var cs).run σ).2.1[j]? = some (.row s ty es) → ∀ x, X j = some x → ∃ g' v' o' L', G j = some g' ∧ σ.go g' = some (v', o') ∧ o'.fz = false ∧ β v' = some L' ∧ RowAt F w (fun b => L'.b = some b) s ty es x)
  | [], X, _, _ => by
    refine ⟨rfl, fun c' hc' => by simp [cloCs, R.run] at hc', fun p hp => by simp [cloCs, R.run] at hp, fun j c' hj => by simp [cloCs, R.run] at hj, fun j u n hj => by simp [cloCs, R.run] at hj, fun _ => none, fun j g' e => (by cases e), fun j j' g' e => (by cases e), fun j s ty es hj => by simp [cloCs, R.run] at hj⟩
  | d :: cs, X, hX, hc => by
    simp only [cloCs, R.run_bind, R.run_pure] at hc ⊢
    obtain ⟨c1, c2, c3⟩ := hc
    obtain ⟨x, x1, x2, x3⟩ := hX 0 d rfl
    obtain ⟨k1, k2, k3, k4⟩ := cloC_ok h x3 c1
    obtain ⟨q1, q2, q3, q4, q5, G, q6, q7, q8⟩ := cloCs_ok h cs (fun j => X (j + 1)) (fun j c hj => hX (j + 1) c (by simpa using hj)) c2
    have hnone : ∀ p ∈ ((cloC var d).run σ).2.2, p.2 = none := by
      intro p hp
      rcases k4 with ⟨k4, _⟩ | ⟨g, v, o, L, k4, _⟩
      · rw [k4] at hp; cases hp
      · rw [k4] at hp; simp at hp; subst hp; rfl
    refine ⟨by simp [q1], fun c' hc' => ?_, fun p hp => ?_, fun j c' hj => ?_, fun j u n hj => ?_, ?_⟩
    · rcases List.mem_cons.1 hc' with rfl | hc'
      · exact k1
      · exact q2 c' hc'
    · rcases List.mem_append.1 hp with hp | hp
      · exact hnone p hp
      · exact q3 p hp
    · rcases j with _ | j
      · simp only [List.getElem?_cons_zero, Option.some.injEq] at hj
        subst hj
        exact ⟨x, x1, x2, k2⟩
      · simp only [List.getElem?_cons_succ] at hj
        exact q4 j c' hj
    · rcases j with _ | j
      · simp only [List.getElem?_cons_zero, Option.some.injEq] at hj
        exact k3 u n hj
      · simp only [List.getElem?_cons_succ] at hj
        exact q5 j u n hj
    · rcases k4 with ⟨k4, k5⟩ | ⟨g, v, o, L, k4, k5, k6, k7, k8⟩
      · refine ⟨fun j => match j with | 0 => none | j + 1 => G j, fun j g' hj => ?_, fun j j' g' hj hj' => ?_, fun j s ty es hj y hy => ?_⟩
        · rcases j with _ | j
          · cases hj
          · obtain ⟨z1, z2⟩ := q6 j g' hj
            exact ⟨List.mem_append.2 (.inr z1), z2⟩
        · rcases j with _ | j
          · cases hj
          · rcases j' with _ | j'
            · cases hj'
            · rw [q7 j j' g' hj hj']
        · rcases j with _ | j
          · simp only [List.getElem?_cons_zero, Option.some.injEq] at hj
            exact (k5 s ty es hj).elim
          · simp only [List.getElem?_cons_succ] at hj
            exact q8 j s ty es hj y hy
      · have hdis : ∀ j, G j ≠ some g := by
          intro j hj
          obtain ⟨z1, _⟩ := q6 j g hj
          have := List.all_eq_true.1 c3 _ z1
          rw [k4] at this
          simp at this
        refine ⟨fun j => match j with | 0 => some g | j + 1 => G j, fun j g' hj => ?_, fun j j' g' hj hj' => ?_, fun j s ty es hj y hy => ?_⟩
        · rcases j with _ | j
          · cases hj
            exact ⟨List.mem_append.2 (.inl (by rw [k4]; simp)), v, o, L, k5, k6, k7⟩
          · obtain ⟨z1, z2⟩ := q6 j g' hj
            exact ⟨List.mem_append.2 (.inr z1), z2⟩
        · rcases j with _ | j
          · rcases j' with _ | j'
            · rfl
            · cases hj
              exact (hdis j' hj').elim
          · rcases j' with _ | j'
            · cases hj'
              exact (hdis j hj).elim
            · rw [q7 j j' g' hj hj']
        · rcases j with _ | j
          · simp only [List.getElem?_cons_zero, Option.some.injEq] at hj
            rw [x1] at hy; cases hy
            exact ⟨g, v, o, L, rfl, k5, k6, k7, k8 s ty es hj⟩
          · simp only [List.getElem?_cons_succ] at hj
            exact q8 j s ty es hj y hy

/-- a store into a rich object -/
theorem store_rich (h : Sim N w0 F0 M B0 σ F β a w) {g v i off n : Nat} {o : Own} (hg : σ.go g = some (v, o)) (hr : rich g = true) (hfz : o.fz = false) (hi : i < o.es.length) {d : D} {x px : Value}
    (hpx : Val F β (.optr g v i off) px) (hx : Val F β d x) (hk : known d = true) (hc : ((cloCs o.var (cells d)).run σ).1) (hn : (cells d).length = n) (hle : off + n ≤ (cells (o.es.getD i .top)).length) (hng : ((cloCs o.var (cells d)).run σ).2.2.all (fun x => x.1 != g) = true)
    (t : TypeId) (hti : P.info? t ≠ none) (htn : n = P.cellsOf t) (hnpos : 0 < n) (c : Prop) :
    ∃ w', (Instr.storeAt t px x).run P w = .ok () w' ∧ Sim N w0 F0 M B0 (σ.app ⟨c, [], (g, some (v, { o with es := o.es.set i (setE (o.es.getD i .top) off ((cloCs o.var (cells d)).run σ).2.1) })) :: ((cloCs o.var (cells d)).run σ).2.2⟩) F β a w' := by
  obtain ⟨x1, x2, x3⟩ := val_cells hx hk
  obtain ⟨q1, q2, q3, q4, q5, G, q6, q7, q8⟩ := cloCs_ok h (cells d) (fun j => x.cells[j]?) x3 hc
  generalize ((cloCs o.var (cells d)).run σ).2.1 = cs at *
  generalize ((cloCs o.var (cells d)).run σ).2.2 = ws at *
  refine store_gen h hg hfz hi hpx (by rw [x1, hn]) x2 (by rw [q1, hn]) q2 q4 hle t hti htn hnpos c q3 fun φ L b C C' hφ hL hb hLs hC hCz hC1 hC2 => ?_
  have hget : o.es[i]? = some (o.es.getD i .top) := by simp [hi]
  have hcl : cs.length = n := by rw [q1, hn]
  have hsetE := cells_setE (e := o.es.getD i .top) (off := off) (new := cs) (by rw [hcl]; exact hle) q2 (.inl (by omega))
  obtain ⟨sa1, sa2⟩ := setAt_get cs (cells (o.es.getD i .top)) off
  obtain ⟨og, hog⟩ : ∃ og : Own, og = { o with es := o.es.set i (setE (o.es.getD i .top) off cs) } := ⟨_, rfl⟩
  obtain ⟨og1, og2, og3, og4⟩ : og.fz = false ∧ og.var = o.var ∧ og.s = o.s ∧ og.ty = o.ty := by subst hog; exact ⟨hfz, rfl, rfl, rfl⟩
  obtain ⟨L', hL', _, hkk⟩ := h.own g v o hg
  rw [hL] at hL'; cases hL'
  obtain ⟨e1, e2, e3, e4, e5, e6⟩ := hkk hfz
  -- the cells of the object
  have hogc : ∀ (i' j' : Nat) e d', og.es[i']? = some e → (cells e)[j']? = some d' → (i' = i ∧ off ≤ j' ∧ j' < off + n ∧ cs[j' - off]? = some d') ∨ (¬ (i' = i ∧ off ≤ j' ∧ j' < off + n) ∧ j' < o.s ∧ ∃ e', o.es[i']? = some e' ∧ (cells e')[j']? = some d') := by
    intro i' j' e d' he hd
    subst hog
    simp only at he
    by_cases hii : i' = i
    · subst hii
      rw [List.getElem?_set_self hi] at he
      cases he
      rw [hsetE, sa2, hcl] at hd
      split at hd
      · rename_i hcond
        exact .inl ⟨rfl, hcond.1, hcond.2.1, hd⟩
      · rename_i hcond
        have hlt := (List.getElem?_eq_some_iff.1 hd).1
        exact .inr ⟨fun e => hcond ⟨e.2.1, e.2.2, hlt⟩, by rw [← e5 _ (List.mem_of_getElem? hget)]; exact hlt, _, hget, hd⟩
    · rw [List.getElem?_set_ne (fun e => hii e.symm)] at he
      exact .inr ⟨fun e => hii e.1, by rw [← e5 e (List.mem_of_getElem? he)]; exact (List.getElem?_eq_some_iff.1 hd).1, e, he, hd⟩
  have hnew : ∀ j', off ≤ j' → j' < off + n → C'[i * o.s + j']? = x.cells[j' - off]? := by
    intro j' h1 h2
    rw [← hC1 (j' - off) (by omega)]
    congr 1; omega
  have hoff : off + n ≤ o.s := by rw [← e5 _ (List.mem_of_getElem? hget)]; exact hle
  have hold : ∀ i' j', j' < o.s → ¬ (i' = i ∧ off ≤ j' ∧ j' < off + n) → C'[i' * o.s + j']? = C[i' * o.s + j']? := by
    intro i' j' hj hn'
    refine hC2 _ ?_
    rcases Nat.lt_trichotomy i' i with h1 | h1 | h1
    · have : (i' + 1) * o.s ≤ i * o.s := Nat.mul_le_mul_right _ h1
      rw [Nat.add_mul] at this; omega
    · subst h1; omega
    · have : (i + 1) * o.s ≤ i' * o.s := Nat.mul_le_mul_right _ h1
      rw [Nat.add_mul] at this; omega
  have hsz : (w.setRow b C').heap.size = w.heap.size := by simp [World.setRow]
  rw [← hog]
  -- what the names hold
  have hgo : ∀ g' v' o', (σ.app ⟨c, [], (g, some (v, og)) :: ws⟩).go g' = some (v', o') → (g' = g ∧ v' = v ∧ o' = og) ∨ (g' ≠ g ∧ σ.go g' = some (v', o') ∧ ∀ y, (g', y) ∉ ws) := by
    intro g' v' o' hg'
    rw [S.go_app] at hg'
    simp only [look] at hg'
    by_cases h1 : g' = g
    · rw [if_pos h1] at hg'; cases hg'; exact .inl ⟨h1, rfl, rfl⟩
    · rw [if_neg h1] at hg'
      cases hl : look ws g' with
      | some y =>
        rw [hl] at hg'
        have := q3 _ (look_mem hl)
        simp only at this hg'
        rw [this] at hg'; cases hg'
      | none =>
        rw [hl] at hg'
        exact .inr ⟨h1, hg', look_none hl⟩
  -- the blocks of the slices that are put in
  let K : Nat → Nat → Prop := fun j b' => ∃ g' v' o' L', G j = some g' ∧ σ.go g' = some (v', o') ∧ o'.fz = false ∧ β v' = some L' ∧ L'.b = some b'
  have hGg : ∀ j, G j ≠ some g := by
    intro j hj
    obtain ⟨z1, _⟩ := q6 j g hj
    have := List.all_eq_true.1 hng _ z1
    simp at this
  have hKb : ∀ j b', K j b' → b' ≠ b := by
    rintro j b' ⟨g', v', o', L', k1, k2, k3, k4, k5⟩ rfl
    have := h.dist g' g v' v o' o L' L b' k2 hg k3 hfz k4 hL k5 hb
    subst this
    exact hGg j k1
  let φ' : Nat → Nat → Nat → Nat → Prop := fun g1 i1 j1 b' => (g1 = g ∧ i1 = i ∧ off ≤ j1 ∧ j1 < off + n ∧ K (j1 - off) b') ∨ (¬ (g1 = g ∧ i1 = i ∧ off ≤ j1 ∧ j1 < off + n) ∧ φ g1 i1 j1 b')
  have hφb : ∀ g1 i1 j1 b', φ g1 i1 j1 b' → b' ≠ b := by
    rintro g1 i1 j1 b' hb' rfl
    exact hφ.sep g1 i1 j1 b' g v o L hb' hg hfz hL hb
  refine ⟨φ', ?_, ?_, ?_, ?_, ?_, ?_, ?_⟩
  · intro g' v' o' L' b' C'' i' j' e y s' ty' es' hr' hg' hf' hL' hb' hC'' he hj hy
    rcases hgo g' v' o' hg' with ⟨rfl, rfl, rfl⟩ | ⟨k1, k2, _⟩
    · rw [hL] at hL'; cases hL'
      rw [hb] at hb'; cases hb'
      have : C'' = C' := by
        have h1 := setRow_heap w b C C' o.ty (0, 0) hC
        rw [og4] at hC''
        rw [h1] at hC''
        cases hC''; rfl
      subst this
      rw [og3] at hy
      rcases hogc i' j' e _ he hj with ⟨rfl, z1, z2, z3⟩ | ⟨z0, z1, e', z2, z3⟩
      · rw [hnew j' z1 z2] at hy
        obtain ⟨g2, v2, o2, L2, y1, y2, y3, y4, y5⟩ := q8 _ s' ty' es' z3 y hy
        refine y5.keep (Fsub.refl _) (fun b2 hb2 => setRow_other w b b2 C'' (hKb _ b2 ⟨g2, v2, o2, L2, y1, y2, y3, y4, hb2⟩)) (fun b2 hb2 => .inl ⟨rfl, rfl, z1, z2, g2, v2, o2, L2, y1, y2, y3, y4, hb2⟩)
      · rw [hold i' j' z1 z0] at hy
        exact (hφ.row g' v' o L b C i' j' e' y s' ty' es' hr' hg hfz hL hb hC z2 z3 hy).keep (Fsub.refl _) (fun b2 hb2 => setRow_other w b b2 C'' (hφb _ _ _ b2 hb2)) (fun b2 hb2 => .inr ⟨fun e => z0 e.2, hb2⟩)
    · have hbb : b' ≠ b := by
        rintro rfl
        exact k1 (h.dist g' g v' v o' o L' L b' k2 hg hf' hfz hL' hL hb' hb)
      rw [setRow_other w b b' C' hbb] at hC''
      exact (hφ.row g' v' o' L' b' C'' i' j' e y s' ty' es' hr' k2 hf' hL' hb' hC'' he hj hy).keep (Fsub.refl _) (fun b2 hb2 => setRow_other w b b2 C' (hφb _ _ _ b2 hb2)) (fun b2 hb2 => .inr ⟨fun e => k1 e.1, hb2⟩)
  · intro g' v' o' L' b' C'' i' j' e y u n' hr' hg' hf' hL' hb' hC'' he hj hy
    rcases hgo g' v' o' hg' with ⟨rfl, rfl, rfl⟩ | ⟨k1, k2, _⟩
    · rw [hL] at hL'; cases hL'
      rw [hb] at hb'; cases hb'
      have : C'' = C' := by
        have h1 := setRow_heap w b C C' o.ty (0, 0) hC
        rw [og4] at hC''
        rw [h1] at hC''
        cases hC''; rfl
      subst this
      rw [og3] at hy
      rcases hogc i' j' e _ he hj with ⟨rfl, z1, z2, z3⟩ | ⟨z0, z1, e', z2, z3⟩
      · exact (q5 _ u n' z3).elim
      · rw [hold i' j' z1 z0] at hy
        exact hφ.hole g' v' o L b C i' j' e' y u n' hr' hg hfz hL hb hC z2 z3 hy
    · have hbb : b' ≠ b := by
        rintro rfl
        exact k1 (h.dist g' g v' v o' o L' L b' k2 hg hf' hfz hL' hL hb' hb)
      rw [setRow_other w b b' C' hbb] at hC''
      exact hφ.hole g' v' o' L' b' C'' i' j' e y u n' hr' k2 hf' hL' hb' hC'' he hj hy
  · rintro g1 i1 j1 b' (⟨_, _, _, _, g', v', o', L', _, k2, k3, k4, k5⟩ | ⟨_, hb'⟩)
    · exact (h.sep g' v' o' L' b' k2 k3 k4 k5).1
    · exact hφ.none_ g1 i1 j1 b' hb'
  · rintro g1 i1 j1 b' (⟨_, _, _, _, g', v', o', L', _, k2, k3, k4, k5⟩ | ⟨_, hb'⟩)
    · rw [hsz]; exact (h.sep g' v' o' L' b' k2 k3 k4 k5).2.1
    · rw [hsz]; exact hφ.lt g1 i1 j1 b' hb'
  · rintro g1 i1 j1 b' (⟨_, _, _, _, g', v', o', L', _, k2, k3, k4, k5⟩ | ⟨_, hb'⟩)
    · exact (h.sep g' v' o' L' b' k2 k3 k4 k5).2.2.imp id And.left
    · exact hφ.new g1 i1 j1 b' hb'
  · intro g1 i1 j1 b' g2 v2 o2 L2 hb' hg2 hf2 hL2 hLb
    rcases hgo g2 v2 o2 hg2 with ⟨rfl, rfl, rfl⟩ | ⟨k1, k2, k3⟩
    · rw [hL] at hL2; cases hL2
      rw [hb] at hLb; cases hLb
      rcases hb' with ⟨_, _, _, _, hK⟩ | ⟨_, hb'⟩
      · exact hKb _ _ hK rfl
      · exact hφb _ _ _ _ hb' rfl
    · rcases hb' with ⟨_, _, _, _, g', v', o', L', y1, y2, y3, y4, y5⟩ | ⟨_, hb'⟩
      · have := h.dist g' g2 v' v2 o' o2 L' L2 b' y2 k2 y3 hf2 y4 hL2 y5 hLb
        subst this
        exact k3 _ (q6 _ _ y1).1
      · exact hφ.sep g1 i1 j1 b' g2 v2 o2 L2 hb' k2 hf2 hL2 hLb
  · rintro g1 i1 j1 g2 i2 j2 b' (⟨rfl, rfl, z1, z2, g', v', o', L', y1, y2, y3, y4, y5⟩ | ⟨n1, h1⟩) (⟨rfl, rfl, z1', z2', g'', v'', o'', L'', y1', y2', y3', y4', y5'⟩ | ⟨n2, h2⟩)
    · have := h.dist g' g'' v' v'' o' o'' L' L'' b' y2 y2' y3 y3' y4 y4' y5 y5'
      subst this
      have := q7 _ _ _ y1 y1'
      exact ⟨rfl, rfl, by omega⟩
    · exact (hφ.sep g2 i2 j2 b' g' v' o' L' h2 y2 y3 y4 y5).elim
    · exact (hφ.sep g1 i1 j1 b' g'' v'' o'' L'' h1 y2' y3' y4' y5').elim
    · exact hφ.dis g1 i1 j1 g2 i2 j2 b' h1 h2

end
end Go.Dw
