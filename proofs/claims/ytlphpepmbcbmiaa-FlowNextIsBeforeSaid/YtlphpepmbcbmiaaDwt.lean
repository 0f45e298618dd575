/-
  THE LAYER Dw, PART 19t: more steps that only change how a state is described.
-/
import Derived.Test.YtlphpepmbcbmiaaDws
namespace Go.Dw

section
variable {N : Nat} {w0 : World} {F0 : Fz} {M : Nat → Prop} {B0 : Bt} {σ : S} {F : Fz} {β : Bt} {a : Act} {w : World}

/-- objects of one state as objects of another one, the same but for one of them: what is to be shown -/
theorem Sim.recast (h : Sim N w0 F0 M B0 σ F β a w) {σ' : S} {F' : Fz} {g g2 v : Nat} {o on : Own} {L : Loc} (hg : σ.go g = some (v, o)) (hfz : o.fz = false) (hL : β v = some L) (hfz2 : on.fz = false)
    (hgo : ∀ k u q, σ'.go k = some (u, q) → (k = g2 ∧ u = v ∧ q = on) ∨ (k ≠ g2 ∧ k ≠ g ∧ σ.go k = some (u, q))) (hon : OwnOK F' β w L on) (henv : ∀ t, Env F' β (σ'.ge t) (a.tmps.getD t undef)) {Z : Nat → Prop}
    (hZ : ∀ b, Z b → ∃ φ, RichOK F β w0.heap.size M σ w φ ∧ ∃ i j, φ g i j b) (hF : Fsub F F') (hFold : ∀ b i, ¬ Z b → F' b i = F b i) (hfrz : Fok F' w) (hfin : ∀ b i x, F' b i = some x → b < w.heap.size)
    (hr2 : Dw.rich g = true → Dw.rich g2 = true) (hov : on.var = o.var)
    (hrich : ∀ φ, RichOK F β w0.heap.size M σ w φ → ∃ φ', RichOK F' β w0.heap.size M σ' w φ') : Sim N w0 F0 M B0 σ' F' β a w := by
  have hLb : ∀ b, L.b = some b → ¬ Z b := by
    intro b hb hz
    obtain ⟨φ, hφ, i, j, hij⟩ := hZ b hz
    exact hφ.sep g i j b g v o L hij hg hfz hL hb
  refine h.change (row := fun b => L.b = some b ∨ Z b) rfl rfl rfl (Nat.le_refl _) (fun _ _ _ => rfl) ?_ hF (fun b i _ hn => hFold b i fun hz => hn (.inr hz)) hfrz hfin (Bsub.refl _) h.size h.defers henv ?_ ?_ hrich
  · rintro b (hb | hz)
    · exact (h.sep g v o L b hg hfz hL hb).2.2.imp id And.left
    · obtain ⟨φ, hφ, i, j, hij⟩ := hZ b hz
      exact hφ.new g i j b hij
  · intro k u q hk
    rcases hgo k u q hk with ⟨rfl, rfl, rfl⟩ | ⟨n1, n2, hk⟩
    · refine .inr ⟨L, hL, hfz2, hon, fun b' hb' => ?_⟩
      obtain ⟨s1, s2, s3⟩ := h.sep g u o L b' hg hfz hL hb'
      exact ⟨fun i => by rw [hFold b' i (hLb b' hb')]; exact s1 i, s2, s3.imp id (fun z => ⟨z.1, by rw [hov]; exact z.2.imp id hr2⟩), .inl (.inl hb')⟩
    · refine .inl ⟨hk, ?_⟩
      rintro L1 b1 hf hL1 hb1 (hb | hz)
      · exact n2 (h.dist k g u v q o L1 L b1 hk hg hf hfz hL1 hL hb1 hb)
      · obtain ⟨φ, hφ, i, j, hij⟩ := hZ b1 hz
        exact hφ.sep g i j b1 k u q L1 hij hk hf hL1 hb1
  · intro g1 g3 v1 v3 o1 o3 L1 L3 b' hg1 hg3 hf1 hf3 hL1 hL3 hb1 hb3 _
    rcases hgo g1 v1 o1 hg1 with ⟨rfl, rfl, rfl⟩ | ⟨n1, n2, hk⟩
    · rcases hgo g3 v3 o3 hg3 with ⟨rfl, rfl, rfl⟩ | ⟨n1', n2', hk'⟩
      · rfl
      · exact (n2' (h.dist g3 g v3 v1 o3 o L3 L1 b' hk' hg hf3 hfz hL3 hL1 hb3 hb1)).elim
    · rcases hgo g3 v3 o3 hg3 with ⟨rfl, rfl, rfl⟩ | ⟨n1', n2', hk'⟩
      · exact (n2 (h.dist g1 g v1 v3 o1 o L1 L3 b' hk hg hf1 hfz hL1 hL3 hb1 hb3)).elim
      · exact h.dist g1 g3 v1 v3 o1 o3 L1 L3 b' hk hk' hf1 hf3 hL1 hL3 hb1 hb3

theorem each_get {R : D → D → Prop} {l l' : List D} (h : Each R l l') {i : Nat} {e' : D} (he : l'[i]? = some e') : ∃ e, l[i]? = some e ∧ R e e' := by
  have hlt : i < l.length := by rw [← h.1]; exact (List.getElem?_eq_some_iff.1 he).1
  exact ⟨_, List.getElem?_eq_getElem hlt, h.2 i _ e' (List.getElem?_eq_getElem hlt) he⟩

theorem rw_enrich (h : Sim N w0 F0 M B0 σ F β a w) {g g2 v : Nat} {o : Own} {es' : List D} (hg : σ.go g = some (v, o)) (hfz : o.fz = false) (hn : (g2 = g ∧ rich g = true) ∨ (rich g = false ∧ g2 = 4096 + g)) (he : Each (Enr (rich g)) o.es es') :
    Sim N w0 F0 M B0 ⟨σ.e.map (fun p => (p.1, ren g g2 p.2)), (g2, some (v, { o with es := es' })) :: (g, bif Nat.beq g g2 then some (v, { o with es := es' }) else none) :: σ.o, σ.n⟩ F β a w := by
  obtain ⟨L, hL, _, hk⟩ := h.own g v o hg
  obtain ⟨e1, e2, e3, e4, e5, e6⟩ := hk hfz
  have hr2 : rich g2 = true := by
    rcases hn with ⟨rfl, hr⟩ | ⟨_, rfl⟩
    · exact hr
    · simp [rich]
  have hgo : ∀ k u q, (S.mk (σ.e.map (fun p => (p.1, ren g g2 p.2))) ((g2, some (v, { o with es := es' })) :: (g, bif Nat.beq g g2 then some (v, { o with es := es' }) else none) :: σ.o) σ.n).go k = some (u, q) → (k = g2 ∧ u = v ∧ q = { o with es := es' }) ∨ (k ≠ g2 ∧ k ≠ g ∧ σ.go k = some (u, q)) := by
    intro k u q hk
    rw [go_cons] at hk
    split at hk
    · rename_i e; cases hk; exact .inl ⟨e, rfl, rfl⟩
    · rename_i n1
      rw [go_cons] at hk
      split at hk
      · rename_i e
        subst e
        have : Nat.beq k g2 = false := by
          cases hb : Nat.beq k g2
          · rfl
          · exact absurd (Nat.eq_of_beq_eq_true hb) n1
        rw [this] at hk; cases hk
      · rename_i n2; exact .inr ⟨n1, n2, hk⟩
  -- the new cells
  have hcel : ∀ (i j : Nat) e c', es'[i]? = some e → (cells e)[j]? = some c' → ∃ e0 c, o.es[i]? = some e0 ∧ (cells e0)[j]? = some c ∧ ((c' = c ∧ (rich g = true ∨ plain c = true)) ∨ (c = .nils ∧ ∃ s ty, 0 < s ∧ c' = .row s ty [])) := by
    intro i j e c' h1 h2
    obtain ⟨e0, k1, k2, k3⟩ := each_get he h1
    have hlt : j < (cells e0).length := by rw [← k2]; exact (List.getElem?_eq_some_iff.1 h2).1
    exact ⟨e0, _, k1, List.getElem?_eq_getElem hlt, k3 j _ c' (List.getElem?_eq_getElem hlt) h2⟩
  refine h.recast hg hfz hL (on := { o with es := es' }) hfz hgo ⟨e1, e2, by simp only [he.1]; exact e3, e4, fun e hm => ?_, ?_⟩ (fun t => ?_) (Z := fun _ => False) (fun _ hz => hz.elim) (Fsub.refl _) (fun _ _ _ => rfl) h.frz h.fin (fun _ => hr2) rfl fun φ hφ => ?_
  · obtain ⟨i, hi⟩ := List.getElem?_of_mem hm
    obtain ⟨e0, k1, k2, _⟩ := each_get he hi
    rw [k2]; exact e5 e0 (List.mem_of_getElem? k1)
  · cases hb : L.b with
    | none => rw [hb] at e6; exact e6
    | some b =>
      rw [hb] at e6
      obtain ⟨C, hC, hCs, hcell⟩ := e6
      refine ⟨C, hC, hCs, fun i j e c' h1 h2 => ?_⟩
      obtain ⟨e0, c, k1, k2, k3⟩ := hcel i j e c' h1 h2
      obtain ⟨x, x1, x2, x3⟩ := hcell i j e0 c k1 k2
      refine ⟨x, x1, x2, ?_⟩
      rcases k3 with ⟨rfl, _⟩ | ⟨_, s, ty, _, rfl⟩
      · exact x3
      · split
        · exact Cel.of_fro (.row _ _ _ _)
        · exact .row _ _ _ _
  · rw [ge_map (ren g g2) rfl]
    exact env_ren g g2 (h.env t)
  · let φ' : Nat → Nat → Nat → Nat → Prop := fun k i j b => (k = g2 ∧ rich g = true ∧ φ g i j b) ∨ (k ≠ g2 ∧ k ≠ g ∧ φ k i j b)
    have hsub : ∀ k i j b, φ' k i j b → ∃ k', φ k' i j b := by
      rintro k i j b (⟨_, _, hb⟩ | ⟨_, _, hb⟩)
      · exact ⟨g, hb⟩
      · exact ⟨k, hb⟩
    refine ⟨φ', ?_, ?_, fun k i j b hb => ?_, fun k i j b hb => ?_, fun k i j b hb => ?_, fun k i j b g' v' o' L' hb hg' hf' hL' => ?_, ?_⟩
    · intro k u q L1 b C i j e x s ty es hr hk hf hL1 hb hC hei hj hx
      rcases hgo k u q hk with ⟨rfl, rfl, rfl⟩ | ⟨n1, n2, hk⟩
      · obtain ⟨e0, c, k1, k2, k3⟩ := hcel i j e _ hei hj
        rcases k3 with ⟨rfl, hpl⟩ | ⟨rfl, s', ty', hs', heq⟩
        · have hrg : rich g = true := hpl.resolve_right (fun h => by cases h)
          exact (hφ.row g u o L1 b C i j e0 x s ty es hrg hg hfz hL1 hb hC k1 k2 hx).keep (Fsub.refl _) (fun _ _ => rfl) (fun b hb => .inl ⟨rfl, hrg, hb⟩)
        · cases heq
          rw [hL] at hL1; cases hL1
          rw [hb] at e6
          obtain ⟨C', hC', _, hcell⟩ := e6
          rw [hC'] at hC; cases hC
          obtain ⟨y, y1, _, y3⟩ := hcell i j e0 _ k1 k2
          rw [y1] at hx; cases hx
          have : x = .slice none 0 0 := by
            split at y3
            · exact val_nils (β := β) (Val.of_cel y3)
            · exact val_nils (β := β) (Val.of_fro y3)
          subst this
          exact .nil _ _ _ hs'
      · exact (hφ.row k u q L1 b C i j e x s ty es hr hk hf hL1 hb hC hei hj hx).keep (Fsub.refl _) (fun _ _ => rfl) (fun b hb => .inr ⟨n1, n2, hb⟩)
    · intro k u q L1 b C i j e x u' n' hr hk hf hL1 hb hC hei hj hx
      rcases hgo k u q hk with ⟨rfl, rfl, rfl⟩ | ⟨n1, n2, hk⟩
      · obtain ⟨e0, c, k1, k2, k3⟩ := hcel i j e _ hei hj
        rcases k3 with ⟨rfl, hpl⟩ | ⟨_, _, _, _, heq⟩
        · have hrg : rich g = true := hpl.resolve_right (fun h => by cases h)
          exact hφ.hole g u o L1 b C i j e0 x u' n' hrg hg hfz hL1 hb hC k1 k2 hx
        · cases heq
      · exact hφ.hole k u q L1 b C i j e x u' n' hr hk hf hL1 hb hC hei hj hx
    · obtain ⟨k', hb⟩ := hsub k i j b hb; exact hφ.none_ _ _ _ _ hb
    · obtain ⟨k', hb⟩ := hsub k i j b hb; exact hφ.lt _ _ _ _ hb
    · obtain ⟨k', hb⟩ := hsub k i j b hb; exact hφ.new _ _ _ _ hb
    · obtain ⟨k', hb2⟩ := hsub k i j b hb
      rcases hgo g' v' o' hg' with ⟨rfl, rfl, rfl⟩ | ⟨_, _, hk⟩
      · exact hφ.sep k' i j b g _ o L' hb2 hg hfz hL'
      · exact hφ.sep k' i j b g' v' o' L' hb2 hk hf' hL'
    · rintro k i j k' i' j' b (⟨rfl, _, h1⟩ | ⟨n1, n2, h1⟩) (⟨rfl, _, h2⟩ | ⟨m1, m2, h2⟩)
      · exact ⟨rfl, (hφ.dis _ _ _ _ _ _ _ h1 h2).2⟩
      · exact (m2 (hφ.dis _ _ _ _ _ _ _ h2 h1).1).elim
      · exact (n2 (hφ.dis _ _ _ _ _ _ _ h1 h2).1).elim
      · exact hφ.dis _ _ _ _ _ _ _ h1 h2

theorem rw_nilsl (h : Sim N w0 F0 M B0 σ F β a w) {g v : Nat} {o : Own} (hg : σ.go g = some (v, o)) (hr : rich g = false) (hfz : o.fz = false) (hvar : o.var = false) :
    Sim N w0 F0 M B0 ⟨σ.e, (g, some (v, { o with es := o.es.map nrm })) :: σ.o, σ.n⟩ F β a w := by
  obtain ⟨L, hL, _, hk⟩ := h.own g v o hg
  obtain ⟨e1, e2, e3, e4, e5, e6⟩ := hk hfz
  have hgo : ∀ k u q, (S.mk σ.e ((g, some (v, { o with es := o.es.map nrm })) :: σ.o) σ.n).go k = some (u, q) → (k = g ∧ u = v ∧ q = { o with es := o.es.map nrm }) ∨ (k ≠ g ∧ k ≠ g ∧ σ.go k = some (u, q)) := by
    intro k u q hk
    rw [go_cons] at hk
    split at hk
    · rename_i e; cases hk; exact .inl ⟨e, rfl, rfl⟩
    · rename_i n1; exact .inr ⟨n1, n1, hk⟩
  refine h.recast hg hfz hL (on := { o with es := o.es.map nrm }) hfz hgo ⟨e1, e2, by simpa using e3, e4, fun e hm => ?_, ?_⟩ h.env (Z := fun _ => False) (fun _ hz => hz.elim) (Fsub.refl _) (fun _ _ _ => rfl) h.frz h.fin id rfl fun φ hφ => ⟨φ, hφ.keep (Fsub.refl _) (Bsub.refl _) (Nat.le_refl _) (fun _ _ _ _ _ _ => rfl) (fun _ _ _ _ _ => rfl) (fun k u q hk => ?_) (fun k u q hrk hk hf => .inl ?_) (fun g1 i j b k u q L' hb hk hf hL' => ?_)⟩
  · obtain ⟨e0, k1, rfl⟩ := List.mem_map.1 hm
    rw [cells_nrm, nrms_map, List.length_map]
    exact e5 e0 k1
  · cases hb : L.b with
    | none => rw [hb] at e6; exact e6
    | some b =>
      rw [hb] at e6
      obtain ⟨C, hC, hCs, hcell⟩ := e6
      refine ⟨C, hC, hCs, fun i j e c' h1 h2 => ?_⟩
      simp only [List.getElem?_map, Option.map_eq_some_iff] at h1
      obtain ⟨e0, k1, rfl⟩ := h1
      rw [cells_nrm, nrms_map, List.getElem?_map, Option.map_eq_some_iff] at h2
      obtain ⟨c, k2, rfl⟩ := h2
      obtain ⟨x, x1, x2, x3⟩ := hcell i j e0 c k1 k2
      rw [hvar] at x3
      simp only [Bool.false_eq_true, if_false] at x3
      refine ⟨x, x1, x2, ?_⟩
      simp only [hvar, Bool.false_eq_true, if_false]
      exact x3.nrm
  · obtain ⟨L, hL, _⟩ := h.own k u q hk
    exact ⟨L, hL⟩
  · rcases hgo k u q hk with ⟨rfl, _, _⟩ | ⟨_, _, hk⟩
    · rw [hr] at hrk; cases hrk
    · exact ⟨q, hk, hf, rfl, rfl, fun i j e c he hj _ => ⟨⟨e, he, hj⟩, fun L b C x _ _ hC hx => ⟨C, hC, hx⟩⟩⟩
  · rcases hgo k u q hk with ⟨rfl, rfl, rfl⟩ | ⟨_, _, hk⟩
    · exact hφ.sep g1 i j b k u o L' hb hg hfz hL'
    · exact hφ.sep g1 i j b k u q L' hb hk hf hL'

open Classical in
theorem rw_frows (h : Sim N w0 F0 M B0 σ F β a w) {g v : Nat} {o : Own} {es' : List D} (hg : σ.go g = some (v, o)) (hr : rich g = true) (hfz : o.fz = false) (he : Each Frr o.es es') :
    ∃ F', Sim N w0 F0 M B0 ⟨σ.e, (g, some (v, { o with es := es' })) :: σ.o, σ.n⟩ F' β a w := by
  obtain ⟨φ, hφ⟩ := h.rich
  obtain ⟨L, hL, _, hk⟩ := h.own g v o hg
  obtain ⟨e1, e2, e3, e4, e5, e6⟩ := hk hfz
  -- cell (i, j) is frozen
  let Fc : Nat → Nat → Prop := fun i j => ∃ e' es, es'[i]? = some e' ∧ (cells e')[j]? = some (.sl es)
  let Z : Nat → Prop := fun b => ∃ i j, Fc i j ∧ φ g i j b
  let F' : Fz := fun b i => if Z b then w.cell? ⟨b, i, none⟩ else F b i
  have hZF : ∀ b i, Z b → F' b i = w.cell? ⟨b, i, none⟩ := fun b i hz => if_pos hz
  have hFn : ∀ b i, ¬ Z b → F' b i = F b i := fun b i hz => if_neg hz
  have hsub : Fsub F F' := by
    intro b i x hx
    by_cases hz : Z b
    · obtain ⟨i', j', _, hb⟩ := hz
      rw [hφ.none_ g i' j' b hb i] at hx; cases hx
    · rw [hFn b i hz]; exact hx
  have hgo : ∀ k u q, (S.mk σ.e ((g, some (v, { o with es := es' })) :: σ.o) σ.n).go k = some (u, q) → (k = g ∧ u = v ∧ q = { o with es := es' }) ∨ (k ≠ g ∧ k ≠ g ∧ σ.go k = some (u, q)) := by
    intro k u q hk
    rw [go_cons] at hk
    split at hk
    · rename_i e; cases hk; exact .inl ⟨e, rfl, rfl⟩
    · rename_i n1; exact .inr ⟨n1, n1, hk⟩
  have hcel : ∀ (i j : Nat) e c', es'[i]? = some e → (cells e)[j]? = some c' → ∃ e0 c, o.es[i]? = some e0 ∧ (cells e0)[j]? = some c ∧ (c' = c ∨ ∃ s ty es, c = .row s ty es ∧ (∀ q ∈ es, plainE q = true) ∧ c' = .sl es) := by
    intro i j e c' h1 h2
    obtain ⟨e0, k1, k2, k3⟩ := each_get he h1
    have hlt : j < (cells e0).length := by rw [← k2]; exact (List.getElem?_eq_some_iff.1 h2).1
    exact ⟨e0, _, k1, List.getElem?_eq_getElem hlt, k3 j _ c' (List.getElem?_eq_getElem hlt) h2⟩
  -- a frozen slice
  have hfro : ∀ (i j s ty : Nat) es x, RowAt F w (φ g i j) s ty es x → (∀ b, φ g i j b → Z b) → Fro F' (.sl es) x := by
    intro i j s ty es x hra hz
    cases hra with
    | nil => exact .sl0 _ _
    | row _ _ _ _ b cap C fp xf hs hc hm hl hC hCs hb hx _ _ _ _ =>
      refine .sl es b 0 cap s xf hc hl (fun i' j' e d he hd => ?_) (fun i' j' e d he hd => (hx i' j' e d he hd).2.1) fun i' j' e d he hd => ((hx i' j' e d he hd).2.2).mono hsub
      rw [hZF b _ (hz b hb)]
      simp [World.cell?, hC, (hx i' j' e d he hd).1]
  refine ⟨F', ?_⟩
  refine h.recast hg hfz hL (on := { o with es := es' }) hfz hgo ⟨e1, e2, by simp only [he.1]; exact e3, e4, fun e hm => ?_, ?_⟩ (fun t => (h.env t).mono hsub (Bsub.refl _)) (Z := Z) (fun b ⟨i, j, _, hb⟩ => ⟨φ, hφ, i, j, hb⟩) hsub hFn (fun b i x hx => ?_) (fun b i x hx => ?_) id rfl fun _ _ => ?_
  · obtain ⟨i, hi⟩ := List.getElem?_of_mem hm
    obtain ⟨e0, k1, k2, _⟩ := each_get he hi
    rw [k2]; exact e5 e0 (List.mem_of_getElem? k1)
  · cases hb : L.b with
    | none => rw [hb] at e6; exact e6
    | some b =>
      rw [hb] at e6
      obtain ⟨C, hC, hCs, hcell⟩ := e6
      refine ⟨C, hC, hCs, fun i j e c' h1 h2 => ?_⟩
      obtain ⟨e0, c, k1, k2, k3⟩ := hcel i j e c' h1 h2
      obtain ⟨x, x1, x2, x3⟩ := hcell i j e0 c k1 k2
      refine ⟨x, x1, x2, ?_⟩
      rcases k3 with rfl | ⟨s, ty, es, rfl, _, rfl⟩
      · split at x3
        · rename_i hv; rw [if_pos hv]; exact x3.mono hsub (Bsub.refl _)
        · rename_i hv; rw [if_neg hv]; exact x3.mono hsub
      · have hra := hφ.row g v o L b C i j e0 x s ty es hr hg hfz hL hb hC k1 k2 x1
        have hf := hfro i j s ty es x hra (fun b' hb' => ⟨i, j, ⟨e, es, h1, h2⟩, hb'⟩)
        split
        · exact Cel.of_fro hf
        · exact hf
  · by_cases hz : Z b
    · rw [hZF b i hz] at hx; exact hx
    · rw [hFn b i hz] at hx; exact h.frz b i x hx
  · by_cases hz : Z b
    · obtain ⟨i', j', _, hb⟩ := hz
      exact hφ.lt g i' j' b hb
    · rw [hFn b i hz] at hx; exact h.fin b i x hx
  · have hnZ : ∀ k i j b, φ k i j b → ¬ (k = g ∧ Fc i j) → ¬ Z b := by
      rintro k i j b hb hn ⟨i', j', hf, hb'⟩
      obtain ⟨rfl, rfl, rfl⟩ := hφ.dis _ _ _ _ _ _ _ hb hb'
      exact hn ⟨rfl, hf⟩
    refine ⟨fun k i j b => φ k i j b ∧ ¬ (k = g ∧ Fc i j), ?_, ?_, fun k i j b hb m => ?_, fun k i j b hb => hφ.lt k i j b hb.1, fun k i j b hb => hφ.new k i j b hb.1, fun k i j b g' v' o' L' hb hg' hf' hL' => ?_, fun k i j k' i' j' b h1 h2 => hφ.dis _ _ _ _ _ _ _ h1.1 h2.1⟩
    · intro k u q L1 b C i j e x s ty es hrk hk hf hL1 hb hC hei hj hx
      rcases hgo k u q hk with ⟨rfl, rfl, rfl⟩ | ⟨n1, _, hk⟩
      · obtain ⟨e0, c, k1, k2, k3⟩ := hcel i j e _ hei hj
        rcases k3 with rfl | ⟨_, _, _, _, _, heq⟩
        · refine (hφ.row k u o L1 b C i j e0 x s ty es hrk hg hfz hL1 hb hC k1 k2 hx).keep hsub (fun _ _ => rfl) (fun b hb => ⟨hb, ?_⟩)
          rintro ⟨_, e'', es'', z1, z2⟩
          rw [hei] at z1; cases z1
          rw [hj] at z2; cases z2
        · cases heq
      · exact (hφ.row k u q L1 b C i j e x s ty es hrk hk hf hL1 hb hC hei hj hx).keep hsub (fun _ _ => rfl) (fun b hb => ⟨hb, fun e => n1 e.1⟩)
    · intro k u q L1 b C i j e x u' n' hrk hk hf hL1 hb hC hei hj hx
      rcases hgo k u q hk with ⟨rfl, rfl, rfl⟩ | ⟨n1, _, hk⟩
      · obtain ⟨e0, c, k1, k2, k3⟩ := hcel i j e _ hei hj
        rcases k3 with rfl | ⟨_, _, _, _, _, heq⟩
        · exact (hφ.hole k u o L1 b C i j e0 x u' n' hrk hg hfz hL1 hb hC k1 k2 hx).mono hsub (Bsub.refl _)
        · cases heq
      · exact (hφ.hole k u q L1 b C i j e x u' n' hrk hk hf hL1 hb hC hei hj hx).mono hsub (Bsub.refl _)
    · rw [hFn b m (hnZ k i j b hb.1 hb.2)]
      exact hφ.none_ k i j b hb.1 m
    · rcases hgo g' v' o' hg' with ⟨rfl, rfl, rfl⟩ | ⟨_, _, hk⟩
      · exact hφ.sep k i j b g' v' o L' hb.1 hg hfz hL'
      · exact hφ.sep k i j b g' v' o' L' hb.1 hk hf' hL'

theorem frO_go (g v : Nat) (z : D) (e : List (Nat × D)) (n : Nat) : ∀ (o : List (Nat × Obj?)) (k : Nat), (S.mk e (o.map fun p => (p.1, frO g v z p.2)) n).go k = frO g v z ((S.mk e o n).go k) := by
  intro o k
  simp only [S.go]
  induction o with
  | nil => simp [look, frO]
  | cons p o ih =>
    simp only [List.map_cons, look]
    split
    · rfl
    · exact ih
theorem cells_frp (g v : Nat) (z : D) (e : D) : (cells (frp g v z e)).length = (cells e).length ∧ ∀ j : Nat, (cells (frp g v z e))[j]? = ((cells e)[j]?).map (frp g v z) := by
  cases e with
  | agg cs => exact ⟨by simp [frp, cells, frps_map], fun j => by simp [frp, cells, frps_map]⟩
  | optr k u i off =>
    simp only [frp]
    cases hb : (Nat.beq k g && Nat.beq u v && Nat.beq i 0) with
    | false => exact ⟨rfl, fun j => by rcases j with _ | j <;> simp [cells, frp, hb]⟩
    | true => exact ⟨rfl, fun j => by rcases j with _ | j <;> simp [cells, frp, hb]⟩
  | _ => exact ⟨rfl, fun j => by rcases j with _ | j <;> simp [cells, frp]⟩
theorem frp_row {g v : Nat} {z d : D} : (∀ s ty es, frp g v z d = .row s ty es → d = .row s ty es) ∧ ∀ u n, frp g v z d = .hole u n → d = .hole u n := by
  cases d with
  | optr k u i off =>
    simp only [frp]
    cases hb : (Nat.beq k g && Nat.beq u v && Nat.beq i 0) with
    | false => exact ⟨fun _ _ _ e => (by cases e), fun _ _ e => (by cases e)⟩
    | true => exact ⟨fun _ _ _ e => (by cases e), fun _ _ e => (by cases e)⟩
  | _ => exact ⟨fun _ _ _ e => (by first | exact e | cases e), fun _ _ e => (by first | exact e | cases e)⟩

open Classical in
theorem rw_fvar (h : Sim N w0 F0 M B0 σ F β a w) {g v : Nat} {o : Own} {z : D} (hg : σ.go g = some (v, o)) (hfz : o.fz = false) (hvar : o.var = true) (hz : o.es = [z]) (hc : (cells z).all isFro = true) :
    ∃ F', Sim N w0 F0 M B0 ⟨σ.e.map (fun p => (p.1, frp g v z p.2)), (g, none) :: σ.o.map (fun p => (p.1, frO g v z p.2)), σ.n⟩ F' β a w := by
  obtain ⟨L, hL, _, hk⟩ := h.own g v o hg
  obtain ⟨e1, e2, e3, e4, e5, e6⟩ := hk hfz
  let Z : Nat → Prop := fun b => L.b = some b
  let F' : Fz := fun b i => if Z b then w.cell? ⟨b, i, none⟩ else F b i
  have hZF : ∀ b i, Z b → F' b i = w.cell? ⟨b, i, none⟩ := fun b i hz => if_pos hz
  have hFn : ∀ b i, ¬ Z b → F' b i = F b i := fun b i hz => if_neg hz
  have hsep := fun b hb => h.sep g v o L b hg hfz hL hb
  have hsub : Fsub F F' := by
    intro b i x hx
    by_cases hzb : Z b
    · rw [(hsep b hzb).1 i] at hx; cases hx
    · rw [hFn b i hzb]; exact hx
  have hfr : FrAt F' β v z := by
    refine ⟨fun L' b off hL' hb => ?_⟩
    rw [hL] at hL'; cases hL'
    rw [hb] at e6
    obtain ⟨C, hC, hCs, hcell⟩ := e6
    have hx : ∀ (j : Nat) d, (cells z)[j]? = some d → ∃ x, C[j]? = some x ∧ x.oneCell' = true ∧ Fro F d x := by
      intro j d hd
      obtain ⟨x, x1, x2, x3⟩ := hcell 0 j z d (by rw [hz]; rfl) hd
      rw [if_pos hvar] at x3
      have hf := List.all_eq_true.1 hc d (List.mem_of_getElem? hd)
      refine ⟨x, by simpa using x1, x2, ?_⟩
      cases d <;> first | (cases hf; done) | exact x3
    have := Fro.fptr (F := F') z b 0 off (fun j => (C[j]?).getD undef) (fun j d hd => by
        obtain ⟨x, x1, _, _⟩ := hx j d hd
        rw [hZF b _ hb]
        simp [World.cell?, hC, x1]) (fun j d hd => by
        obtain ⟨x, x1, x2, _⟩ := hx j d hd
        rw [x1]; exact x2) (fun j d hd => by
        obtain ⟨x, x1, _, x3⟩ := hx j d hd
        rw [x1]; exact x3.mono hsub)
    simpa using this
  have hgo : ∀ k u q, (S.mk (σ.e.map (fun p => (p.1, frp g v z p.2))) ((g, none) :: σ.o.map (fun p => (p.1, frO g v z p.2))) σ.n).go k = some (u, q) → k ≠ g ∧ ∃ q0, σ.go k = some (u, q0) ∧ q = { q0 with es := bif q0.var then q0.es.map (frp g v z) else q0.es } := by
    intro k u q hk
    rw [go_cons] at hk
    split at hk
    · cases hk
    · rename_i n1
      rw [frO_go] at hk
      have : (S.mk (σ.e.map (fun p => (p.1, frp g v z p.2))) σ.o σ.n).go k = σ.go k := rfl
      rw [this] at hk
      cases hs : σ.go k with
      | none => rw [hs] at hk; cases hk
      | some p =>
        obtain ⟨u', q0⟩ := p
        rw [hs] at hk
        simp only [frO, Option.some.injEq, Prod.mk.injEq] at hk
        exact ⟨n1, q0, by rw [← hk.1], hk.2.symm⟩
  have hsame : ∀ (q0 : Own), q0.var = false → ({ q0 with es := bif q0.var then q0.es.map (frp g v z) else q0.es } : Own) = q0 := by
    intro q0 hv; cases q0; simp only at hv; subst hv; rfl
  have hne : ∀ k u q L' b, k ≠ g → σ.go k = some (u, q) → q.fz = false → β u = some L' → L'.b = some b → ¬ Z b := by
    intro k u q L' b hn hk hf hL' hb hzb
    exact hn (h.dist k g u v q o L' L b hk hg hf hfz hL' hL hb hzb)
  refine ⟨F', ?_⟩
  refine { nam := h.nam, size := h.size, defers := h.defers, env := fun t => ?_, own := ?_, dist := ?_, sep := ?_, rich := ?_, frz := ?_, fin := ?_, step := ?_ }
  · rw [ge_map (frp g v z) rfl]
    exact env_frp hfr ((h.env t).mono hsub (Bsub.refl _))
  · intro k u q hk
    obtain ⟨n1, q0, hk0, rfl⟩ := hgo k u q hk
    obtain ⟨L', hL', hzz, hkk⟩ := h.own k u q0 hk0
    refine ⟨L', hL', fun hf => ?_, fun hf => ?_⟩
    · have h1 := (hzz hf)
      rw [hsame q0 h1.1]
      exact h1.mono hsub
    · have h1 := hkk hf
      cases hv : q0.var with
      | false => 
        have := hsame q0 hv
        rw [hv] at this
        rw [this]
        exact h1.keep hsub (Bsub.refl _) (fun _ _ => rfl)
      | true =>
        obtain ⟨f1, f2, f3, f4, f5, f6⟩ := h1
        refine ⟨f1, f2, by simpa using f3, by simpa [hv] using f4, fun e he => ?_, ?_⟩
        · simp only [cond_true, List.mem_map] at he
          obtain ⟨e0, k1, rfl⟩ := he
          rw [(cells_frp g v z e0).1]
          exact f5 e0 k1
        · cases hb : L'.b with
          | none => rw [hb] at f6; exact ⟨f6.1, by rw [hv] at f6; exact f6.2⟩
          | some b =>
            rw [hb] at f6
            obtain ⟨C, hC, hCs, hcell⟩ := f6
            refine ⟨C, hC, hCs, fun i j e d he hd => ?_⟩
            simp only [cond_true, List.getElem?_map, Option.map_eq_some_iff] at he
            obtain ⟨e0, k1, rfl⟩ := he
            rw [(cells_frp g v z e0).2, Option.map_eq_some_iff] at hd
            obtain ⟨d0, k2, rfl⟩ := hd
            obtain ⟨x, x1, x2, x3⟩ := hcell i j e0 d0 k1 k2
            rw [if_pos hv] at x3
            exact ⟨x, x1, x2, by simpa using cel_frp hfr (x3.mono hsub (Bsub.refl _))⟩
  · intro k k' u u' q q' L1 L2 b hk hk' hf hf' hL1 hL2 hb1 hb2
    obtain ⟨n1, q0, hk0, rfl⟩ := hgo k u q hk
    obtain ⟨n1', q0', hk0', rfl⟩ := hgo k' u' q' hk'
    exact h.dist k k' u u' q0 q0' L1 L2 b hk0 hk0' hf hf' hL1 hL2 hb1 hb2
  · intro k u q L' b hk hf hL' hb
    obtain ⟨n1, q0, hk0, rfl⟩ := hgo k u q hk
    obtain ⟨s1, s2, s3⟩ := h.sep k u q0 L' b hk0 hf hL' hb
    exact ⟨fun i => by rw [hFn b i (hne k u q0 L' b n1 hk0 hf hL' hb)]; exact s1 i, s2, s3⟩
  · obtain ⟨φ, hφ⟩ := h.rich
    have hφZ : ∀ k i j b, φ k i j b → ¬ Z b := fun k i j b hb hzb => hφ.sep k i j b g v o L hb hg hfz hL hzb
    refine ⟨φ, hφ.keep hsub (Bsub.refl _) (Nat.le_refl _) (fun k i j b hb m => hFn b m (hφZ k i j b hb)) (fun _ _ _ _ _ => rfl) (fun k u q hk => ?_) (fun k u q hrk hk hf => .inl ?_) (fun k i j b k' u' q' L' hb hk' hf' hL' => ?_)⟩
    · obtain ⟨L, hL, _⟩ := h.own k u q hk
      exact ⟨L, hL⟩
    · obtain ⟨n1, q0, hk0, rfl⟩ := hgo k u q hk
      refine ⟨q0, hk0, hf, rfl, rfl, fun i j e c he hj hp => ⟨?_, fun L b C x _ _ hC hx => ⟨C, hC, hx⟩⟩⟩
      cases hv : q0.var with
      | false => simp only [hv, cond_false] at he; exact ⟨e, he, hj⟩
      | true =>
        simp only [hv, cond_true, List.getElem?_map, Option.map_eq_some_iff] at he
        obtain ⟨e0, k1, rfl⟩ := he
        rw [(cells_frp g v z e0).2, Option.map_eq_some_iff] at hj
        obtain ⟨d0, k2, k3⟩ := hj
        have hrr := frp_row (g := g) (v := v) (z := z) (d := d0)
        refine ⟨e0, k1, ?_⟩
        cases c <;> first | (cases hp; done) | skip
        · rw [hrr.1 _ _ _ k3] at k2; exact k2
        · rw [hrr.2 _ _ k3] at k2; exact k2
    · obtain ⟨n1, q0, hk0, rfl⟩ := hgo k' u' q' hk'
      exact hφ.sep k i j b k' u' q0 L' hb hk0 hf' hL'
  · intro b i x hx
    by_cases hzb : Z b
    · rw [hZF b i hzb] at hx; exact hx
    · rw [hFn b i hzb] at hx; exact h.frz b i x hx
  · intro b i x hx
    by_cases hzb : Z b
    · exact (hsep b hzb).2.1
    · rw [hFn b i hzb] at hx; exact h.fin b i x hx
  · refine ⟨h.step.os, h.step.tape, h.step.output, h.step.size, h.step.block, h.step.sub.trans hsub, fun b i hb hM => ?_⟩
    rw [← h.step.old b i hb hM]
    refine hFn b i fun hzb => ?_
    rcases (hsep b hzb).2.2 with h1 | h1
    · omega
    · exact hM h1.1

theorem Sim.rw {τ : S} (h : Sim N w0 F0 M B0 σ F β a w) (hf : ∀ v, σ.n ≤ v → β v = none) (hw : Rw σ τ) : ∃ F' β', Sim N w0 F0 M B0 τ F' β' a w ∧ ∀ v, τ.n ≤ v → β' v = none := by
  cases hw with
  | close g v i off g' v' m og o' c hg hr hfz hi hc hh hg' hfz' hvar hm hp hne => exact ⟨F, β, rw_close h hg hr hfz hi hc hh hg' hfz' hvar hm hp hne, hf⟩
  | enrich g g2 v o es' hg hfz hn he => exact ⟨F, β, rw_enrich h hg hfz hn he, hf⟩
  | frows g v o es' hg hr hfz he => exact (rw_frows h hg hr hfz he).imp fun F' h => ⟨β, h, hf⟩
  | nilsl g v o hg hr hfz hvar => exact ⟨F, β, rw_nilsl h hg hr hfz hvar, hf⟩
  | fvar g v o z hg hfz hvar hz hc => exact (rw_fvar h hg hfz hvar hz hc).imp fun F' h => ⟨β, h, hf⟩
  | opn g v i off t s ty es o hg hr hfz hvar hi hrow hne =>
    obtain ⟨L, h'⟩ := opn_ok h (hf σ.n (Nat.le_refl _)) hg hr hfz hvar hi hrow hne (σ.n + 1)
    refine ⟨F, _, h', fun v hv => ?_⟩
    have hv' : σ.n + 1 ≤ v := hv
    simp only [upB]
    rw [if_neg (by omega)]
    exact hf v (by omega)

end
end Go.Dw
