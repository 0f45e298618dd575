/-
  THE LAYER Dw, PART 7: operations that make or write own memory.
-/
import Derived.Test.YtlphpepmbcbmiaaDw6
import Derived.Maps.AppendAt
import Derived.Laws.AppendOwnNone
import Derived.Great.BuildSlice
namespace Go.Dw

theorem S.go_app (σ : S) (u : Out) (g : Nat) : (σ.app u).go g = match look u.wo g with | some x => x | none => σ.go g := by
  simp only [S.go, S.app, look_append]
  cases look u.wo g <;> rfl

section
variable {N : Nat} {w0 : World} {F0 : Fz} {M : Nat → Prop} {B0 : Bt} {σ : S} {F : Fz} {β : Bt} {a : Act} {w : World}

theorem Sim.change (h : Sim N w0 F0 M B0 σ F β a w) {w' : World} {row : Nat → Prop} {F' : Fz} {β' : Bt} {σ' : S} {a' : Act}
    (hos : w'.os = w.os) (htape : w'.tape = w.tape) (hout : w'.output = w.output) (hsz : w.heap.size ≤ w'.heap.size)
    (hblock : ∀ b, b < w.heap.size → ¬ row b → w'.heap[b]? = w.heap[b]?)
    (hrow : ∀ b, row b → w0.heap.size ≤ b ∨ M b)
    (hF : Fsub F F') (hFold : ∀ b i, b < w.heap.size → ¬ row b → F' b i = F b i) (hfrz : Fok F' w') (hfin : ∀ b i x, F' b i = some x → b < w'.heap.size)
    (hβ : Bsub β β') (ha : a'.tmps.size = N) (hd : a'.defers = []) (henv : ∀ t, Env F' β' (σ'.ge t) (a'.tmps.getD t undef))
    (hown : ∀ g v o, σ'.go g = some (v, o) →
      (σ.go g = some (v, o) ∧ ∀ L b, o.fz = false → β v = some L → L.b = some b → ¬ row b) ∨
      (∃ L, β' v = some L ∧ o.fz = false ∧ OwnOK F' β' w' L o ∧ ∀ b, L.b = some b → (∀ i, F' b i = none) ∧ b < w'.heap.size ∧ (w0.heap.size ≤ b ∨ (M b ∧ (o.var = true ∨ Dw.rich g = true))) ∧ (row b ∨ w.heap.size ≤ b)))
    (huniq : ∀ g g' v v' o o' L L' b, σ'.go g = some (v, o) → σ'.go g' = some (v', o') → o.fz = false → o'.fz = false → β' v = some L → β' v' = some L' → L.b = some b → L'.b = some b → (row b ∨ w.heap.size ≤ b) → g = g')
    (hrich : ∀ φ, RichOK F β w0.heap.size M σ w φ → ∃ φ', RichOK F' β' w0.heap.size M σ' w' φ') :
    Sim N w0 F0 M B0 σ' F' β' a' w' := by
  refine { nam := h.nam.trans hβ, size := ha, defers := hd, env := henv, own := ?_, dist := ?_, sep := ?_, rich := ?_, frz := hfrz, fin := hfin, step := ?_ }
  · intro g v o hg
    rcases hown g v o hg with ⟨h1, h2⟩ | ⟨L, h1, h2, h3, _⟩
    · obtain ⟨L, hL, hz, hk⟩ := h.own g v o h1
      refine ⟨L, hβ _ _ hL, fun hf => (hz hf).mono hF, fun hf => (hk hf).keep hF hβ (fun b hb => ?_)⟩
      exact hblock b (h.sep g v o L b h1 hf hL hb).2.1 (h2 L b hf hL hb)
    · exact ⟨L, h1, (fun hf => by rw [h2] at hf; cases hf), fun _ => h3⟩
  · intro g g' v v' o o' L L' b hg hg' hf hf' hL hL' hb hb'
    by_cases hr : row b ∨ w.heap.size ≤ b
    · exact huniq g g' v v' o o' L L' b hg hg' hf hf' hL hL' hb hb' hr
    · rcases hown g v o hg with ⟨h1, _⟩ | ⟨L1, k1, _, _, k4⟩
      · rcases hown g' v' o' hg' with ⟨h1', _⟩ | ⟨L1, k1, _, _, k4⟩
        · obtain ⟨L2, e2, _⟩ := h.own g v o h1
          obtain ⟨L3, e3, _⟩ := h.own g' v' o' h1'
          have := hβ _ _ e2; rw [hL] at this; cases this
          have := hβ _ _ e3; rw [hL'] at this; cases this
          exact h.dist g g' v v' o o' _ _ b h1 h1' hf hf' e2 e3 hb hb'
        · rw [hL'] at k1; cases k1
          exact absurd (k4 b hb').2.2.2 hr
      · rw [hL] at k1; cases k1
        exact absurd (k4 b hb).2.2.2 hr
  · intro g v o L b hg hf hL hb
    rcases hown g v o hg with ⟨h1, h2⟩ | ⟨L1, k1, _, _, k4⟩
    · obtain ⟨L2, e2, _⟩ := h.own g v o h1
      have := hβ _ _ e2; rw [hL] at this; cases this
      obtain ⟨s1, s2, s3⟩ := h.sep g v o L b h1 hf e2 hb
      exact ⟨fun i => by rw [hFold b i s2 (h2 _ b hf e2 hb)]; exact s1 i, Nat.lt_of_lt_of_le s2 hsz, s3⟩
    · rw [hL] at k1; cases k1
      exact ⟨(k4 b hb).1, (k4 b hb).2.1, (k4 b hb).2.2.1⟩
  · obtain ⟨φ, hφ⟩ := h.rich
    exact hrich φ hφ
  · refine ⟨hos.trans h.step.os, htape.trans h.step.tape, hout.trans h.step.output, Nat.le_trans h.step.size hsz, fun b hb hM => ?_, h.step.sub.trans hF, fun b i hb hM => ?_⟩
    · rw [hblock b (Nat.lt_of_lt_of_le hb h.step.size) (fun hr => (hrow b hr).elim (fun e => by omega) hM)]
      exact h.step.block b hb hM
    · rw [hFold b i (Nat.lt_of_lt_of_le hb h.step.size) (fun hr => (hrow b hr).elim (fun e => by omega) hM)]
      exact h.step.old b i hb hM

theorem act_size {a : Act} (dst : Option Nat) (v : Value) : (a.put dst v).tmps.size = a.tmps.size := by cases dst <;> simp [Act.put]
theorem act_defers {a : Act} (dst : Option Nat) (v : Value) : (a.put dst v).defers = a.defers := by cases dst <;> rfl

theorem Sim.env_put (h : Sim N w0 F0 M B0 σ F β a w) {F' : Fz} {β' : Bt} (hF : Fsub F F') (hβ : Bsub β β') {c : Prop} {dst : Option Nat} {d : D} {v : Value} {wo : List (Nat × Obj?)} (hd : ∀ t, dst = some t → t < N) (hv : Env F' β' d v) (t : Nat) :
    Env F' β' ((σ.app ⟨c, put1 dst d, wo⟩).ge t) ((a.put dst v).tmps.getD t undef) := by
  rw [S.ge_app, put_tmps]
  by_cases hdt : dst = some t
  · rw [if_pos hdt, if_pos ⟨hdt, by rw [h.size]; exact hd t hdt⟩]
    exact hv
  · rw [if_neg hdt, if_neg (fun e => hdt e.1)]
    exact (h.env t).mono hF hβ

/-- a name more -/
def upB (β : Bt) (nv : Nat) (L : Loc) : Bt := fun v => if v = nv then some L else β v
theorem upB_self (β : Bt) (nv : Nat) (L : Loc) : upB β nv L nv = some L := if_pos rfl
theorem upB_ne (β : Bt) {nv v : Nat} (L : Loc) (h : v ≠ nv) : upB β nv L v = β v := if_neg h
theorem upB_sub {β : Bt} {nv : Nat} (L : Loc) (h : β nv = none) : Bsub β (upB β nv L) := by
  intro v L' hv
  by_cases e : v = nv
  · subst e; rw [h] at hv; cases hv
  · rw [upB_ne _ _ e]; exact hv

theorem S.go_new (σ : S) {c : Prop} {we : List (Nat × D)} {t nv : Nat} {o : Own} (g : Nat) : (σ.app ⟨c, we, putO (some t) (some (nv, o))⟩).go g = if g = t then some (nv, o) else σ.go g := by
  rw [S.go_app]
  simp only [putO, look]
  split
  · rename_i x hx
    split at hx
    · cases hx; rename_i e; rw [if_pos e]
    · cases hx
  · rename_i hx
    split at hx
    · cases hx
    · rename_i e; rw [if_neg e]

/-- a new object in a new block -/
theorem Sim.alloc (h : Sim N w0 F0 M B0 σ F β a w) {nv t : Nat} {tt : Nat} (hnv : β nv = none) (htt : tt < N) {c : Prop} {C : Array Value} {o : Own} {cap : Nat} {d : D} {v : Value} {w1 : World} (hh : w1.heap = w.heap) (hos : w1.os = w.os) (htape : w1.tape = w.tape) (hout : w1.output = w.output)
    (hfz : o.fz = false) (hrp : Dw.rich t = true → ∀ e ∈ o.es, plainE e = true) (hown : OwnOK F (upB β nv ⟨some w.heap.size, cap, o.s⟩) (w1.alloc (.cells C o.ty)) ⟨some w.heap.size, cap, o.s⟩ o) (hv : Env F (upB β nv ⟨some w.heap.size, cap, o.s⟩) d v) :
    Sim N w0 F0 M B0 (σ.app ⟨c, put1 (some tt) d, putO (some t) (some (nv, o))⟩) F (upB β nv ⟨some w.heap.size, cap, o.s⟩) (a.put (some tt) v) (w1.alloc (.cells C o.ty)) := by
  have hβ := upB_sub (β := β) (nv := nv) ⟨some w.heap.size, cap, o.s⟩ hnv
  have hsize : (w1.alloc (.cells C o.ty)).heap.size = w.heap.size + 1 := by simp [World.alloc, hh]
  have hblk : ∀ b, b < w.heap.size → (w1.alloc (.cells C o.ty)).heap[b]? = w.heap[b]? := by
    intro b hb
    rw [heap_alloc_old w1 _ (by rw [hh]; exact hb), hh]
  refine h.change (row := fun _ => False) hos htape hout (by omega) (fun b hb _ => hblk b hb) (fun _ hr => hr.elim) (Fsub.refl _) (fun _ _ _ _ => rfl) ?_ ?_ hβ (by rw [act_size]; exact h.size) (by rw [act_defers]; exact h.defers)
    (h.env_put (Fsub.refl _) hβ (fun t' e => by cases e; exact htt) hv) ?_ ?_ ?_
  · intro b i x hx
    have hb := h.fin b i x hx
    rw [World.cell?_of_block (w := w) (hblk b hb)]
    exact h.frz b i x hx
  · intro b i x hx
    have := h.fin b i x hx
    omega
  · intro g v' o' hg
    rw [S.go_new] at hg
    split at hg
    · cases hg
      refine .inr ⟨_, upB_self _ _ _, hfz, hown, fun b hb => ?_⟩
      cases hb
      refine ⟨fun i => ?_, by omega, .inl h.step.size, .inr (Nat.le_refl _)⟩
      cases hF : F w.heap.size i with
      | none => rfl
      | some x => have := h.fin _ _ _ hF; omega
    · exact .inl ⟨hg, fun _ _ _ _ _ => id⟩
  · intro g g' v1 v2 o1 o2 L1 L2 b hg hg' hf hf' hL hL' hb hb' hr
    have hr' : w.heap.size ≤ b := hr.resolve_left id
    have key : ∀ g v o' L, (σ.app ⟨c, put1 (some tt) d, putO (some t) (some (nv, o))⟩).go g = some (v, o') → o'.fz = false → upB β nv ⟨some w.heap.size, cap, o.s⟩ v = some L → L.b = some b → g = t := by
      intro g v o' L hg hfz' hL hb
      rw [S.go_new] at hg
      split at hg
      · assumption
      · exfalso
        obtain ⟨L0, e0, _⟩ := h.own g v o' hg
        have := hβ _ _ e0
        rw [hL] at this; cases this
        have := (h.sep g v o' L b hg hfz' e0 hb).2.1
        omega
    rw [key g v1 o1 L1 hg hf hL hb, key g' v2 o2 L2 hg' hf' hL' hb']
  · intro φ hφ
    refine ⟨φ, hφ.keep (Fsub.refl _) hβ (by omega) (fun _ _ _ _ _ _ => rfl) (fun g i j b hb => hblk b (hφ.lt g i j b hb)) (fun g v o hg => ?_) (fun g v' o' hr hg hf => ?_) (fun g i j b g' v' o' L' hb hg hf hL' hLb => ?_)⟩
    · obtain ⟨L, hL, _⟩ := h.own g v o hg
      exact ⟨L, hL⟩
    · rw [S.go_new] at hg
      split at hg
      · rename_i e
        cases hg
        exact .inr (hrp (by rw [← e]; exact hr))
      · refine .inl ⟨o', hg, hf, rfl, rfl, fun i j e c he hj _ => ⟨⟨e, he, hj⟩, fun L b C x hL hb hC hx => ⟨C, ?_, hx⟩⟩⟩
        rw [hblk b (h.sep g v' o' L b hg hf hL hb).2.1] at hC
        exact hC
    · rw [S.go_new] at hg
      split at hg
      · cases hg
        rw [upB_self] at hL'; cases hL'
        cases hLb
        have := hφ.lt g i j _ hb
        omega
      · obtain ⟨L0, e0, _⟩ := h.own g' v' o' hg
        have := hβ _ _ e0
        rw [hL'] at this; cases this
        exact hφ.sep g i j b g' v' o' L' hb hg hf e0 hLb

/-- the cells of a list of values -/
def flat (vs : List Value) : List Value := vs.flatMap fun v => v.cells.toList

theorem flat_get {vs : List Value} {s : Nat} (h : ∀ v ∈ vs, v.cells.size = s) : ∀ (i j : Nat) v x, vs[i]? = some v → v.cells[j]? = some x → (flat vs)[i * s + j]? = some x := by
  induction vs with
  | nil => intro i j v x hv; simp at hv
  | cons u vs ih =>
    intro i j v x hv hx
    have hu := h u (by simp)
    simp only [flat, List.flatMap_cons]
    rcases i with _ | i
    · simp only [List.getElem?_cons_zero, Option.some.injEq] at hv
      subst hv
      have hj : j < u.cells.toList.length := by simpa using (Array.getElem?_eq_some_iff.1 hx).1
      rw [Nat.zero_mul, Nat.zero_add, List.getElem?_append_left hj]
      simpa using hx
    · simp only [List.getElem?_cons_succ] at hv
      have hge : u.cells.toList.length ≤ (i + 1) * s + j := by rw [Array.length_toList, hu, Nat.add_mul]; omega
      rw [List.getElem?_append_right hge, Array.length_toList, hu]
      have := ih (fun v hv => h v (by simp [hv])) i j v x hv hx
      have e : (i + 1) * s + j - s = i * s + j := by rw [Nat.add_mul]; omega
      rw [e]
      exact this
theorem flat_length {vs : List Value} {s : Nat} (h : ∀ v ∈ vs, v.cells.size = s) : (flat vs).length = vs.length * s := by
  induction vs with
  | nil => simp [flat]
  | cons u vs ih =>
    simp only [flat, List.flatMap_cons, List.length_append, Array.length_toList, List.length_cons]
    have := ih (fun v hv => h v (by simp [hv]))
    simp only [flat] at this
    rw [this, h u (by simp), Nat.add_mul]
    omega

end
end Go.Dw
