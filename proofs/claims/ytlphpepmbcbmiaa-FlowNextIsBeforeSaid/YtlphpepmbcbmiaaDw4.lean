/-
  THE LAYER Dw, PART 4: states under updates; freezing; data made free of references.
-/
import Derived.Test.YtlphpepmbcbmiaaDw3
namespace Go.Dw

theorem look_append {α : Type} (l r : List (Nat × α)) (t : Nat) : look (l ++ r) t = (look l t).or (look r t) := by
  induction l with
  | nil => simp [look]
  | cons p l ih =>
    obtain ⟨k, x⟩ := p
    simp only [List.cons_append, look]
    split <;> simp [ih]

theorem look_mem {α : Type} {l : List (Nat × α)} {t : Nat} {x : α} (h : look l t = some x) : (t, x) ∈ l := by
  induction l with
  | nil => simp [look] at h
  | cons p l ih =>
    obtain ⟨k, y⟩ := p
    simp only [look] at h
    split at h
    · rename_i e; cases h; subst e; simp
    · exact List.mem_cons_of_mem _ (ih h)

theorem look_none {α : Type} {l : List (Nat × α)} {t : Nat} (h : look l t = none) : ∀ x, (t, x) ∉ l := by
  induction l with
  | nil => intro x hx; cases hx
  | cons p l ih =>
    obtain ⟨k, y⟩ := p
    simp only [look] at h
    split at h
    · cases h
    · rename_i hne
      intro x hx
      cases hx with
      | head => exact hne rfl
      | tail _ hx => exact ih h x hx

theorem FzList.nil (σ : S) : FzList σ [] := fun _ h => by cases h
theorem FzList.append {σ : S} {a b : List (Nat × Obj?)} (ha : FzList σ a) (hb : FzList σ b) : FzList σ (a ++ b) := fun p hp => (List.mem_append.1 hp).elim (ha p) (hb p)

theorem FzList.go {σ : S} {ws : List (Nat × Obj?)} (h : FzList σ ws) (g : Nat) :
    (∃ v o, σ.go g = some (v, o) ∧ o.var = false ∧ (g, some (v, { o with fz := true })) ∈ ws ∧ (S.mk σ.e (ws ++ σ.o) σ.n).go g = some (v, { o with fz := true })) ∨
    ((∀ x, (g, x) ∉ ws) ∧ (S.mk σ.e (ws ++ σ.o) σ.n).go g = σ.go g) := by
  simp only [S.go, look_append]
  cases hl : look ws g with
  | none => exact .inr ⟨look_none hl, by simp⟩
  | some x =>
    obtain ⟨v, o, h1, h2, h3⟩ := h _ (look_mem hl)
    refine .inl ⟨v, o, h1, h2, ?_, ?_⟩
    · have := look_mem hl
      simp only at h3
      rw [← h3]; exact this
    · simp only at h3
      simp [h3]

section
variable {N : Nat} {w0 : World} {F0 : Fz} {M : Nat → Prop} {B0 : Bt} {σ : S} {F : Fz} {β : Bt} {a : Act} {w : World}

open Classical in
theorem Sim.freeze (h : Sim N w0 F0 M B0 σ F β a w) {ws : List (Nat × Obj?)} (hw : FzList σ ws) : ∃ F', Fsub F F' ∧ Sim N w0 F0 M B0 ⟨σ.e, ws ++ σ.o, σ.n⟩ F' β a w ∧ ∀ φ, RichOK F β w0.heap.size M σ w φ → RichOK F' β w0.heap.size M ⟨σ.e, ws ++ σ.o, σ.n⟩ w φ := by
  let G : Nat → Prop := fun b => ∃ g v o L, σ.go g = some (v, o) ∧ o.var = false ∧ o.fz = false ∧ β v = some L ∧ L.b = some b ∧ ∃ x, (g, x) ∈ ws
  let F' : Fz := fun b i => if G b then w.cell? ⟨b, i, none⟩ else F b i
  have hsub : Fsub F F' := by
    intro b i x hx
    show (if G b then w.cell? ⟨b, i, none⟩ else F b i) = some x
    split
    · exact h.frz b i x hx
    · exact hx
  have hG : ∀ b, G b → b < w.heap.size ∧ (w0.heap.size ≤ b ∨ M b) := by
    rintro b ⟨g, v, o, L, h1, h2, h3, h4, h5, _⟩
    obtain ⟨_, hb, hor⟩ := h.sep g v o L b h1 h3 h4 h5
    exact ⟨hb, hor.imp id And.left⟩
  have hrk : ∀ φ, RichOK F β w0.heap.size M σ w φ → RichOK F' β w0.heap.size M ⟨σ.e, ws ++ σ.o, σ.n⟩ w φ := by
    intro φ hφ
    have hGφ : ∀ g i j b, φ g i j b → ¬ G b := by
      rintro g i j b hb ⟨g', v', o', L', q1, q2, q3, q4, q5, _⟩
      exact hφ.sep g i j b g' v' o' L' hb q1 q3 q4 q5
    have hback : ∀ g v o, (S.mk σ.e (ws ++ σ.o) σ.n).go g = some (v, o) → o.fz = false → σ.go g = some (v, o) := by
      intro g v o hg hf
      rcases hw.go g with ⟨_, _, _, _, _, h4⟩ | ⟨h1, h2⟩
      · rw [h4] at hg; cases hg; cases hf
      · rw [← h2]; exact hg
    refine hφ.keep hsub (Bsub.refl _) (Nat.le_refl _) (fun g i j b hb k => ?_) (fun _ _ _ _ _ => rfl) (fun g v o hg => ?_) (fun g v o hr hg hf => .inl ⟨o, hback g v o hg hf, hf, rfl, rfl, fun i j e c he hj _ => ⟨⟨e, he, hj⟩, fun L b C x _ _ hC hx => ⟨C, hC, hx⟩⟩⟩) (fun g i j b g' v' o' L' hb hg hf => hφ.sep g i j b g' v' o' L' hb (hback _ _ _ hg hf) hf)
    · show (if G b then w.cell? ⟨b, k, none⟩ else F b k) = F b k
      rw [if_neg (hGφ g i j b hb)]
    · obtain ⟨L, hL, _⟩ := h.own g v o hg
      exact ⟨L, hL⟩
  refine ⟨F', hsub, ?_, hrk⟩
  refine { nam := h.nam, size := h.size, defers := h.defers, env := fun t => (h.env t).mono hsub (Bsub.refl _), own := ?_, dist := ?_, sep := ?_, rich := ?_, frz := ?_, fin := ?_, step := ?_ }
  · intro g v o hg
    rcases hw.go g with ⟨v', o', h1, h2, h3, h4⟩ | ⟨h1, h2⟩
    · rw [h4] at hg
      cases hg
      obtain ⟨L, hL, hz, hk⟩ := h.own g _ _ h1
      refine ⟨L, hL, fun _ => ?_, fun hf => by cases hf⟩
      cases hfz : o'.fz with
      | true => exact (hz hfz).mono hsub
      | false =>
        obtain ⟨k1, k2, k3, k4, k5, k6⟩ := hk hfz
        refine ⟨h2, k1, k2, k3, k5, ?_⟩
        cases hb : L.b with
        | none =>
          rw [hb] at k6
          have : o'.es.length = 0 := by omega
          exact List.eq_nil_of_length_eq_zero this
        | some b =>
          rw [hb] at k6
          obtain ⟨C, hC, _, hx⟩ := k6
          intro i j e d he hd
          obtain ⟨x, hx1, hx2, hx3⟩ := hx i j e d he hd
          have hGb : G b := ⟨g, _, _, L, h1, h2, hfz, hL, hb, _, h3⟩
          refine ⟨x, ?_, hx2, ?_⟩
          · show (if G b then w.cell? ⟨b, _, none⟩ else F b _) = some x
            rw [if_pos hGb]
            simp [World.cell?, hC, hx1]
          · rw [h2] at hx3
            exact Fro.mono hsub hx3
    · rw [h2] at hg
      obtain ⟨L, hL, hz, hk⟩ := h.own g _ _ hg
      exact ⟨L, hL, fun hf => (hz hf).mono hsub, fun hf => (hk hf).keep hsub (Bsub.refl _) (fun _ _ => rfl)⟩
  · intro g g' v v' o o' L L' b hg hg' hf hf' hL hL' hb hb'
    rcases hw.go g with ⟨_, _, _, _, _, h4⟩ | ⟨_, h2⟩
    · rw [h4] at hg; cases hg; cases hf
    · rcases hw.go g' with ⟨_, _, _, _, _, h4'⟩ | ⟨_, h2'⟩
      · rw [h4'] at hg'; cases hg'; cases hf'
      · rw [h2] at hg; rw [h2'] at hg'
        exact h.dist g g' v v' o o' L L' b hg hg' hf hf' hL hL' hb hb'
  · intro g v o L b hg hf hL hb
    rcases hw.go g with ⟨_, _, _, _, _, h4⟩ | ⟨h1, h2⟩
    · rw [h4] at hg; cases hg; cases hf
    · rw [h2] at hg
      obtain ⟨k1, k2, k3⟩ := h.sep g v o L b hg hf hL hb
      refine ⟨fun i => ?_, k2, k3⟩
      show (if G b then w.cell? ⟨b, i, none⟩ else F b i) = none
      rw [if_neg]
      · exact k1 i
      · rintro ⟨g', v', o', L', q1, q2, q3, q4, q5, x, q6⟩
        have := h.dist g g' v v' o o' L L' b hg q1 hf q3 hL q4 hb q5
        subst this
        exact h1 x q6
  · obtain ⟨φ, hφ⟩ := h.rich
    exact ⟨φ, hrk φ hφ⟩
  · intro b i x hx
    change (if G b then w.cell? ⟨b, i, none⟩ else F b i) = some x at hx
    split at hx
    · exact hx
    · exact h.frz b i x hx
  · intro b i x hx
    change (if G b then w.cell? ⟨b, i, none⟩ else F b i) = some x at hx
    split at hx
    · rename_i hb; exact (hG b hb).1
    · exact h.fin b i x hx
  · refine ⟨h.step.os, h.step.tape, h.step.output, h.step.size, h.step.block, h.step.sub.trans hsub, fun b i hb hM => ?_⟩
    rw [← h.step.old b i hb hM]
    show (if G b then w.cell? ⟨b, i, none⟩ else F b i) = F b i
    rw [if_neg]
    intro hGb
    rcases (hG b hGb).2 with h2 | h2
    · omega
    · exact hM h2

theorem fro_view {F : Fz} {L : Loc} {o : Own} (h : OwnFz F L o) {i n c : Nat} {a : Option Addr} (hin : i + n ≤ o.es.length) (hc : i + n ≤ L.cap)
    (ha : 0 < n → ∃ b, L.b = some b ∧ a = some ⟨b, i * L.s, none⟩) (hcc : n ≤ c) : Fro F (.sl ((o.es.drop i).take n)) (.slice a n c) := by
  rcases Nat.eq_zero_or_pos n with hn | hn
  · subst hn
    simp only [List.take_zero]
    exact .sl0 a c
  · obtain ⟨b, hb, rfl⟩ := ha hn
    obtain ⟨h0, h1, h2, h3, h4, h5⟩ := h
    rw [hb] at h5
    have hlen : ((o.es.drop i).take n).length = n := by simp; omega
    have hsub : ∀ e ∈ (o.es.drop i).take n, e ∈ o.es := fun e he => List.mem_of_mem_drop (List.mem_of_mem_take he)
    have hidx : ∀ (k : Nat) e, ((o.es.drop i).take n)[k]? = some e → o.es[i + k]? = some e := by
      intro k e he
      rw [List.getElem?_take] at he
      split at he
      · rwa [List.getElem?_drop] at he
      · cases he
    have key : ∀ (k j : Nat) e d, ((o.es.drop i).take n)[k]? = some e → (cells e)[j]? = some d → ∃ x, F b ((i + k) * o.s + j) = some x ∧ x.oneCell' = true ∧ Fro F d x :=
      fun k j e d he hd => h5 (i + k) j e d (hidx k e he) hd
    have := Fro.sl (F := F) ((o.es.drop i).take n) b (i * L.s) c o.s (fun k j => (F b ((i + k) * o.s + j)).getD undef) (by omega) (fun e he => h4 e (hsub e he))
      (fun k j e d he hd => by
        obtain ⟨x, hx, _, _⟩ := key k j e d he hd
        have e1 : i * L.s + k * o.s + j = (i + k) * o.s + j := by rw [h1, Nat.add_mul]
        rw [e1, hx]; rfl)
      (fun k j e d he hd => by obtain ⟨x, hx, h1', _⟩ := key k j e d he hd; rw [hx]; exact h1')
      (fun k j e d he hd => by obtain ⟨x, hx, _, h3'⟩ := key k j e d he hd; rw [hx]; exact h3')
    rw [hlen] at this
    exact this

/-- what 'resC' gives -/
theorem resC_ok (h : Sim N w0 F0 M B0 σ F β a w) (d : D) {x : Value} (hx : Cel F β d x) (hc : ((resC d).run σ).1) :
    FzList σ ((resC d).run σ).2.2 ∧ ∀ (ws : List (Nat × Obj?)) F', FzList σ ws → (∀ p ∈ ((resC d).run σ).2.2, p ∈ ws) → Fsub F F' → Sim N w0 F0 M B0 ⟨σ.e, ws ++ σ.o, σ.n⟩ F' β a w → Fro F' ((resC d).run σ).2.1 x := by
  cases d with
  | osl g v i n =>
    simp only [resC, R.run] at hc ⊢
    cases hg : σ.go g with
    | none => rw [hg] at hc; exact hc.elim
    | some p =>
      obtain ⟨v', o⟩ := p
      rw [hg] at hc
      simp only [R.run] at hc ⊢
      obtain ⟨rfl, hvar, hin⟩ := hc
      refine ⟨?_, ?_⟩
      · intro p hp
        simp only [List.mem_singleton] at hp
        subst hp
        exact ⟨v, o, hg, hvar, rfl⟩
      · intro ws F' hws hsub hF hS
        obtain ⟨L, a', hL, rfl, hcap, ha0, ha⟩ := hx
        have hgo : (S.mk σ.e (ws ++ σ.o) σ.n).go g = some (v, { o with fz := true }) := by
          rcases hws.go g with ⟨v2, o2, h1, _, _, h4⟩ | ⟨h1, _⟩
          · rw [hg] at h1; cases h1; exact h4
          · exact absurd (hsub (g, some (v, { o with fz := true })) (by simp)) (h1 _)
        obtain ⟨L', hL', hz, _⟩ := hS.own g _ _ hgo
        rw [hL] at hL'
        cases hL'
        exact fro_view (o := { o with fz := true }) (hz rfl) hin hcap ha (by omega)
  | optr => exact hc.elim
  | when => exact hc.elim
  | tup => exact hc.elim
  | clo f caps =>
    refine ⟨FzList.nil σ, fun _ F' _ _ hF _ => ?_⟩
    obtain ⟨vs, rfl, hl, hv⟩ := hx
    have hc : caps.all isFro = true := hc
    refine .clo f caps vs hl fun j c v hj hjv => ?_
    have h1 := List.all_eq_true.1 hc c (List.mem_of_getElem? hj)
    have h2 := hv j c v hj hjv
    cases c <;> first | (cases h1; done) | exact Fro.mono hF h2
  | agg => exact hc.elim
  | row s ty es => exact ⟨FzList.nil σ, fun _ _ _ _ _ _ => .row s ty es x⟩
  | hole u n => exact ⟨FzList.nil σ, fun _ _ _ _ _ _ => .hole u n x⟩
  | top => exact ⟨FzList.nil σ, fun _ _ _ _ _ _ => .top x⟩
  | int k n => exact ⟨FzList.nil σ, fun _ _ _ _ hF _ => Fro.mono hF hx⟩
  | bool b => exact ⟨FzList.nil σ, fun _ _ _ _ hF _ => Fro.mono hF hx⟩
  | str s => exact ⟨FzList.nil σ, fun _ _ _ _ hF _ => Fro.mono hF hx⟩
  | sl es => exact ⟨FzList.nil σ, fun _ _ _ _ hF _ => Fro.mono hF hx⟩
  | nils => exact ⟨FzList.nil σ, fun _ _ _ _ hF _ => by cases hx; exact .sl0 none 0⟩
  | fptr e o => exact ⟨FzList.nil σ, fun _ _ _ _ hF _ => Fro.mono hF hx⟩
  | nilf => exact ⟨FzList.nil σ, fun _ _ _ _ hF _ => Fro.mono hF hx⟩

theorem resCs_ok (h : Sim N w0 F0 M B0 σ F β a w) : ∀ (cs : List D) (vs : List Value), cs.length = vs.length → (∀ (j : Nat) c v, cs[j]? = some c → vs[j]? = some v → Cel F β c v) → ((resCs cs).run σ).1 →
    FzList σ ((resCs cs).run σ).2.2 ∧ ((resCs cs).run σ).2.1.length = vs.length ∧ ∀ (ws : List (Nat × Obj?)) F', FzList σ ws → (∀ p ∈ ((resCs cs).run σ).2.2, p ∈ ws) → Fsub F F' → Sim N w0 F0 M B0 ⟨σ.e, ws ++ σ.o, σ.n⟩ F' β a w →
      ∀ (j : Nat) c v, ((resCs cs).run σ).2.1[j]? = some c → vs[j]? = some v → Fro F' c v
  | [], vs, hl, _, _ => by
    refine ⟨FzList.nil σ, by simpa [resCs] using hl, fun _ _ _ _ _ _ j c v hc => ?_⟩
    simp [resCs] at hc
  | d :: cs, [], hl, _, _ => by simp at hl
  | d :: cs, v :: vs, hl, hx, hc => by
    simp only [resCs, R.run_bind, R.run_pure] at hc ⊢
    obtain ⟨hc1, hc2⟩ := hc
    obtain ⟨f1, r1⟩ := resC_ok h d (hx 0 d v rfl rfl) hc1
    obtain ⟨f2, l2, r2⟩ := resCs_ok h cs vs (by simpa using hl) (fun j c v hc hv => hx (j + 1) c v (by simpa using hc) (by simpa using hv)) hc2
    refine ⟨f1.append f2, by simp [l2], fun ws F' hws hsub hF hS j c v' hc' hv' => ?_⟩
    cases j with
    | zero =>
      simp only [List.getElem?_cons_zero, Option.some.injEq] at hc' hv'
      subst hc'; subst hv'
      exact r1 ws F' hws (fun p hp => hsub p (by simp [hp])) hF hS
    | succ j =>
      simp only [List.getElem?_cons_succ] at hc' hv'
      exact r2 ws F' hws (fun p hp => hsub p (by simp [hp])) hF hS j c v' hc' hv'

theorem res_ok (h : Sim N w0 F0 M B0 σ F β a w) (d : D) {x : Value} (hx : Val F β d x) (hc : ((res d).run σ).1) :
    FzList σ ((res d).run σ).2.2 ∧ ∀ (ws : List (Nat × Obj?)) F', FzList σ ws → (∀ p ∈ ((res d).run σ).2.2, p ∈ ws) → Fsub F F' → Sim N w0 F0 M B0 ⟨σ.e, ws ++ σ.o, σ.n⟩ F' β a w → Fro F' ((res d).run σ).2.1 x := by
  cases d with
  | agg cs =>
    obtain ⟨vs, rfl, hl, h1, hv⟩ := hx
    simp only [res, R.run_bind, R.run_pure] at hc ⊢
    obtain ⟨f, l, r⟩ := resCs_ok h cs vs hl hv hc
    exact ⟨f, fun ws F' hws hsub hF hS => .agg _ vs l h1 (fun j c v hc' hv' => r ws F' hws hsub hF hS j c v hc' hv')⟩
  | tup cs => exact hc.elim
  | _ => simp only [Val] at hx; exact resC_ok h _ hx hc

end
end Go.Dw
