/-
  THE LAYER Dw, PART 20: code.
-/
import Derived.Test.YtlphpepmbcbmiaaDwt
namespace Go.Dw

section
variable {N : Nat} {w0 : World} {F0 : Fz} {M : Nat → Prop} {B0 : Bt} {P : Program}

theorem resC_cells {σ : S} {d : D} (hd : ((resC d).run σ).1) : cells d = [d] ∧ cells ((resC d).run σ).2.1 = [((resC d).run σ).2.1] := by
  cases d <;> first | exact hd.elim | exact ⟨rfl, rfl⟩ | skip
  refine ⟨rfl, ?_⟩
  simp only [resC, R.run] at hd ⊢
  split <;> simp_all <;> rfl

theorem ConvCs.get {σ : S} {ws : List (Nat × Obj?)} : ∀ {cs cs' : List D}, ConvCs σ ws cs cs' → cs'.length = cs.length ∧ ∀ (j : Nat) c', cs'[j]? = some c' → ∃ c, cs[j]? = some c ∧ ConvC σ ws c c'
  | [], [], _ => ⟨rfl, fun j c' h => by simp at h⟩
  | c :: r, c' :: r', h => by
    obtain ⟨h1, h2⟩ := h
    obtain ⟨l, g⟩ := ConvCs.get h2
    refine ⟨by simp [l], fun j x hx => ?_⟩
    cases j with
    | zero => simp at hx; subst hx; exact ⟨c, by simp, h1⟩
    | succ j => simp at hx; simpa using g j x hx
  | [], _ :: _, h => h.elim
  | _ :: _, [], h => h.elim

theorem Conv.cells {σ : S} {ws : List (Nat × Obj?)} {z z' : D} (h : Conv σ ws z z') : (Dw.cells z').length = (Dw.cells z).length ∧ ∀ (j : Nat) c', (Dw.cells z')[j]? = some c' → ∃ c, (Dw.cells z)[j]? = some c ∧ ConvC σ ws c c' := by
  rcases h with (rfl | ⟨h1, rfl, h3⟩) | ⟨cs, cs', rfl, rfl, h⟩
  · exact ⟨rfl, fun j c' hc => ⟨c', hc, .inl rfl⟩⟩
  · obtain ⟨e1, e2⟩ := resC_cells h1
    rw [e1, e2]
    refine ⟨rfl, fun j c' hc => ?_⟩
    rcases j with _ | j
    · simp at hc; subst hc; exact ⟨z, by simp, .inr ⟨h1, rfl, h3⟩⟩
    · simp at hc
  · exact h.get

theorem Sim.weak {σ τ : S} {ws : List (Nat × Obj?)} {F : Fz} {β : Bt} {a : Act} {w : World} (h : Sim N w0 F0 M B0 σ F β a w) (hw : Weak ws σ τ) : ∃ F', Sim N w0 F0 M B0 τ F' β a w := by
  obtain ⟨F', hsub, hS, _⟩ := h.freeze hw.fz
  refine ⟨F', ?_⟩
  have hcel : ∀ c c' v, ConvC σ ws c c' → Cel F β c v → Cel F' β c' v := by
    rintro c c' v (rfl | ⟨h1, rfl, h3⟩) hv
    · exact hv.mono hsub (Bsub.refl _)
    · exact Cel.of_fro ((resC_ok h c hv h1).2 ws F' hw.fz h3 hsub hS)
  have hval : ∀ d d' x, Conv σ ws d d' → Env F β d x → Env F' β d' x := by
    rintro d d' x ((rfl | ⟨h1, rfl, h3⟩) | ⟨cs, cs', rfl, rfl, hc⟩) hv
    · exact hv.mono hsub (Bsub.refl _)
    · have hc : Cel F β d x := by cases d <;> first | exact h1.elim | exact hv
      exact Env.of_fro ((resC_ok h d hc h1).2 ws F' hw.fz h3 hsub hS)
    · obtain ⟨vs, rfl, hl, h1, hc1⟩ := hv
      obtain ⟨l, g⟩ := hc.get
      refine ⟨vs, rfl, by rw [l, hl], h1, fun j c' v hc' hv' => ?_⟩
      obtain ⟨c, k1, k2⟩ := g j c' hc'
      exact hcel c c' v k2 (hc1 j c v k1 hv')
  have hgo : ∀ g v o, τ.go g = some (v, o) → (S.mk σ.e (ws ++ σ.o) σ.n).go g = some (v, o) ∨ ∃ o' z z', (S.mk σ.e (ws ++ σ.o) σ.n).go g = some (v, o') ∧ o'.var = true ∧ o'.es = [z] ∧ o = { o' with es := [z'] } ∧ Conv σ ws z z' := by
    intro g v o hg
    simp only [S.go] at hg
    cases hl : look τ.o g with
    | none => rw [hl] at hg; cases hg
    | some y =>
      rw [hl] at hg
      simp only [Option.getD_some] at hg
      subst hg
      rcases hw.o _ (look_mem hl) with h1 | ⟨v', o', z, z', h1, h2, h3, h4, h5⟩
      · exact .inl h1
      · simp only [Option.some.injEq, Prod.mk.injEq] at h4
        obtain ⟨rfl, rfl⟩ := h4
        exact .inr ⟨o', z, z', h1, h2, h3, rfl, h5⟩
  have hgo' : ∀ g v o, τ.go g = some (v, o) → ∃ o', (S.mk σ.e (ws ++ σ.o) σ.n).go g = some (v, o') ∧ o'.fz = o.fz ∧ o'.var = o.var := by
    intro g v o hg
    rcases hgo g v o hg with h1 | ⟨o', z, z', h1, h2, h3, rfl, h5⟩
    · exact ⟨o, h1, rfl, rfl⟩
    · exact ⟨o', h1, rfl, rfl⟩
  refine { nam := hS.nam, size := hS.size, defers := hS.defers, env := fun t => ?_, own := fun g v o hg => ?_, dist := fun g g' v v' o o' L L' b hg hg' hf hf' => ?_, sep := fun g v o L b hg hf => ?_, rich := ?_, frz := hS.frz, fin := hS.fin, step := hS.step }
  · simp only [S.ge]
    cases hl : look τ.e t with
    | none => exact Env.top _
    | some d =>
      simp only [Option.getD_some]
      exact hval _ _ _ (hw.e _ (look_mem hl)) (h.env t)
  · rcases hgo g v o hg with h1 | ⟨o', z, z', h1, h2, h3, rfl, h5⟩
    · exact hS.own g v o h1
    · rcases hw.fz.go g with ⟨v2, o2, k1, k2, _, k4⟩ | ⟨_, k2⟩
      · rw [k4] at h1
        cases h1
        simp only at h2
        rw [k2] at h2; cases h2
      · rw [k2] at h1
        obtain ⟨L, hL, hz, hk⟩ := h.own g v o' h1
        refine ⟨L, hL, fun hfz => ?_, fun hfz => ?_⟩
        · have := (hz hfz).1
          rw [h2] at this; cases this
        · obtain ⟨e1, e2, e3, e4, e5, e6⟩ := hk hfz
          obtain ⟨l, gg⟩ := h5.cells
          refine ⟨e1, e2, by simpa [h3] using e3, e4, fun e he => ?_, ?_⟩
          · simp only [List.mem_singleton] at he
            subst he
            rw [l]; exact e5 z (by rw [h3]; simp)
          · cases hb : L.b with
            | none => rw [hb] at e6; exact e6
            | some b =>
              rw [hb] at e6
              obtain ⟨C, hC, hs, hx⟩ := e6
              refine ⟨C, hC, hs, fun i j e d he hd => ?_⟩
              rcases i with _ | i
              · simp only [List.getElem?_cons_zero, Option.some.injEq] at he
                subst he
                obtain ⟨c, q1, q2⟩ := gg j d hd
                obtain ⟨x, x1, x2, x3⟩ := hx 0 j z c (by rw [h3]; rfl) q1
                refine ⟨x, x1, x2, ?_⟩
                rw [if_pos h2] at x3
                simp only [h2, if_true]
                exact hcel c d x q2 x3
              · simp at he
  · obtain ⟨o1, q1, q2, q3⟩ := hgo' g v o hg
    obtain ⟨o2, r1, r2, r3⟩ := hgo' g' v' o' hg'
    exact hS.dist g g' v v' o1 o2 L L' b q1 r1 (q2.trans hf) (r2.trans hf')
  · obtain ⟨o1, q1, q2, q3⟩ := hgo' g v o hg
    have := hS.sep g v o1 L b q1 (q2.trans hf)
    rw [q3] at this
    exact this
  · obtain ⟨φ, hφ⟩ := hS.rich
    refine ⟨φ, hφ.keep (Fsub.refl _) (Bsub.refl _) (Nat.le_refl _) (fun _ _ _ _ _ _ => rfl) (fun _ _ _ _ _ => rfl) (fun g v o hg => ?_) (fun g v o hr hg hf => .inl ?_) (fun g i j b g' v' o' L' hb hg hf hL => ?_)⟩
    · obtain ⟨L, hL, _⟩ := hS.own g v o hg
      exact ⟨L, hL⟩
    · rcases hgo g v o hg with h1 | ⟨o', z, z', h1, h2, h3, rfl, h5⟩
      · exact ⟨o, h1, hf, rfl, rfl, fun i j e c he hj _ => ⟨⟨e, he, hj⟩, fun L b C x _ _ hC hx => ⟨C, hC, hx⟩⟩⟩
      · refine ⟨o', h1, hf, rfl, rfl, fun i j e c he hj hp => ⟨⟨z, ?_⟩, fun L b C x _ _ hC hx => ⟨C, hC, hx⟩⟩⟩
        rcases i with _ | i
        · simp only [List.getElem?_cons_zero, Option.some.injEq] at he
          subst he
          obtain ⟨_, gg⟩ := h5.cells
          obtain ⟨c0, q1, q2⟩ := gg j c hj
          refine ⟨by rw [h3]; rfl, ?_⟩
          rcases q2 with rfl | ⟨k1, k2, _⟩
          · exact q1
          · have hrr := resC_row (σ := σ) k1
            cases c <;> first | (cases hp; done) | skip
            · have := hrr.1 _ _ _ k2; subst this; exact q1
            · have := hrr.2 _ _ k2; subst this; exact q1
        · simp at he
    · obtain ⟨o1, q1, q2, _⟩ := hgo' g' v' o' hg
      exact hφ.sep g i j b g' v' o1 L' hb q1 (q2.trans hf) hL

theorem Sim.chg {σ τ : S} {F : Fz} {β : Bt} {a : Act} {w : World} (h : Sim N w0 F0 M B0 σ F β a w) (hf : ∀ v, σ.n ≤ v → β v = none) (hw : Chg σ τ) : ∃ F' β', Sim N w0 F0 M B0 τ F' β' a w ∧ ∀ v, τ.n ≤ v → β' v = none := by
  induction hw generalizing F β with
  | refl => exact ⟨F, β, h, hf⟩
  | weak ws hw _ ih =>
    obtain ⟨F', h'⟩ := h.weak hw
    exact ih h' fun v hv => hf v (Nat.le_trans hw.n hv)
  | rw hw _ ih =>
    obtain ⟨F', β', h', hf'⟩ := h.rw hf hw
    exact ih h' hf'

def QR (N : Nat) (w0 : World) (F0 : Fz) (M : Nat → Prop) (B0 : Bt) (Q : DExit → S → Prop) : Exit → Act → World → Prop := fun e a w =>
  ∃ τ F β, Sim N w0 F0 M B0 τ F β a w ∧ (∀ v, τ.n ≤ v → β v = none) ∧ match e with
    | .normal => Q .normal τ
    | .exit id => Q (.exit id) τ
    | .ret => Q .ret τ
    | _ => False

theorem code_sound {Γ : Specs} (hΓ : ∀ k sp, Γ k = some sp → SpecOk P (k % 4096) sp) : ∀ (c : Code) (d : DCode), cCode P N c = some d → ∀ (Q : DExit → S → Prop) (σ : S) (F : Fz) (β : Bt) (a : Act) (w : World),
    Sim N w0 F0 M B0 σ F β a w → (∀ v, σ.n ≤ v → β v = none) → DWp Γ d Q σ → c.wp P (QR N w0 F0 M B0 Q) a w
  | .skip, d, hd, Q, σ, F, β, a, w, h, hf, hw => by
    simp only [cCode, Option.some.injEq] at hd
    subst hd
    exact wp_skip ⟨σ, F, β, h, hf, hw⟩
  | .ret, d, hd, Q, σ, F, β, a, w, h, hf, hw => by
    simp only [cCode, Option.some.injEq] at hd
    subst hd
    exact wp_ret ⟨σ, F, β, h, hf, hw⟩
  | .exit id, d, hd, Q, σ, F, β, a, w, h, hf, hw => by
    simp only [cCode, Option.some.injEq] at hd
    subst hd
    exact wp_exit ⟨σ, F, β, h, hf, hw⟩
  | .region id ops draw, d, hd, Q, σ, F, β, a, w, h, hf, hw => by
    simp only [cCode] at hd
    split at hd
    · cases hd
    · rename_i hdr
      simp only [Option.bind_eq_bind, Option.bind_eq_some_iff] at hd
      obtain ⟨ds, hds, he⟩ := hd
      cases he
      obtain ⟨hw1, hw2⟩ := hw
      cases draw with
      | false =>
        refine wp_region_list ?_
        refine list_sound (w0 := w0) (F0 := F0) (M := M) (B0 := B0) hΓ ops.toList 0 ds hds σ F β a w σ.n h hf hw1 (fun τ F' β' a' w' hS hf' hk => ?_)
        exact ⟨{ τ with n := σ.n + ds.length }, F', β', hS.congr (fun k => by cases k <;> rfl), hf', hk⟩
      | true =>
        have hm : P.follows .mixedOrders = true := by simpa using hdr
        have h' : Sim N w0 F0 M B0 σ F β a { w with drawn := w.drawn + 1 } := by
          have := h.put (c := True) (dst := none) (d := .top) (v := undef) (fun t e => by cases e) (Env.top _) (w' := { w with drawn := w.drawn + 1 }) rfl rfl rfl rfl
          exact this
        refine wp_region_any hm ?_
        have hid : ∀ (us : List Out) (i : Nat), appL (fun i => (Array.replicate ops.size false).getD i true) us i σ = appL (fun i => (Array.replicate ops.size false).getD i true) us i σ := fun _ _ => rfl
        obtain ⟨hlen, _⟩ := cOpers_get ops.toList 0 ds hds
        simp only [Array.length_toList] at hlen
        have hol := (outs_spec Γ ds σ.n σ 0 (fun _ => true) (fun _ => rfl)).1
        refine any_sound (w0 := w0) (F0 := F0) (M := M) (B0 := B0) hΓ hds hw1 (hw2 rfl) (fun τ F' β' a' w' hS hf' hk => ?_) ops.size (Array.replicate ops.size false) F β a _ (by simp) ?_ ?_ ?_ ?_
        · obtain ⟨τ', hk1, hk2⟩ := hk
          exact ⟨{ τ' with n := σ.n + ds.length }, F', β', hS.congr (fun k => (by cases k <;> rfl : ({ τ' with n := σ.n + ds.length } : S).get k = τ'.get k).trans (hk2 k)), hf', hk1⟩
        · rw [List.countP_eq_length.2]
          · simp
          · intro i hi
            simp only [List.mem_range] at hi
            simp [hi]
        · intro j o ho hl
          have hj : j < ops.size := (Array.getElem?_eq_some_iff.1 ho).1
          simp [hj] at hl
        · intro v hv hb
          exact absurd (hf v hv) hb
        · have hnone : ∀ (us : List Out) (i : Nat) (τ : S), i + us.length ≤ ops.size → appL (fun i => (Array.replicate ops.size false).getD i true) us i τ = τ := by
            intro us
            induction us with
            | nil => intro i τ _; rfl
            | cons u us ih =>
              intro i τ hle
              simp only [List.length_cons] at hle
              have hi : i < ops.size := by omega
              simp only [appL]
              have hne : ¬ ((Array.replicate ops.size false).getD i true = true) := by simp [hi]
              rw [if_neg hne]
              exact ih (i + 1) τ (by omega)
          rw [hnone _ 0 σ (by rw [hol, hlen]; omega)]
          exact h'
  | .seq x y, d, hd, Q, σ, F, β, a, w, h, hf, hw => by
    simp only [cCode, Option.bind_eq_bind, Option.bind_eq_some_iff] at hd
    obtain ⟨dx, hx, dy, hy, he⟩ := hd
    cases he
    refine wp_seq (wp_mono (code_sound hΓ x dx hx _ σ F β a w h hf hw) fun e a' w' hq => ?_)
    obtain ⟨τ, F', β', h1, h2, h3⟩ := hq
    cases e with
    | normal =>
      obtain ⟨τ', hwk, h3⟩ := h3
      obtain ⟨F2, β2, h1', h2'⟩ := h1.chg h2 hwk
      exact code_sound hΓ y dy hy Q τ' F2 β2 a' w' h1' h2' h3
    | exit id => exact ⟨τ, F', β', h1, h2, h3⟩
    | ret => exact ⟨τ, F', β', h1, h2, h3⟩
    | goto l => exact h3.elim
    | panic ch => exact h3.elim
    | outgrown => exact h3.elim
  | .cond c x y, d, hd, Q, σ, F, β, a, w, h, hf, hw => by
    simp only [cCode, Option.bind_eq_bind, Option.bind_eq_some_iff] at hd
    obtain ⟨dc, hc, dx, hx, dy, hy, he⟩ := hd
    cases he
    have henv := arg_ok h hc
    have hev : (raw dc).run σ = evalA σ dc := by cases dc <;> rfl
    rw [hev] at henv
    simp only [DWp] at hw
    generalize evalA σ dc = dv at *
    cases dv <;> try exact hw.elim
    case bool t =>
      have e1 := val_bool (β := β) (F := F) henv
      exact wp_cond_split e1 (fun ht => code_sound hΓ x dx hx Q σ F β a w h hf (hw.1 ht)) (fun ht => code_sound hΓ y dy hy Q σ F β a w h hf (hw.2 ht))
  | .block id b, d, hd, Q, σ, F, β, a, w, h, hf, hw => by
    simp only [cCode, Option.bind_eq_bind, Option.bind_eq_some_iff] at hd
    obtain ⟨db, hb, he⟩ := hd
    cases he
    refine wp_block (wp_mono (code_sound hΓ b db hb _ σ F β a w h hf hw) fun e a' w' hq => ?_)
    obtain ⟨τ, F', β', h1, h2, h3⟩ := hq
    cases e with
    | normal => exact ⟨τ, F', β', h1, h2, h3⟩
    | exit id' =>
      simp only [DExit.inBlock] at h3
      simp only [Exit.inBlock]
      split
      · rename_i e
        rw [if_pos e] at h3
        obtain ⟨τ', hwk, h3⟩ := h3
        obtain ⟨F2, β2, h1', h2'⟩ := h1.chg h2 hwk
        exact ⟨τ', F2, β2, h1', h2', h3⟩
      · rename_i e; rw [if_neg e] at h3; exact ⟨τ, F', β', h1, h2, h3⟩
    | ret => exact ⟨τ, F', β', h1, h2, h3⟩
    | goto l => exact h3.elim
    | panic ch => exact h3.elim
    | outgrown => exact h3.elim
  | .loop b, d, hd, Q, σ, F, β, a, w, h, hf, hw => by
    simp only [cCode, Option.bind_eq_bind, Option.bind_eq_some_iff] at hd
    obtain ⟨db, hb, he⟩ := hd
    cases he
    obtain ⟨ι, St, μ, i₀, hwk, hround⟩ := hw
    obtain ⟨F2, β2, hS2, hf2⟩ := h.chg hf hwk
    refine wp_loop_ghost (fun k a w => ∃ i F β, μ i = k ∧ Sim N w0 F0 M B0 (St i) F β a w ∧ ∀ v, (St i).n ≤ v → β v = none) (μ i₀) ⟨i₀, F2, β2, rfl, hS2, hf2⟩ ?_
    rintro k a w ⟨i, F, β, rfl, h, hf⟩
    refine wp_mono (code_sound hΓ b db hb _ (St i) F β a w h hf (hround i)) fun e a' w' hq => ?_
    obtain ⟨τ, F', β', h1, h2, h3⟩ := hq
    cases e with
    | normal =>
      obtain ⟨i', hlt, hwk'⟩ := h3
      obtain ⟨F3, β3, hS3, hf3⟩ := h1.chg h2 hwk'
      exact ⟨μ i', hlt, i', F3, β3, rfl, hS3, hf3⟩
    | exit id => exact ⟨τ, F', β', h1, h2, h3⟩
    | ret => exact ⟨τ, F', β', h1, h2, h3⟩
    | goto l => exact h3.elim
    | panic ch => exact h3.elim
    | outgrown => exact h3.elim
  | .rangeFunc .., d, hd, _, _, _, _, _, _, _, _, _ => by cases hd
  | .scope .., d, hd, _, _, _, _, _, _, _, _, _ => by cases hd
  | .label .., d, hd, _, _, _, _, _, _, _, _, _ => by cases hd
  | .goto .., d, hd, _, _, _, _, _, _, _, _, _ => by cases hd
  | .refuse .., d, hd, _, _, _, _, _, _, _, _, _ => by cases hd

end
end Go.Dw
