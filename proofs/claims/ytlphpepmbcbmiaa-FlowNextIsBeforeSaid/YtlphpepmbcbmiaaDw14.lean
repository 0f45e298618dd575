/-
  THE LAYER Dw, PART 14: every operation does what 'evalOp' says: all of them.
-/
import Derived.Test.YtlphpepmbcbmiaaDw13
namespace Go.Dw

theorem rich_of_blt {t : Nat} (h : Nat.blt t 4096 = true) : rich t = false := by
  have : t < 4096 := by simpa [Nat.blt_eq] using h
  simp only [rich]
  cases hb : Nat.ble 4096 t
  · rfl
  · have := Nat.le_of_ble_eq_true hb; omega
theorem dst_some {N : Nat} {dst : Option Nat} {op : DOp} (h : dstOk N dst op = true) (h1 : ∀ f as, op ≠ .call f as) (h2 : ∀ n a x, op ≠ .st n a x) : ∃ t, dst = some t ∧ t < N := by
  unfold dstOk at h
  cases dst with
  | some t =>
    refine ⟨t, rfl, ?_⟩
    cases op <;> first | (exfalso; exact h2 _ _ _ rfl) | exact of_decide_eq_true (Bool.and_eq_true_iff.1 h).1
  | none => cases op <;> first | (exfalso; exact h2 _ _ _ rfl) | (exfalso; exact h1 _ _ rfl) | cases h

theorem dst_lt {N : Nat} {dst : Option Nat} {op : DOp} (h : dstOk N dst op = true) : ∀ t, dst = some t → t < N := by
  rintro t rfl
  unfold dstOk at h
  cases op <;> first | exact of_decide_eq_true (Bool.and_eq_true_iff.1 h).1 | cases h
theorem dst_rich {N : Nat} {dst : Option Nat} {op : DOp} (h : dstOk N dst op = true) : ∀ t, dst = some t → rich t = false := by
  rintro t rfl
  unfold dstOk at h
  cases op <;> first | exact rich_of_blt (Bool.and_eq_true_iff.1 h).2 | cases h

section
variable {N : Nat} {w0 : World} {F0 : Fz} {M : Nat → Prop} {B0 : Bt} {σ : S} {F : Fz} {β : Bt} {a : Act} {w : World} {P : Program}

theorem snd_asg {Γ : Specs} (h : Sim N w0 F0 M B0 σ F β a w) {nv : Nat} (hnv : β nv = none) {o : Oper} {t : Nat} (hdst : o.dst = some t) (ht : t < N) (htr : rich t = false) {x : Operand} (ho : o.op = .assign x) {y : Arg} (hy : cArg x = some y) {sl : Option (Nat × Nat)} (hsl : ∀ s ty, sl = some (s, ty) → 0 < s)
    (hc : ((evalOp Γ nv o.dst (.asg y sl)).run σ).c) : Snd P N w0 F0 M B0 σ β a w o nv ((evalOp Γ nv o.dst (.asg y sl)).run σ) := by
  have he := arg_ok h hy
  have hrun : (execOp a.eval o).run P w = .ok (.value (a.eval x)) w := by unfold execOp; rw [ho]; rfl
  have hplain : Snd P N w0 F0 M B0 σ β a w o nv ⟨True, put1 o.dst ((raw y).run σ), []⟩ := Snd.pure' h (fun t' e => by rw [hdst] at e; cases e; exact ht) hrun he
  simp only [evalOp, R.run_bind] at hc ⊢
  generalize (raw y).run σ = d at *
  split at hc
  · -- nil
    rename_i s ty
    simp only [R.run_pure] at hc ⊢
    intro K Q hK
    unfold Oper.wp
    rw [hrun]
    simp only [Oper.upon, hdst]
    have hx : a.eval x = .slice none 0 0 := val_nils (β := β) he
    have hok : OwnOK F (upB β nv ⟨none, 0, s⟩) w ⟨none, 0, s⟩ ⟨false, false, s, ty, []⟩ := ⟨rfl, hsl s ty rfl, by simp, by simp, fun e he => by simp at he, rfl, rfl⟩
    have hβ := upB_sub (β := β) (nv := nv) ⟨none, 0, s⟩ hnv
    have hgo := fun g => S.go_new (c := True) (we := put1 (some t) (.osl t nv 0 0)) (t := t) (nv := nv) (o := ⟨false, false, s, ty, []⟩) σ g
    rw [hdst] at hK
    refine hK _ w F (upB β nv ⟨none, 0, s⟩) ?_ hβ (fun v hv => upB_ne _ _ hv)
    refine h.change (row := fun _ => False) rfl rfl rfl (Nat.le_refl _) (fun _ _ _ => rfl) (fun _ hr => hr.elim) (Fsub.refl _) (fun _ _ _ _ => rfl) h.frz h.fin hβ (by rw [act_size]; exact h.size) (by rw [act_defers]; exact h.defers)
      (h.env_put (Fsub.refl _) hβ (fun t' e => by cases e; exact ht) ⟨_, none, upB_self _ _ _, hx, Nat.le_refl _, fun _ => rfl, fun hp => absurd hp (by omega)⟩) ?_ ?_ ?_
    · intro g v o' hg
      simp only [Option.getD_some] at hg
      rw [hgo] at hg
      split at hg
      · cases hg
        exact .inr ⟨_, upB_self _ _ _, rfl, hok, fun b hb => by cases hb⟩
      · exact .inl ⟨hg, fun _ _ _ _ _ => id⟩
    · intro g1 g2 v1 v2 o1 o2 L1 L2 b hg1 hg2 hf1 hf2 hL1 hL2 hb1 hb2 hr
      simp only [Option.getD_some] at hg1 hg2
      rw [hgo] at hg1 hg2
      split at hg1
      · cases hg1
        rw [upB_self] at hL1; cases hL1; cases hb1
      · split at hg2
        · cases hg2
          rw [upB_self] at hL2; cases hL2; cases hb2
        · obtain ⟨L1', e1, _⟩ := h.own _ _ _ hg1
          have := hβ _ _ e1; rw [hL1] at this; cases this
          have := (h.sep _ _ _ _ b hg1 hf1 e1 hb1).2.1
          rcases hr with hr | hr
          · exact hr.elim
          · omega
    · intro φ hφ
      refine ⟨φ, hφ.keep (Fsub.refl _) hβ (Nat.le_refl _) (fun _ _ _ _ _ _ => rfl) (fun _ _ _ _ _ => rfl) (fun g v o hg => ?_) (fun g v o hr hg hf => ?_) (fun g i j b g' v' o' L' hb hg hf hL' => ?_)⟩
      · obtain ⟨L, hL, _⟩ := h.own g v o hg
        exact ⟨L, hL⟩
      · simp only [Option.getD_some] at hg
        rw [hgo] at hg
        split at hg
        · cases hg; exact .inr (fun e he => by cases he)
        · exact .inl ⟨o, hg, hf, rfl, rfl, fun i j e c he hj _ => ⟨⟨e, he, hj⟩, fun L b C x _ _ hC hx => ⟨C, hC, hx⟩⟩⟩
      · simp only [Option.getD_some] at hg
        rw [hgo] at hg
        split at hg
        · cases hg
          rw [upB_self] at hL'; cases hL'
          exact fun e => by cases e
        · obtain ⟨L0, e0, _⟩ := h.own g' v' o' hg
          have := hβ _ _ e0
          rw [hL'] at this; cases this
          exact hφ.sep g i j b g' v' o' L' hb hg hf e0
  · -- a row, renamed
    rename_i g v n st
    simp only [R.run] at hc ⊢
    cases hg : σ.go g with
    | none => rw [hg] at hc; exact hc.elim
    | some p =>
      obtain ⟨v', ow⟩ := p
      rw [hg] at hc
      simp only at hc ⊢
      by_cases hfz : ow.fz = true
      · rw [if_pos hfz] at hc ⊢
        simp only [R.run] at hc ⊢
        obtain ⟨rfl, hvar, hn⟩ := hc
        refine Snd.pure' h (fun t' e => by rw [hdst] at e; cases e; exact ht) hrun (Env.of_fro ?_)
        obtain ⟨L, A, hL, hx, hcap, _, hpos⟩ := he
        obtain ⟨L', hL', hz, _⟩ := h.own g v ow hg
        rw [hL] at hL'; cases hL'
        rw [hx]
        have := fro_view (hz hfz) (i := 0) (n := n) (c := L.cap - 0) (a := A) (by simpa using hn) (by simpa using hcap) (by simpa using hpos) (by omega)
        simpa using this
      · have hfz' : ¬ (ow.fz = true) := hfz
        replace hfz : ow.fz = false := by simpa using hfz
        rw [if_neg hfz'] at hc ⊢
        simp only [R.run] at hc ⊢
        obtain ⟨rfl, hvar, hn, hpl⟩ := hc
        obtain ⟨L, A, hL, hx, hcap, ha0, hpos⟩ := he
        obtain ⟨L', hL', _, hk⟩ := h.own g v ow hg
        rw [hL] at hL'; cases hL'
        obtain ⟨e1, e2, e3, e4, e5, e6⟩ := hk hfz
        have hβ := upB_sub (β := β) (nv := nv) L hnv
        have hok : OwnOK F (upB β nv L) w L { ow with es := ow.es.take n } := by
          refine ⟨e1, e2, by simp; omega, e4, fun e he => e5 e (List.mem_of_mem_take he), ?_⟩
          cases hb : L.b with
          | none => rw [hb] at e6; exact e6
          | some b =>
            rw [hb] at e6
            obtain ⟨C, hC, hCs, hcell⟩ := e6
            refine ⟨C, hC, hCs, fun i j e c he hj => ?_⟩
            simp only [List.getElem?_take] at he
            split at he
            · obtain ⟨x, x1, x2, x3⟩ := hcell i j e c he hj
              rw [hvar] at x3
              exact ⟨x, x1, x2, by simpa [hvar] using x3⟩
            · cases he
        intro K Q hK
        unfold Oper.wp
        rw [hrun]
        simp only [Oper.upon, hdst]
        rw [hdst] at hK
        simp only [Option.getD_some] at hK
        obtain ⟨tt, htt⟩ : ∃ tt, tt = nmR (rich g) t := ⟨_, rfl⟩
        have hput : ∀ q, putR (rich g) (some t) q = putO (some tt) q := fun q => by rw [htt]; rfl
        rw [← htt, hput] at hK
        -- what the names hold
        have hgo : ∀ (c : Prop) (we : List (Nat × D)) g' v' o', (σ.app ⟨c, we, putO (some tt) (some (nv, { ow with es := ow.es.take n })) ++ [(g, none)]⟩).go g' = some (v', o') → (g' = tt ∧ v' = nv ∧ o' = { ow with es := ow.es.take n }) ∨ (g' ≠ tt ∧ g' ≠ g ∧ σ.go g' = some (v', o')) := by
          intro c we g' v' o' hg'
          rw [S.go_app] at hg'
          simp only [putO, List.singleton_append, look] at hg'
          by_cases h2 : g' = tt
          · rw [if_pos h2] at hg'
            cases hg'
            exact .inl ⟨h2, rfl, rfl⟩
          · rw [if_neg h2] at hg'
            by_cases h1 : g' = g
            · rw [if_pos h1] at hg'; cases hg'
            · rw [if_neg h1] at hg'
              exact .inr ⟨h2, h1, hg'⟩
        refine hK _ w F (upB β nv L) ?_ hβ (fun v hv => upB_ne _ _ hv)
        refine h.change (row := fun b => L.b = some b) rfl rfl rfl (Nat.le_refl _) (fun _ _ _ => rfl) ?_ (Fsub.refl _) (fun _ _ _ _ => rfl) h.frz h.fin hβ (by rw [act_size]; exact h.size) (by rw [act_defers]; exact h.defers)
          (h.env_put (Fsub.refl _) hβ (fun t' e => by cases e; exact ht) ⟨L, A, upB_self _ _ _, hx, hcap, ha0, hpos⟩) ?_ ?_ ?_
        · intro b hb
          exact (h.sep g v ow L b hg hfz hL hb).2.2.imp id And.left
        · intro g' v' o' hg'
          rcases hgo _ _ g' v' o' hg' with ⟨h1, rfl, rfl⟩ | ⟨h1, h2, h3⟩
          · refine .inr ⟨L, upB_self _ _ _, hfz, hok, fun b hb => ?_⟩
            obtain ⟨s1, s2, s3⟩ := h.sep g v ow L b hg hfz hL hb
            refine ⟨s1, s2, s3.imp id (fun z => ⟨z.1, z.2.imp id fun hr => ?_⟩), .inl hb⟩
            rw [h1, htt, hr]; simp [nmR, rich]
          · refine .inl ⟨h3, fun L' b hf hL' hb' hb => ?_⟩
            exact h2 (h.dist g' g v' v o' ow L' L b h3 hg hf hfz hL' hL hb' hb)
        · intro g1 g2 v1 v2 o1 o2 L1 L2 b hg1 hg2 hf1 hf2 hL1 hL2 hb1 hb2 hr
          have key : ∀ (c : Prop) (we : List (Nat × D)) g' v' o' L', (σ.app ⟨c, we, putO (some tt) (some (nv, { ow with es := ow.es.take n })) ++ [(g, none)]⟩).go g' = some (v', o') → o'.fz = false → upB β nv L v' = some L' → L'.b = some b → g' = tt := by
            intro c we g' v' o' L' hg' hf' hL' hb'
            rcases hgo _ _ g' v' o' hg' with ⟨h1, _⟩ | ⟨h1, h2, h3⟩
            · exact h1
            · exfalso
              obtain ⟨L0, k0, _⟩ := h.own g' v' o' h3
              have := hβ _ _ k0
              rw [hL'] at this; cases this
              rcases hr with hr | hr
              · exact h2 (h.dist g' g v' v o' ow _ L b h3 hg hf' hfz k0 hL hb' hr)
              · have := (h.sep g' v' o' _ b h3 hf' k0 hb').2.1
                omega
          rw [key _ _ g1 v1 o1 L1 hg1 hf1 hL1 hb1, key _ _ g2 v2 o2 L2 hg2 hf2 hL2 hb2]
        · intro φ hφ
          refine ⟨φ, hφ.keep (Fsub.refl _) hβ (Nat.le_refl _) (fun _ _ _ _ _ _ => rfl) (fun _ _ _ _ _ => rfl) (fun g v o hg => ?_) (fun g' v' o' hr hg' hf => ?_) (fun g1 i j b g' v' o' L' hb hg' hf hL' => ?_)⟩
          · obtain ⟨L, hL, _⟩ := h.own g v o hg
            exact ⟨L, hL⟩
          · rcases hgo _ _ g' v' o' hg' with ⟨h1, rfl, rfl⟩ | ⟨h1, h2, h3⟩
            · refine .inr fun e he => hpl ?_ e (List.mem_of_mem_take he)
              cases hrg : rich g with
              | true => rfl
              | false =>
                rw [h1, htt, hrg] at hr
                simp only [nmR, cond_false] at hr
                rw [htr] at hr; cases hr
            · exact .inl ⟨o', h3, hf, rfl, rfl, fun i j e c he hj _ => ⟨⟨e, he, hj⟩, fun L b C x _ _ hC hx => ⟨C, hC, hx⟩⟩⟩
          · rcases hgo _ _ g' v' o' hg' with ⟨h1, rfl, rfl⟩ | ⟨h1, h2, h3⟩
            · rw [upB_self] at hL'; cases hL'
              exact hφ.sep g1 i j b g v ow _ hb hg hfz hL
            · obtain ⟨L0, e0, _⟩ := h.own g' v' o' h3
              have := hβ _ _ e0
              rw [hL'] at this; cases this
              exact hφ.sep g1 i j b g' v' o' L' hb h3 hf e0
  · exact hplain

end
end Go.Dw
