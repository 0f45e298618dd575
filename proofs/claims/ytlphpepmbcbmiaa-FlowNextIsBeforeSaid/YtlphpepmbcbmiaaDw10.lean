/-
  THE LAYER Dw, PART 10: append; what is meant by a function's 'Spec' ('SpecOk'); the arguments of a call.
-/
import Derived.Test.YtlphpepmbcbmiaaDw9
namespace Go.Dw

section
variable {N : Nat} {w0 : World} {F0 : Fz} {M : Nat → Prop} {B0 : Bt} {σ : S} {F : Fz} {β : Bt} {a : Act} {w : World}

theorem target_ok (h : Sim N w0 F0 M B0 σ F β a w) {d : D} {x : Value} (hx : Val F β d x) {s ty : Nat} (hs : 0 < s) (hc : ((target s ty d).run σ).1) :
    ∃ xs, w.ownsRow 0 ty s x ((target s ty d).run σ).2.1.length xs ∧ (∀ e ∈ ((target s ty d).run σ).2.1, (cells e).length = s) ∧
      (∀ (i j : Nat) e c, ((target s ty d).run σ).2.1[i]? = some e → (cells e)[j]? = some c → ∃ y, xs[i * s + j]? = some y ∧ y.oneCell' = true ∧ Fro F c y) ∧
      ((((target s ty d).run σ).2.2.1 = [] ∧ x.ownBlock = none ∧ ((target s ty d).run σ).2.2.2 = false) ∨ ∃ g v o L, ((target s ty d).run σ).2.2.1 = [(g, none)] ∧ σ.go g = some (v, o) ∧ o.fz = false ∧ o.var = false ∧ β v = some L ∧ x.ownBlock = L.b ∧ ((target s ty d).run σ).2.2.2 = rich g) := by
  cases d <;> try exact hc.elim
  case nils =>
    cases hx
    exact ⟨[], World.ownsRow_nil w 0 ty s, fun e he => by simp [target, R.run] at he, fun i j e c he => by simp [target, R.run] at he, .inl ⟨rfl, rfl, rfl⟩⟩
  case osl g v i0 n =>
    simp only [target, R.run] at hc ⊢
    cases hg : σ.go g with
    | none => rw [hg] at hc; exact hc.elim
    | some p =>
      obtain ⟨v', o⟩ := p
      rw [hg] at hc
      simp only [R.run] at hc ⊢
      obtain ⟨rfl, rfl, hn, hfz, hvar, rfl, rfl⟩ := hc
      obtain ⟨L, A, hL, rfl, hcap, ha0, _⟩ := hx
      obtain ⟨L', hL', _, hk⟩ := h.own g v o hg
      rw [hL] at hL'; cases hL'
      obtain ⟨e1, e2, e3, e4, e5, e6⟩ := hk hfz
      have hA := ha0 rfl
      have hlen : (o.es.take n).length = n := by simp; omega
      have hidx : ∀ (k : Nat) e, (o.es.take n)[k]? = some e → o.es[k]? = some e := by
        intro k e he
        rw [List.getElem?_take] at he
        split at he
        · exact he
        · cases he
      rw [hlen]
      cases hb : L.b with
      | none =>
        rw [hb] at e6 hA
        have hn0 : n = 0 := by omega
        subst hn0
        have hc0 : L.cap - 0 = 0 := by omega
        simp only [Option.map_none] at hA
        subst hA
        rw [hc0]
        exact ⟨[], World.ownsRow_nil w 0 o.ty o.s, fun e he => by simp at he, fun i j e c he => by simp at he, .inr ⟨g, v, o, L, rfl, hg, hfz, hvar, hL, by rw [hb]; rfl, rfl⟩⟩
      | some b =>
        rw [hb] at e6 hA
        obtain ⟨C, hC, hCs, hcell⟩ := e6
        simp only [Option.map_some] at hA
        subst hA
        have hle : n * o.s ≤ C.size := by rw [hCs]; exact Nat.mul_le_mul_right _ (by omega)
        refine ⟨C.toList.take (n * o.s), ⟨by simp; omega, .inr ⟨b, L.cap, C, by simp, Nat.zero_le _, hC, by omega, by simpa [hvar] using e4, hCs, rfl⟩⟩,
          fun e he => e5 e (List.mem_of_mem_take he), fun i j e c he hj => ?_, .inr ⟨g, v, o, L, rfl, hg, hfz, hvar, hL, by rw [hb]; rfl, rfl⟩⟩
        have hil : i < n := by have := (List.getElem?_eq_some_iff.1 he).1; rw [hlen] at this; exact this
        have hjl : j < o.s := by rw [← e5 e (List.mem_of_getElem? (hidx i e he))]; exact (List.getElem?_eq_some_iff.1 hj).1
        obtain ⟨y, y1, y2, y3⟩ := hcell i j e c (hidx i e he) hj
        rw [hvar] at y3
        refine ⟨y, ?_, y2, y3⟩
        rw [List.getElem?_take, if_pos]
        · simpa using y1
        · have : (i + 1) * o.s ≤ n * o.s := Nat.mul_le_mul_right _ hil
          rw [Nat.add_mul] at this; omega

theorem append_ok {P : Program} (h : Sim N w0 F0 M B0 σ F β a w) {nv t : Nat} (hnv : β nv = none) (ht : t < N) (htr : rich t = false) {dx dy : D} {x y : Value} (hx : Val F β dx x) (hy : Val F β dy y) {tt ty e : TypeId} {i : TypeInfo} {z : Value} {s : Nat}
    (hu : P.underlying tt = some (.slice e)) (hi : P.info? e = some i) (hz : i.zero = some z) (hsi : i.size = s) (hzs : z.cells.size = s) (hs : 0 < s) (hby : i.bytes ≤ 65536)
    (hc1 : ((view dy).run σ).1) (hc2 : ((target s e dx).run σ).1) (hlen : ((target s e dx).run σ).2.1.length + ((view dy).run σ).2.length ≤ 16777216) (hnew : ∀ q ∈ ((view dy).run σ).2, (cells q).length = s) (hpl : ((target s e dx).run σ).2.2.2 = true → ∀ q ∈ ((target s e dx).run σ).2.1 ++ ((view dy).run σ).2, plainE q = true) (c : Prop) :
    ∃ v' w' β', (Builtin.append_ #[tt, tt] ty #[x, y]).run P w = .ok v' w' ∧ Bsub β β' ∧ (∀ v, v ≠ nv → β' v = β v) ∧
      Sim N w0 F0 M B0 (σ.app ⟨c, put1 (some t) (.osl (nmR ((target s e dx).run σ).2.2.2 t) nv 0 (((target s e dx).run σ).2.1.length + ((view dy).run σ).2.length)),
        putR ((target s e dx).run σ).2.2.2 (some t) (some (nv, ⟨false, false, s, e, ((target s e dx).run σ).2.1 ++ ((view dy).run σ).2⟩)) ++ ((target s e dx).run σ).2.2.1⟩) F β' (a.put (some t) v') w' := by
  obtain ⟨xs, hown, hold, hxs, hws⟩ := target_ok h hx hs hc2
  obtain ⟨A, cap, rfl, hA⟩ := view_ok h hy hc1 hnew
  generalize ((target s e dx).run σ).2.1 = old at *
  generalize ((view dy).run σ).2 = new at *
  generalize ((target s e dx).run σ).2.2.1 = ws at *
  generalize ((target s e dx).run σ).2.2.2 = r at *
  have hmax : old.length + new.length ≤ maxLen := by simp only [maxLen]; omega
  have hbytes : (old.length + new.length) * i.bytes ≤ 140737488355328 := by
    have : (old.length + new.length) * i.bytes ≤ 16777216 * 65536 := Nat.mul_le_mul hlen hby
    omega
  -- the run
  have hrun : ∃ news v' w', news.length = new.length * s ∧ (∀ (i j : Nat) e c, new[i]? = some e → (cells e)[j]? = some c → ∃ y, news[i * s + j]? = some y ∧ y.oneCell' = true ∧ Fro F c y) ∧
      (Builtin.append_ #[tt, tt] ty #[x, .slice A new.length cap]).run P w = .ok v' w' ∧ w'.ownsRow 0 e s v' (old.length + new.length) (xs ++ news) ∧ w.grownBy w' x.ownBlock ∧ (v'.ownBlock = x.ownBlock ∨ v'.ownBlock = some w.heap.size) := by
    cases A with
    | none =>
      have hm : new = [] := by
        rcases Nat.eq_zero_or_pos new.length with h0 | h0
        · exact List.eq_nil_of_length_eq_zero h0
        · obtain ⟨b, o, hh, _⟩ := hA h0; cases hh
      subst hm
      refine ⟨[], x, w, by simp, fun i j e c he => by simp at he, run_append_nothing w 0 tt ty e i s hu hi x _ xs hown cap, by simpa using hown, ⟨rfl, rfl, rfl, Nat.le_refl _, fun _ _ _ => rfl⟩, .inl rfl⟩
    | some ad =>
      have hnews : ∃ news : List Value, news.length = new.length * s ∧ (∀ j u, news[j]? = some u → w.cell? (ad.add j) = some u) ∧ (∀ u ∈ news, u.oneCell' = true) ∧
          ∀ (i j : Nat) e c, new[i]? = some e → (cells e)[j]? = some c → ∃ y, news[i * s + j]? = some y ∧ y.oneCell' = true ∧ Fro F c y := by
        rcases Nat.eq_zero_or_pos new.length with h0 | h0
        · have : new = [] := List.eq_nil_of_length_eq_zero h0
          subst this
          exact ⟨[], by simp, fun j u hu => by simp at hu, fun u hu => by simp at hu, fun i j e c he => by simp at he⟩
        · obtain ⟨b, o, hh, hcc⟩ := hA h0
          cases hh
          exact news_ok hnew hcc
      obtain ⟨news, n1, n2, n3, n4⟩ := hnews
      obtain ⟨v', w', r1, r2, r3, _, r5⟩ := run_append_own_at (P := P) w 0 tt ty e i z s i.bytes hu hi hz hsi rfl hzs hs x old.length xs hown ad new.length cap news n1 n2 n3 hmax hbytes (Nat.zero_le _)
      exact ⟨news, v', w', n1, n4, r1, r2, r3, r5⟩
  obtain ⟨news, v', w', n1, n4, r1, r2, r3, r5⟩ := hrun
  -- where it lies
  have hloc : ∃ L : Loc, L.s = s ∧ v' = .slice (L.b.map fun b => ⟨b, 0, none⟩) (old.length + new.length) L.cap ∧ v'.ownBlock = L.b ∧ OwnOK F (upB β nv L) w' L ⟨false, false, s, e, old ++ new⟩ := by
    have hall : ∀ q ∈ old ++ new, (cells q).length = s := fun q hq => (List.mem_append.1 hq).elim (hold q) (hnew q)
    rcases r2.2 with ⟨hv, h0⟩ | ⟨g, cap', cur, hv, _, hg, hnc, hcm, hcs, htake⟩
    · have h1 : old = [] := List.eq_nil_of_length_eq_zero (by omega)
      have h2 : new = [] := List.eq_nil_of_length_eq_zero (by omega)
      subst h1; subst h2
      subst hv
      exact ⟨⟨none, 0, s⟩, rfl, rfl, rfl, rfl, hs, by simp, by simp, fun e he => by simp at he, rfl, rfl⟩
    · subst hv
      refine ⟨⟨some g, cap', s⟩, rfl, rfl, rfl, rfl, hs, by simpa using hnc, by simpa using hcm, hall, cur, hg, hcs, fun i j q cc hq hj => ?_⟩
      have hil : i < old.length + new.length := by
        have := (List.getElem?_eq_some_iff.1 hq).1
        simpa using this
      have hjl : j < s := by rw [← hall q (List.mem_of_getElem? hq)]; exact (List.getElem?_eq_some_iff.1 hj).1
      have hlt : i * s + j < (old.length + new.length) * s := by
        have : (i + 1) * s ≤ (old.length + new.length) * s := Nat.mul_le_mul_right _ hil
        rw [Nat.add_mul] at this; omega
      have hcur : cur[i * s + j]? = (xs ++ news)[i * s + j]? := by
        rw [← htake, List.getElem?_take, if_pos hlt]; simp
      have hxl : xs.length = old.length * s := hown.1
      by_cases hio : i < old.length
      · simp only at hq
        rw [List.getElem?_append_left hio] at hq
        obtain ⟨y, y1, y2, y3⟩ := hxs i j q cc hq hj
        refine ⟨y, ?_, y2, by simpa using y3⟩
        rw [hcur, List.getElem?_append_left]
        · exact y1
        · exact (List.getElem?_eq_some_iff.1 y1).1
      · simp only at hq
        rw [List.getElem?_append_right (by omega)] at hq
        obtain ⟨y, y1, y2, y3⟩ := n4 _ j q cc hq hj
        refine ⟨y, ?_, y2, by simpa using y3⟩
        have hmul : old.length * s ≤ i * s := Nat.mul_le_mul_right _ (by omega)
        rw [hcur, List.getElem?_append_right (by omega), hxl]
        rw [← y1]
        congr 1
        rw [Nat.sub_mul]; omega
  obtain ⟨L, hLs, hv', hvb, hok⟩ := hloc
  have hβ := upB_sub (β := β) (nv := nv) L hnv
  refine ⟨v', w', upB β nv L, r1, hβ, fun v hv => upB_ne _ _ hv, ?_⟩
  -- which blocks may have been written
  have hrow : ∀ b, x.ownBlock = some b → ∃ g v o Lg, ws = [(g, none)] ∧ σ.go g = some (v, o) ∧ o.fz = false ∧ o.var = false ∧ β v = some Lg ∧ Lg.b = some b ∧ r = rich g := by
    intro b hb
    rcases hws with ⟨_, h2, _⟩ | ⟨g, v, o, Lg, h1, h2, h3, h4, h5, h6, h7⟩
    · rw [h2] at hb; cases hb
    · exact ⟨g, v, o, Lg, h1, h2, h3, h4, h5, h6.symm.trans hb, h7⟩
  obtain ⟨tt, htt⟩ : ∃ tt, tt = nmR r t := ⟨_, rfl⟩
  have hput : ∀ q, putR r (some t) q = putO (some tt) q := fun q => by rw [htt]; rfl
  rw [← htt, hput]
  have hgo : ∀ g', (σ.app ⟨c, put1 (some t) (.osl tt nv 0 (old.length + new.length)), putO (some tt) (some (nv, ⟨false, false, s, e, old ++ new⟩)) ++ ws⟩).go g' =
      if g' = tt then some (nv, ⟨false, false, s, e, old ++ new⟩) else match look ws g' with | some x => x | none => σ.go g' := by
    intro g'
    rw [S.go_app]
    simp only [putO, List.singleton_append, look]
    split
    · rename_i q hq
      split at hq
      · rename_i e1; cases hq; rw [if_pos e1]
      · rename_i e1; rw [if_neg e1, hq]
    · rename_i hq
      split at hq
      · cases hq
      · rename_i e1; rw [if_neg e1, hq]
  -- an object that is not the new one was there, and lies elsewhere
  have hold' : ∀ g' v o', g' ≠ tt → (σ.app ⟨c, put1 (some t) (.osl tt nv 0 (old.length + new.length)), putO (some tt) (some (nv, ⟨false, false, s, e, old ++ new⟩)) ++ ws⟩).go g' = some (v, o') →
      σ.go g' = some (v, o') ∧ ∀ Lg b, o'.fz = false → β v = some Lg → Lg.b = some b → ¬ x.ownBlock = some b := by
    intro g' v o' hne hg'
    rw [hgo, if_neg hne] at hg'
    have hlk : look ws g' = none ∧ σ.go g' = some (v, o') := by
      rcases hws with ⟨rfl, _⟩ | ⟨g, v1, o1, Lg, rfl, _⟩
      · exact ⟨rfl, hg'⟩
      · simp only [look] at hg' ⊢
        split at hg'
        · rename_i q hq
          split at hq
          · cases hq; cases hg'
          · cases hq
        · rename_i hq
          exact ⟨hq, hg'⟩
    refine ⟨hlk.2, fun Lg b hf hL hb hr => ?_⟩
    obtain ⟨g, v1, o1, Lg1, q1, q2, q3, _, q5, q6, _⟩ := hrow b hr
    have := h.dist g' g v v1 o' o1 Lg Lg1 b hlk.2 q2 hf q3 hL q5 hb q6
    subst this
    rw [q1] at hlk
    simp [look] at hlk
  refine h.change (row := fun b => x.ownBlock = some b) r3.os r3.tape r3.output r3.size (fun b hb hr => r3.block b hb (fun e => hr e.symm)) ?_ (Fsub.refl _) (fun _ _ _ _ => rfl) ?_ ?_ hβ (by rw [act_size]; exact h.size) (by rw [act_defers]; exact h.defers)
    (h.env_put (Fsub.refl _) hβ (fun t' e => by cases e; exact ht) ?_) ?_ ?_ ?_
  · intro b hr
    obtain ⟨g, v, o, Lg, _, q2, q3, q4, q5, q6, _⟩ := hrow b hr
    exact (h.sep g v o Lg b q2 q3 q5 q6).2.2.imp id And.left
  · intro b j u hu
    have hne : ¬ x.ownBlock = some b := by
      intro hr
      obtain ⟨g, v, o, Lg, _, q2, q3, _, q5, q6, _⟩ := hrow b hr
      rw [(h.sep g v o Lg b q2 q3 q5 q6).1 j] at hu; cases hu
    rw [World.cell?_of_block (w := w) (r3.block b (h.fin b j u hu) (fun e => hne e.symm))]
    exact h.frz b j u hu
  · intro b j u hu
    exact Nat.lt_of_lt_of_le (h.fin b j u hu) r3.size
  · refine ⟨L, _, upB_self _ _ _, hv', ?_, fun _ => rfl, fun hp => ?_⟩
    · have := hok.2.2.1
      simpa using this
    · cases hLb : L.b with
      | none =>
        obtain ⟨_, _, k3, _, _, k6⟩ := hok
        rw [hLb] at k6
        simp only [List.length_append] at k3
        omega
      | some b => exact ⟨b, rfl, by simp⟩
  · intro g' v o' hg'
    by_cases hgt : g' = tt
    · rw [hgo, if_pos hgt] at hg'
      cases hg'
      refine .inr ⟨L, upB_self _ _ _, rfl, hok, fun b hb => ?_⟩
      obtain ⟨_, _, _, _, _, k6⟩ := hok
      rw [hb] at k6
      obtain ⟨C, hC, _⟩ := k6
      have hbl : b < w'.heap.size := (Array.getElem?_eq_some_iff.1 hC).1
      rw [hvb, hb] at r5
      rcases r5 with r5 | r5
      · obtain ⟨g, v1, o1, Lg, _, q2, q3, q4, q5, q6, q7⟩ := hrow b r5.symm
        obtain ⟨s1, s2, s3⟩ := h.sep g v1 o1 Lg b q2 q3 q5 q6
        refine ⟨s1, hbl, s3.imp id (fun z => ⟨z.1, .inr ?_⟩), .inl r5.symm⟩
        have hz := z.2
        rw [q4] at hz
        have : r = true := q7.trans (hz.resolve_left (by simp))
        rw [hgt, htt, this]
        simp [nmR, rich]
      · cases r5
        refine ⟨fun i => ?_, hbl, .inl h.step.size, .inr (Nat.le_refl _)⟩
        cases hF : F w.heap.size i with
        | none => rfl
        | some u => have := h.fin _ _ _ hF; omega
    · exact .inl (hold' g' v o' hgt hg')
  · intro g1 g2 v1 v2 o1 o2 L1 L2 b hg1 hg2 hf1 hf2 hL1 hL2 hb1 hb2 hr
    have key : ∀ g' v o' Lg, (σ.app ⟨c, put1 (some t) (.osl tt nv 0 (old.length + new.length)), putO (some tt) (some (nv, ⟨false, false, s, e, old ++ new⟩)) ++ ws⟩).go g' = some (v, o') → o'.fz = false → upB β nv L v = some Lg → Lg.b = some b → g' = tt := by
      intro g' v o' Lg hg' hf hL hb
      by_cases hgt : g' = tt
      · exact hgt
      · exfalso
        obtain ⟨k1, k2⟩ := hold' g' v o' hgt hg'
        obtain ⟨L0, e0, _⟩ := h.own g' v o' k1
        have := hβ _ _ e0
        rw [hL] at this; cases this
        rcases hr with hr | hr
        · exact k2 _ b hf e0 hb hr
        · have := (h.sep g' v o' Lg b k1 hf e0 hb).2.1
          omega
    rw [key g1 v1 o1 L1 hg1 hf1 hL1 hb1, key g2 v2 o2 L2 hg2 hf2 hL2 hb2]
  · intro φ hφ
    have hnw : ∀ g i j b, φ g i j b → ¬ x.ownBlock = some b := by
      intro g i j b hb hr
      obtain ⟨g1, v1, o1, Lg, _, q2, q3, _, q5, q6, _⟩ := hrow b hr
      exact hφ.sep g i j b g1 v1 o1 Lg hb q2 q3 q5 q6
    have hkeep : ∀ g i j b, φ g i j b → w'.heap[b]? = w.heap[b]? := fun g i j b hb => r3.block b (hφ.lt g i j b hb) (fun e => hnw g i j b hb e.symm)
    refine ⟨φ, hφ.keep (Fsub.refl _) hβ r3.size (fun _ _ _ _ _ _ => rfl) hkeep (fun g v o hg => ?_) (fun g v o' hr hg hf => ?_) (fun g i j b g' v' o' L' hb hg hf hL' hLb => ?_)⟩
    · obtain ⟨L, hL, _⟩ := h.own g v o hg
      exact ⟨L, hL⟩
    · by_cases hgt : g = tt
      · rw [hgo, if_pos hgt] at hg
        cases hg
        refine .inr (hpl ?_)
        cases hrb : r with
        | true => rfl
        | false =>
          rw [hgt, htt, hrb] at hr
          simp only [nmR, cond_false] at hr
          rw [htr] at hr; cases hr
      · obtain ⟨k1, k2⟩ := hold' g v o' hgt hg
        refine .inl ⟨o', k1, hf, rfl, rfl, fun i j e c he hj _ => ⟨⟨e, he, hj⟩, fun L b C x hL hb hC hx => ⟨C, ?_, hx⟩⟩⟩
        rw [r3.block b (h.sep g v o' L b k1 hf hL hb).2.1 (fun e => k2 L b hf hL hb e.symm)] at hC
        exact hC
    · by_cases hgt : g' = tt
      · rw [hgo, if_pos hgt] at hg
        cases hg
        rw [upB_self] at hL'; cases hL'
        rw [hvb, hLb] at r5
        rcases r5 with r5 | r5
        · exact hnw g i j b hb r5.symm
        · cases r5
          have := hφ.lt g i j _ hb
          omega
      · obtain ⟨k1, _⟩ := hold' g' v' o' hgt hg
        obtain ⟨L0, e0, _⟩ := h.own g' v' o' k1
        have := hβ _ _ e0
        rw [hL'] at this; cases this
        exact hφ.sep g i j b g' v' o' L' hb k1 hf e0 hLb

end
end Go.Dw
