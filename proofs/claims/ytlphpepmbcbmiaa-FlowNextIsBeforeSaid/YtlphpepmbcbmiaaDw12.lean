/-
  THE LAYER Dw, PART 12: every operation does what 'evalOp' says.
-/
import Derived.Test.YtlphpepmbcbmiaaDw11
namespace Go.Dw

section
variable {N : Nat} {w0 : World} {F0 : Fz} {M : Nat → Prop} {B0 : Bt} {σ : S} {F : Fz} {β : Bt} {a : Act} {w : World} {P : Program}

theorem plain_noptr {ptr : List (Nat × (Nat × Nat))} (hp : ptr = []) (σ : S) (d : D) (j : Nat) : ((plainArg ptr j d).run σ).2.2.2 = [] := by
  subst hp; simp [plainArg, look]
theorem caps_noptr' {ptr : List (Nat × (Nat × Nat))} (hp : ptr = []) (σ : S) : ∀ (ds : List D) (j : Nat), ((callCaps ptr j ds).run σ).2.2.2 = []
  | [], _ => rfl
  | d :: ds, j => by
    unfold callCaps
    simp only [R.run_bind, R.run_pure, plain_noptr hp σ d j, caps_noptr' hp σ ds (j + 1), List.append_nil]
theorem ground_noptr1 {ptr : List (Nat × (Nat × Nat))} (hp : ptr = []) (σ : S) (d : D) (j : Nat) : ((callArg ptr j d).run σ).2.2.2 = [] := by
  unfold callArg
  split
  · have := caps_noptr' hp σ (by assumption) (64 * (j + 1))
    subst hp
    simpa only [look, R.run_bind, R.run_pure] using this
  · exact plain_noptr hp σ _ j
theorem ground_noptr {ptr : List (Nat × (Nat × Nat))} (hp : ptr = []) (σ : S) : ∀ (ds : List D) (j : Nat), ((callArgs ptr j ds).run σ).2.2.2 = []
  | [], _ => rfl
  | d :: ds, j => by
    unfold callArgs
    simp only [R.run_bind, R.run_pure, ground_noptr1 hp σ d j, ground_noptr hp σ ds (j + 1), List.append_nil]

/-- a call -/
theorem call_ok {f : Nat} {sp : Spec} (hsp : SpecOk P f sp) (h : Sim N w0 F0 M B0 σ F β a w) {nv : Nat} (hnv : β nv = none) {dst : Option Nat} (hd : ∀ t, dst = some t → t < N) (htr : ∀ t, dst = some t → rich t = false) {ds : List D} {xs : List Value} (hl : ds.length = xs.length)
    (hv : ∀ (q : Nat) d x, ds[q]? = some d → xs[q]? = some x → Val F β d x) {u : Out}
    (hu : u = callOut dst nv sp ((callArgs sp.ptr 0 ds).run σ).1 ((callArgs sp.ptr 0 ds).run σ).2.1 ((callArgs sp.ptr 0 ds).run σ).2.2.1 ((callArgs sp.ptr 0 ds).run σ).2.2.2) (hc : u.c) :
    Calls P f xs.toArray w (fun e w' => ∃ v F' β', e = .returned v ∧ Bsub β β' ∧ (∀ x, x ≠ nv → β' x = β x) ∧ Sim N w0 F0 M B0 (σ.app u) F' β' (a.put dst v) w') := by
  have hni : inplOf sp.kind = none := by
    subst hu
    unfold callOut at hc
    cases hk : sp.kind <;> first | rfl | (rw [hk] at hc; exact hc.elim)
  have hcargs : ((callArgs sp.ptr 0 ds).run σ).1 := by
    subst hu
    unfold callOut at hc
    split at hc
    · exact hc.1
    · exact hc.1
    · split at hc
      · exact hc.1
      · exact hc.elim
    · split at hc
      · exact hc.1
      · exact hc.elim
    · exact hc.1
    · split at hc
      · exact hc.1
      · exact hc.elim
    · exact hc.elim
  have hpre : sp.pre ((callArgs sp.ptr 0 ds).run σ).2.1 := by
    subst hu
    unfold callOut at hc
    split at hc
    · exact hc.2
    · exact hc.2.1
    · split at hc
      · exact hc.2.1
      · exact hc.elim
    · split at hc
      · exact hc.2.1
      · exact hc.elim
    · exact hc.2.1
    · split at hc
      · exact hc.2.1
      · exact hc.elim
    · exact hc.elim
  obtain ⟨φ, hφ⟩ := h.rich
  obtain ⟨f1, Mb, hps, hargs⟩ := callArgs_ok h hφ ds xs 0 hl hv hcargs
  have hgr := fun hp => ground_noptr (ptr := sp.ptr) hp σ ds 0
  generalize ((callArgs sp.ptr 0 ds).run σ).2.1 = ds' at *
  generalize ((callArgs sp.ptr 0 ds).run σ).2.2.1 = ws at *
  generalize ((callArgs sp.ptr 0 ds).run σ).2.2.2 = ps at *
  obtain ⟨F1, hF1, hS1, hr1⟩ := h.freeze f1
  have hφ1 := hr1 φ hφ
  have hA := hargs ws F1 f1 (fun _ hp => hp) hF1 hS1 hφ1
  refine (hsp.2.2 hni w F1 ds' xs Mb hS1.frz hS1.fin hA hpre).mono ?_
  rintro e w' ⟨v, F', ψ, ρ, rfl, hok, hfin, hst, hres, hback, hψρ⟩
  -- the objects that are handed over are not frozen
  have hps1 : PsOk (S.mk σ.e (ws ++ σ.o) σ.n) β φ ps Mb := by
    obtain ⟨p1, p2, p3⟩ := hps
    refine ⟨p1, fun k g v o hk => ?_, p3⟩
    obtain ⟨q1, q2, q3, q4⟩ := p2 k g v o hk
    refine ⟨?_, q2, q3, q4⟩
    rcases f1.go g with ⟨v2, o2, k1, k2, _, _⟩ | ⟨_, k2⟩
    · rw [q1] at k1; cases k1; rw [q3] at k2; cases k2
    · rw [k2]; exact q1
  subst hu
  unfold callOut at hc ⊢
  cases hk : sp.kind with
  | inpl r fl fk => rw [hk] at hni; cases hni
  | val =>
    rw [hk] at hres
    simp only [hk] at hc ⊢
    obtain ⟨b1, b2, b3⟩ := call_change hS1 hφ1 hnv hps1 hok hfin hst hback (E := []) (φm := fun _ _ _ => False) (.inl ⟨rfl, rfl, fun _ _ _ => id⟩) hd (Env.of_fro hres) (((callArgs sp.ptr 0 ds).run σ).1 ∧ sp.pre ds')
    refine ⟨v, F', _, rfl, b1, b2, ?_⟩
    have e : (σ.app ⟨((callArgs sp.ptr 0 ds).run σ).1 ∧ sp.pre ds', put1 dst (sp.res ds'), handBack ps (sp.eff ds') ++ ws⟩) = (S.mk σ.e (ws ++ σ.o) σ.n).app ⟨((callArgs sp.ptr 0 ds).run σ).1 ∧ sp.pre ds', put1 dst (sp.res ds'), [] ++ handBack ps (sp.eff ds')⟩ := by
      simp [S.app]
    rw [e]; exact b3
  | ground =>
    rw [hk] at hres
    simp only [hk] at hc ⊢
    obtain ⟨_, _, hg, hptr⟩ := hc
    have hMb : Mb = [] := args_noptr hptr hA
    subst hMb
    refine ⟨v, F, β, rfl, Bsub.refl _, fun _ _ => rfl, ?_⟩
    refine h.change (row := fun _ => False) hst.os hst.tape hst.output hst.size (fun b hb _ => hst.block b hb (fun ⟨_, hm, _⟩ => by cases hm)) (fun _ hr => hr.elim) (Fsub.refl _) (fun _ _ _ _ => rfl)
      (fun b i x hx => hok b i x (hst.sub _ _ _ (hF1 b i x hx))) (fun b i x hx => Nat.lt_of_lt_of_le (h.fin b i x hx) hst.size) (Bsub.refl _) (by rw [act_size]; exact h.size) (by rw [act_defers]; exact h.defers)
      (h.env_put (Fsub.refl _) (Bsub.refl _) hd (Env.of_fro (fro_ground hg hres))) (fun g v' o' hg' => .inl ⟨hg', fun _ _ _ _ _ => id⟩) ?_ ?_
    · intro g1 g2 v1 v2 o1 o2 L1 L2 b hg1 hg2 hf1 hf2 hL1 hL2 hb1 hb2 _
      exact h.dist g1 g2 v1 v2 o1 o2 L1 L2 b hg1 hg2 hf1 hf2 hL1 hL2 hb1 hb2
    · intro φ hφ
      have hblk : ∀ b, b < w.heap.size → w'.heap[b]? = w.heap[b]? := fun b hb => hst.block b hb (fun ⟨_, hm, _⟩ => by cases hm)
      refine ⟨φ, hφ.keep (Fsub.refl _) (Bsub.refl _) hst.size (fun _ _ _ _ _ _ => rfl) (fun g i j b hb => hblk b (hφ.lt g i j b hb)) (fun g v o hg => ?_) (fun g v o hr hg hf => .inl ⟨o, hg, hf, rfl, rfl, fun i j e c he hj _ => ⟨⟨e, he, hj⟩, fun L b C x hL hb hC hx => ⟨C, ?_, hx⟩⟩⟩) hφ.sep⟩
      · obtain ⟨L, hL, _⟩ := h.own g v o hg
        exact ⟨L, hL⟩
      · rw [hblk b (h.sep g v o L b hg hf hL hb).2.1] at hC
        exact hC
  | row s ty =>
    rw [hk] at hres
    obtain ⟨es, L, hes, rfl, hown, hL⟩ := hres
    simp only [hk, hes] at hc ⊢
    obtain ⟨_, _, hds⟩ := hc
    obtain ⟨t, rfl⟩ := Option.isSome_iff_exists.1 hds
    obtain ⟨b1, b2, b3⟩ := call_change (φm := fun _ _ _ => False) hS1 hφ1 hnv hps1 hok hfin hst hback (E := putO (some t) (some (nv, ⟨false, false, s, ty, es⟩))) (.inr ⟨t, _, L, rfl, rfl, rfl, hown, fun b hb => ⟨(hL b hb).1, (hL b hb).2.1, (hL b hb).2.2.1, fun k j h => hψρ k j b h (hL b hb).2.2.2⟩, fun _ _ _ h => h.elim, fun _ _ _ _ _ h => h.elim, fun hr => by rw [htr t rfl] at hr; cases hr⟩) hd (d := .osl t nv 0 es.length) (v := .slice (L.b.map fun b => ⟨b, 0, none⟩) es.length L.cap)
      (by
        refine ⟨L, _, upB_self _ _ _, rfl, by simpa using hown.2.2.1, fun _ => rfl, fun hp => ?_⟩
        cases hLb : L.b with
        | none =>
          obtain ⟨_, _, k3, _, _, k6⟩ := hown
          rw [hLb] at k6
          simp only at k3
          omega
        | some b => exact ⟨b, rfl, by simp⟩) (((callArgs sp.ptr 0 ds).run σ).1 ∧ sp.pre ds' ∧ (some t).isSome = true)
    refine ⟨_, F', _, rfl, b1, b2, ?_⟩
    have e : ∀ (c : Prop) (we : List (Nat × D)) (x : List (Nat × Obj?)), (σ.app ⟨c, we, x ++ handBack ps (sp.eff ds') ++ ws⟩) = (S.mk σ.e (ws ++ σ.o) σ.n).app ⟨c, we, x ++ handBack ps (sp.eff ds')⟩ := by
      intro c we x; simp [S.app]
    rw [e]; exact b3
  | mat s ty =>
    rw [hk] at hres
    obtain ⟨es, L, φm, hes, rfl, hown, hL, hm1, hm2, hm3, hm4⟩ := hres
    simp only [hk, hes] at hc ⊢
    obtain ⟨_, _, hds⟩ := hc
    obtain ⟨t, rfl⟩ := Option.isSome_iff_exists.1 hds
    obtain ⟨b1, b2, b3⟩ := call_change (φm := φm) hS1 hφ1 hnv hps1 hok hfin hst hback (E := putR true (some t) (some (nv, ⟨false, false, s, ty, es⟩))) (.inr ⟨nmR true t, _, L, rfl, rfl, rfl, hown, fun b hb => ⟨(hL b hb).1, (hL b hb).2.1, (hL b hb).2.2.1, fun k j h => hψρ k j b h (hL b hb).2.2.2⟩,
        fun i j b hb => ⟨(hm1 i j b hb).1, (hm1 i j b hb).2.1, (hm1 i j b hb).2.2.1, fun k j' h => hψρ k j' b h (hm1 i j b hb).2.2.2.1, (hm1 i j b hb).2.2.2.2⟩, hm2, fun _ => ⟨hm3, hm4⟩⟩) hd (d := .osl (nmR true t) nv 0 es.length) (v := .slice (L.b.map fun b => ⟨b, 0, none⟩) es.length L.cap)
      (by
        refine ⟨L, _, upB_self _ _ _, rfl, by simpa using hown.2.2.1, fun _ => rfl, fun hp => ?_⟩
        cases hLb : L.b with
        | none =>
          obtain ⟨_, _, k3, _, _, k6⟩ := hown
          rw [hLb] at k6
          simp only at k3
          omega
        | some b => exact ⟨b, rfl, by simp⟩) (((callArgs sp.ptr 0 ds).run σ).1 ∧ sp.pre ds' ∧ (some t).isSome = true)
    refine ⟨_, F', _, rfl, b1, b2, ?_⟩
    have e : ∀ (c : Prop) (we : List (Nat × D)) (x : List (Nat × Obj?)), (σ.app ⟨c, we, x ++ handBack ps (sp.eff ds') ++ ws⟩) = (S.mk σ.e (ws ++ σ.o) σ.n).app ⟨c, we, x ++ handBack ps (sp.eff ds')⟩ := by
      intro c we x; simp [S.app]
    rw [e]; exact b3
  | ptr s ty =>
    rw [hk] at hres
    obtain ⟨b, rfl, hown, hb1, hb2, hb3, hb4⟩ := hres
    simp only [hk] at hc ⊢
    obtain ⟨_, _, hds⟩ := hc
    obtain ⟨t, rfl⟩ := Option.isSome_iff_exists.1 hds
    obtain ⟨b1, b2, b3⟩ := call_change (φm := fun _ _ _ => False) hS1 hφ1 hnv hps1 hok hfin hst hback (E := putO (some t) (some (nv, ⟨false, true, s, ty, [sp.res ds']⟩))) (.inr ⟨t, _, ⟨some b, 1, s⟩, rfl, rfl, rfl, hown, fun b' hb' => (by cases hb'; exact ⟨hb1, hb2, hb3, fun k j h => hψρ k j b h hb4⟩), fun _ _ _ h => h.elim, fun _ _ _ _ _ h => h.elim, fun hr => by rw [htr t rfl] at hr; cases hr⟩) hd (d := .optr t nv 0 0) (v := .pointer (some ⟨b, 0, none⟩))
      ⟨_, b, upB_self _ _ _, rfl, by simp⟩ (((callArgs sp.ptr 0 ds).run σ).1 ∧ sp.pre ds' ∧ (some t).isSome = true)
    refine ⟨_, F', _, rfl, b1, b2, ?_⟩
    have e : ∀ (c : Prop) (we : List (Nat × D)) (x : List (Nat × Obj?)), (σ.app ⟨c, we, x ++ handBack ps (sp.eff ds') ++ ws⟩) = (S.mk σ.e (ws ++ σ.o) σ.n).app ⟨c, we, x ++ handBack ps (sp.eff ds')⟩ := by
      intro c we x; simp [S.app]
    rw [e]; exact b3
  | tupPtr q s ty =>
    rw [hk] at hres
    obtain ⟨rs, vs, b, hrs, rfl, hlen, hfro, hq, hown, hb1, hb2, hb3, hb4⟩ := hres
    simp only [hk, hrs] at hc ⊢
    obtain ⟨_, _, hds⟩ := hc
    obtain ⟨t, rfl⟩ := Option.isSome_iff_exists.1 hds
    obtain ⟨b1, b2, b3⟩ := call_change (φm := fun _ _ _ => False) hS1 hφ1 hnv hps1 hok hfin hst hback (E := putO (some t) (some (nv, ⟨false, true, s, ty, [rs.getD q .top]⟩))) (.inr ⟨t, _, ⟨some b, 1, s⟩, rfl, rfl, rfl, hown, fun b' hb' => (by cases hb'; exact ⟨hb1, hb2, hb3, fun k j h => hψρ k j b h hb4⟩), fun _ _ _ h => h.elim, fun _ _ _ _ _ h => h.elim, fun hr => by rw [htr t rfl] at hr; cases hr⟩) hd (d := .tup (rs.set q (.optr t nv 0 0))) (v := .tuple vs.toArray)
      (by
        refine ⟨vs, rfl, by simp [hlen], fun j c x hj hx => ?_⟩
        by_cases hjq : j = q
        · subst hjq
          have hlt : j < rs.length := by rw [hlen]; exact (List.getElem?_eq_some_iff.1 hx).1
          rw [List.getElem?_set_self hlt] at hj
          cases hj
          rw [hq] at hx; cases hx
          exact ⟨_, b, upB_self _ _ _, rfl, by simp⟩
        · rw [List.getElem?_set_ne (fun e => hjq e.symm)] at hj
          exact Cel.of_fro (hfro j c x hjq hj hx)) (((callArgs sp.ptr 0 ds).run σ).1 ∧ sp.pre ds' ∧ (some t).isSome = true)
    refine ⟨_, F', _, rfl, b1, b2, ?_⟩
    have e : ∀ (c : Prop) (we : List (Nat × D)) (x : List (Nat × Obj?)), (σ.app ⟨c, we, x ++ handBack ps (sp.eff ds') ++ ws⟩) = (S.mk σ.e (ws ++ σ.o) σ.n).app ⟨c, we, x ++ handBack ps (sp.eff ds')⟩ := by
      intro c we x; simp [S.app]
    rw [e]; exact b3


/-- the object g is written by a call -/
theorem Sim.wrote (h : Sim N w0 F0 M B0 σ F β a w) {g v : Nat} {o : Own} {L : Loc} (hg : σ.go g = some (v, o)) (hfz : o.fz = false) (hL : β v = some L) {c : Prop} {w' : World} (hos : w'.os = w.os) (htape : w'.tape = w.tape) (hout : w'.output = w.output)
    (hsz : w.heap.size ≤ w'.heap.size) (hblk : ∀ b, b < w.heap.size → L.b ≠ some b → w'.heap[b]? = w.heap[b]?) {es' : List D} (hown' : OwnOK F β w' L { o with es := es' }) (hpl : Dw.rich g = true → ∀ e ∈ es', plainE e = true) {dst : Option Nat} (hd : ∀ t, dst = some t → t < N) {d : D} {x : Value} (hv : Env F β d x) :
    Sim N w0 F0 M B0 (σ.app ⟨c, put1 dst d, [(g, some (v, { o with es := es' }))]⟩) F β (a.put dst x) w' := by
  have hgo : ∀ g', (σ.app ⟨c, put1 dst d, [(g, some (v, { o with es := es' }))]⟩).go g' = if g' = g then some (v, { o with es := es' }) else σ.go g' := by
    intro g'
    exact S.go_new (c := c) (we := put1 dst d) (t := g) (nv := v) (o := { o with es := es' }) σ g'
  have hF : ∀ b, L.b = some b → (∀ i, F b i = none) ∧ b < w.heap.size ∧ (w0.heap.size ≤ b ∨ (M b ∧ (o.var = true ∨ Dw.rich g = true))) := fun b hb => h.sep g v o L b hg hfz hL hb
  refine h.change (row := fun b => L.b = some b) hos htape hout hsz hblk ?_ (Fsub.refl _) (fun _ _ _ _ => rfl) ?_ ?_ (Bsub.refl _) (by rw [act_size]; exact h.size) (by rw [act_defers]; exact h.defers) (h.env_put (Fsub.refl _) (Bsub.refl _) hd hv) ?_ ?_ ?_
  · intro b hb
    exact (hF b hb).2.2.imp id And.left
  · intro b' i y hy
    have hne : L.b ≠ some b' := fun e => by rw [(hF b' e).1 i] at hy; cases hy
    rw [World.cell?_of_block (w := w) (hblk b' (h.fin b' i y hy) hne)]
    exact h.frz b' i y hy
  · intro b' i y hy
    exact Nat.lt_of_lt_of_le (h.fin b' i y hy) hsz
  · intro g' v' o' hg'
    rw [hgo] at hg'
    split at hg'
    · rename_i e; subst e
      cases hg'
      refine .inr ⟨L, hL, hfz, hown', fun b' hb' => ?_⟩
      obtain ⟨s1, s2, s3⟩ := hF b' hb'
      exact ⟨s1, Nat.lt_of_lt_of_le s2 hsz, s3, .inl hb'⟩
    · rename_i hne
      exact .inl ⟨hg', fun L' b' hf hL' hb' hr => hne (h.dist g' g v' v o' o L' L b' hg' hg hf hfz hL' hL hb' hr)⟩
  · intro g1 g2 v1 v2 o1 o2 L1 L2 b' hg1 hg2 hf1 hf2 hL1 hL2 hb1 hb2 _
    have key : ∀ g' v' o', (σ.app ⟨c, put1 dst d, [(g, some (v, { o with es := es' }))]⟩).go g' = some (v', o') → ∃ o'', σ.go g' = some (v', o'') ∧ o''.fz = o'.fz := by
      intro g' v' o' hg'
      rw [hgo] at hg'
      split at hg'
      · rename_i e; subst e; cases hg'; exact ⟨o, hg, rfl⟩
      · exact ⟨o', hg', rfl⟩
    obtain ⟨p1, q1, r1⟩ := key _ _ _ hg1
    obtain ⟨p2, q2, r2⟩ := key _ _ _ hg2
    exact h.dist g1 g2 v1 v2 p1 p2 L1 L2 b' q1 q2 (r1.trans hf1) (r2.trans hf2) hL1 hL2 hb1 hb2
  · intro φ hφ
    refine ⟨φ, hφ.keep (Fsub.refl _) (Bsub.refl _) hsz (fun _ _ _ _ _ _ => rfl) (fun g1 i j b hb => hblk b (hφ.lt g1 i j b hb) (hφ.sep g1 i j b g v o L hb hg hfz hL)) (fun g v o hg => ?_) (fun g1 v1 o1 hr hg1 hf => ?_) (fun g1 i j b g2 v2 o2 L2 hb hg2 hf2 hL2 => ?_)⟩
    · obtain ⟨L, hL, _⟩ := h.own g v o hg
      exact ⟨L, hL⟩
    · rw [hgo] at hg1
      split at hg1
      · rename_i e; subst e; cases hg1; exact .inr (hpl hr)
      · rename_i hne
        refine .inl ⟨o1, hg1, hf, rfl, rfl, fun i j e c he hj _ => ⟨⟨e, he, hj⟩, fun L1 b1 C x hL1 hb1 hC hx => ⟨C, ?_, hx⟩⟩⟩
        rw [hblk b1 (h.sep g1 v1 o1 L1 b1 hg1 hf hL1 hb1).2.1 (fun e => hne (h.dist g1 g v1 v o1 o L1 L b1 hg1 hg hf hfz hL1 hL hb1 e))] at hC
        exact hC
    · rw [hgo] at hg2
      split at hg2
      · rename_i e; subst e; cases hg2; exact hφ.sep g1 i j b g2 _ o L2 hb hg hfz hL2
      · exact hφ.sep g1 i j b g2 v2 o2 L2 hb hg2 hf2 hL2

theorem OwnOK.cut {F : Fz} {β : Bt} {w : World} {L : Loc} {o : Own} {es : List D} (h : OwnOK F β w L { o with es := es }) (k : Nat) : OwnOK F β w L { o with es := es.take k } := by
  obtain ⟨o1, o2, o3, o4, o5, o6⟩ := h
  refine ⟨o1, o2, by simp only [List.length_take] at o3 ⊢; omega, o4, fun e he => o5 e (List.mem_of_mem_take he), ?_⟩
  cases hb : L.b with
  | none => rw [hb] at o6; exact o6
  | some b =>
    rw [hb] at o6
    obtain ⟨C, c1, c2, c3⟩ := o6
    refine ⟨C, c1, c2, fun p j e d he hd => c3 p j e d ?_ hd⟩
    simp only [List.getElem?_take] at he
    split at he
    · exact he
    · cases he
theorem OwnOK.cutIf {F : Fz} {β : Bt} {w : World} {L : Loc} {o : Own} {es : List D} (h : OwnOK F β w L { o with es := es }) (b : Bool) (k : Nat) : OwnOK F β w L { o with es := if b then es.take k else es } := by
  cases b
  · exact h
  · exact h.cut k

/-- a call that writes an own slice of ints in place -/
theorem inpl_ok {f : Nat} {q : Bool × (List Int → List Int) × (List Int → Nat)} (hq : InplOk P f q) (h : Sim N w0 F0 M B0 σ F β a w) {dst : Option Nat} (hd : ∀ t, dst = some t → t < N) {ds : List D} {xs : List Value} (hl : ds.length = xs.length)
    (hv : ∀ (j : Nat) d x, ds[j]? = some d → xs[j]? = some x → Env F β d x) (hc : ((inplR dst q ds).run σ).c) :
    Calls P f xs.toArray w (fun e w' => ∃ v F' β', e = .returned v ∧ Bsub β β' ∧ (∀ x, β' x = β x) ∧ Sim N w0 F0 M B0 (σ.app ((inplR dst q ds).run σ)) F' β' (a.put dst v) w') := by
  obtain ⟨q0, q1, q2⟩ := hq
  match ds, xs, hl with
  | [], _, _ => exact hc.elim
  | [d], [x], _ =>
    have hx := hv 0 d x rfl rfl
    cases d <;> try exact hc.elim
    case nils =>
      cases hx
      refine (q1 w none 0).mono ?_
      rintro e w' ⟨rfl, rfl⟩
      refine ⟨_, F, β, rfl, Bsub.refl _, fun _ => rfl, h.put hd ?_ rfl rfl rfl rfl⟩
      cases hr : q.1
      · exact Env.top _
      · exact Env.of_fro .nils
    case osl g v i n _ =>
      obtain ⟨L, ad, hL, rfl, hin, h0, hpos⟩ := hx
      simp only [inplR, R.run_go] at hc ⊢
      cases hg : σ.go g with
      | none => rw [hg] at hc; exact hc.elim
      | some p =>
        obtain ⟨v', o⟩ := p
        rw [hg] at hc
        simp only [R.run_ret] at hc ⊢
        obtain ⟨rfl, hfz, hvar, hs1, hlen, hbig, hpl, hint⟩ := hc
        generalize hzs : ((o.es.drop i).take n).map dInt = zs at hint ⊢
        have hzl : zs.length = n := by rw [← hzs]; simp; omega
        obtain ⟨fl0, fk0⟩ := q0 zs
        obtain ⟨L', hL', _, hown⟩ := h.own g v o hg
        rw [hL] at hL'; cases hL'
        have hown := hown hfz
        obtain ⟨o1, o2, o3, o4, o5, o6⟩ := hown
        have hres : Env F β (if q.1 = true then .osl g v i (q.2.2 zs) else .top) (if q.1 = true then .slice ad (q.2.2 zs) (L.cap - i) else .tuple #[]) := by
          cases hr : q.1
          · exact Env.top _
          · refine Env.of_val ⟨L, ad, hL, rfl, by omega, h0, fun hk => hpos (by omega)⟩
        have hplain : ∀ (zs' : List Int) (k : Nat), Dw.rich g = true → ∀ e ∈ (if q.1 = true then (o.es.take i ++ zs'.map (D.int .i64) ++ o.es.drop (i + n)).take k else o.es.take i ++ zs'.map (D.int .i64) ++ o.es.drop (i + n)), plainE e = true := by
          intro zs' k hr e he
          have he : e ∈ o.es.take i ++ zs'.map (D.int .i64) ++ o.es.drop (i + n) := by
            split at he
            · exact List.mem_of_mem_take he
            · exact he
          rcases List.mem_append.1 he with he | he
          · rcases List.mem_append.1 he with he | he
            · exact hpl hr e (List.mem_of_mem_take he)
            · obtain ⟨z, _, rfl⟩ := List.mem_map.1 he
              rfl
          · exact hpl hr e (List.mem_of_mem_drop he)
        by_cases hn : n = 0
        · subst hn
          have hz : zs = [] := List.eq_nil_of_length_eq_zero hzl
          subst hz
          have hf : q.2.1 [] = [] := List.eq_nil_of_length_eq_zero (by simpa using fl0)
          have hk : q.2.2 [] = 0 := by simpa using fk0
          rw [hk] at hres ⊢
          refine (q1 w ad (L.cap - i)).mono ?_
          rintro e w' ⟨rfl, rfl⟩
          refine ⟨_, F, β, rfl, Bsub.refl _, fun _ => rfl, ?_⟩
          have hes : o.es.take i ++ (q.2.1 []).map (D.int .i64) ++ o.es.drop (i + 0) = o.es := by rw [hf]; simp
          refine h.wrote hg hfz hL rfl rfl rfl (Nat.le_refl _) (fun _ _ _ => rfl) (OwnOK.cutIf ?_ _ _) (hplain _ _) hd hres
          rw [hes]
          exact ⟨o1, o2, o3, o4, o5, o6⟩
        · obtain ⟨b, hb, rfl⟩ := hpos (by omega)
          rw [hb] at o6
          obtain ⟨C, hC, hCs, hCx⟩ := o6
          have hes : ∀ (j : Nat) z, zs[j]? = some z → o.es[i + j]? = some (.int .i64 z) := by
            intro j z hz
            have h1 : (zs.map (D.int .i64))[j]? = some (.int .i64 z) := by rw [List.getElem?_map, hz]; rfl
            rw [← hint, List.getElem?_take] at h1
            split at h1
            · rwa [List.getElem?_drop] at h1
            · cases h1
          rw [hvar] at hCx
          have hcell : ∀ (j : Nat) z, zs[j]? = some z → C[i * L.s + j]? = some (.int .i64 z) := by
            intro j z hz
            obtain ⟨y, y1, _, y3⟩ := hCx (i + j) 0 _ _ (hes j z hz) rfl
            simp only [Bool.false_eq_true, if_false] at y3
            cases y3
            rw [o1, hs1, Nat.mul_one]
            rw [hs1, Nat.mul_one] at y1
            exact y1
          have := q2 w b (i * L.s) (L.cap - i) o.ty C zs (by omega) (by omega) (by omega) hC hcell
          rw [hzl] at this
          refine this.mono ?_
          rintro e w' ⟨rfl, e1, e2, e3, e4, e5, C', c1, c2, c3, c4⟩
          refine ⟨_, F, β, rfl, Bsub.refl _, fun _ => rfl, h.wrote hg hfz hL e1 e2 e3 e4 (fun b' hb' hne => e5 b' hb' fun e => hne (by rw [hb, e])) (OwnOK.cutIf ?_ _ _) (hplain _ _) hd hres⟩
          have hlen' : (o.es.take i ++ (q.2.1 zs).map (D.int .i64) ++ o.es.drop (i + n)).length = o.es.length := by simp [fl0, hzl]; omega
          have hget : ∀ p, (o.es.take i ++ (q.2.1 zs).map (D.int .i64) ++ o.es.drop (i + n))[p]? = if p < i ∨ i + n ≤ p then o.es[p]? else ((q.2.1 zs)[p - i]?).map (D.int .i64) := by
            intro p
            have hti : (o.es.take i).length = i := by simp; omega
            by_cases p1 : p < i
            · rw [if_pos (.inl p1), List.append_assoc, List.getElem?_append_left (by omega), List.getElem?_take, if_pos p1]
            · by_cases p2 : i + n ≤ p
              · rw [if_pos (.inr p2), List.getElem?_append_right (by simp [fl0, hzl]; omega), List.getElem?_drop]
                congr 1
                simp [fl0, hzl]; omega
              · rw [if_neg (by omega), List.append_assoc, List.getElem?_append_right (by omega), hti, List.getElem?_append_left (by simp [fl0, hzl]; omega), List.getElem?_map]
          refine ⟨o1, o2, by simp only [hlen']; exact o3, o4, ?_, ?_⟩
          · intro e he
            obtain ⟨p, hp⟩ := List.getElem?_of_mem he
            rw [hget] at hp
            split at hp
            · exact o5 e (List.mem_of_getElem? hp)
            · rw [Option.map_eq_some_iff] at hp
              obtain ⟨z, _, rfl⟩ := hp
              exact hs1.symm
          · rw [hb]
            refine ⟨C', c1, c2.trans hCs, fun p j e d he hdd => ?_⟩
            simp only at he ⊢
            rw [hget] at he
            rw [hvar]
            simp only [Bool.false_eq_true, if_false] at hCx ⊢
            have hs : L.s = 1 := o1.trans hs1
            have hj : j = 0 := by
              have hm : (cells e).length = 1 := by
                split at he
                · rw [← hs1]; exact o5 e (List.mem_of_getElem? he)
                · rw [Option.map_eq_some_iff] at he
                  obtain ⟨z, _, rfl⟩ := he
                  rfl
              have := (List.getElem?_eq_some_iff.1 hdd).1
              omega
            subst hj
            split at he
            · rename_i hp
              obtain ⟨y, y1, y2, y3⟩ := hCx p 0 e d he hdd
              refine ⟨y, ?_, y2, y3⟩
              rw [c3 _ (by rw [hs, hs1]; omega)]
              exact y1
            · rename_i hp
              rw [Option.map_eq_some_iff] at he
              obtain ⟨z, hz, rfl⟩ := he
              cases hdd
              refine ⟨.int .i64 z, ?_, rfl, .int _ _⟩
              have := c4 _ _ hz
              rw [hs] at this
              rw [hs1, ← this]
              congr 1
              omega
  | [_], [], hl => cases hl
  | [_], _ :: _ :: _, hl => cases hl
  | _ :: _ :: _, _, _ =>
    rename_i d1 d2 r _ _
    cases d1 <;> exact hc.elim

end
end Go.Dw
