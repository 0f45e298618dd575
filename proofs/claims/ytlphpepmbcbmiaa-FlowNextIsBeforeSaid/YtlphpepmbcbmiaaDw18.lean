/-
  THE LAYER Dw, PART 18: regions, in the order of the text and in any order.
-/
import Derived.Test.YtlphpepmbcbmiaaDw17
namespace Go.Dw

def S.get (σ : S) : Key → D × Obj?
  | .e t => (σ.ge t, none)
  | .o g => (.top, σ.go g)

theorem S.same_iff (σ τ : S) (k : Key) : σ.same τ k ↔ σ.get k = τ.get k := by
  cases k <;> simp [S.same, S.get]

def wrs (u : Out) : List Key := u.we.map (fun x => .e x.1) ++ u.wo.map (fun x => .o x.1)

theorem get_app_of_not (σ : S) (u : Out) (k : Key) (h : k ∉ wrs u) : (σ.app u).get k = σ.get k := by
  cases k with
  | e t =>
    simp only [S.get, S.ge, S.app, look_append]
    cases hl : look u.we t with
    | none => rfl
    | some d => exact absurd (List.mem_append_left _ (List.mem_map.2 ⟨_, look_mem hl, rfl⟩)) h
  | o g =>
    simp only [S.get, S.go, S.app, look_append]
    cases hl : look u.wo g with
    | none => rfl
    | some d => exact absurd (List.mem_append_right _ (List.mem_map.2 ⟨_, look_mem hl, rfl⟩)) h

theorem look_isSome_of_mem {α : Type} {l : List (Nat × α)} {t : Nat} (h : ∃ x, (t, x) ∈ l) : ∃ x, look l t = some x := by
  obtain ⟨x, hx⟩ := h
  cases hl : look l t with
  | none => exact absurd hx (look_none hl x)
  | some y => exact ⟨y, rfl⟩

theorem get_app_of_mem (σ τ : S) (u : Out) (k : Key) (h : k ∈ wrs u) : (σ.app u).get k = (τ.app u).get k := by
  cases k with
  | e t =>
    have : ∃ d, look u.we t = some d := by
      rcases List.mem_append.1 h with h | h
      · obtain ⟨p, hp, e⟩ := List.mem_map.1 h
        cases e
        exact look_isSome_of_mem ⟨p.2, hp⟩
      · obtain ⟨p, _, e⟩ := List.mem_map.1 h
        cases e
    obtain ⟨d, hd⟩ := this
    simp [S.get, S.ge, S.app, look_append, hd]
  | o g =>
    have : ∃ d, look u.wo g = some d := by
      rcases List.mem_append.1 h with h | h
      · obtain ⟨p, _, e⟩ := List.mem_map.1 h
        cases e
      · obtain ⟨p, hp, e⟩ := List.mem_map.1 h
        cases e
        exact look_isSome_of_mem ⟨p.2, hp⟩
    obtain ⟨d, hd⟩ := this
    simp [S.get, S.go, S.app, look_append, hd]

/-- the outputs of the operations in L, applied in the order of the text -/
def appL (L : Nat → Bool) : List Out → Nat → S → S
  | [], _, σ => σ
  | u :: r, i, σ => appL L r (i + 1) (if L i then σ.app u else σ)

theorem appL_get (L L' : Nat → Bool) (k : Key) : ∀ (us : List Out) (i : Nat) (σ σ' : S), (∀ (j : Nat) u, us[j]? = some u → k ∈ wrs u → L (i + j) = L' (i + j)) → σ.get k = σ'.get k → (appL L us i σ).get k = (appL L' us i σ').get k
  | [], _, _, _, _, h => h
  | u :: us, i, σ, σ', hL, h => by
    simp only [appL]
    refine appL_get L L' k us (i + 1) _ _ (fun j v hj hk => by
      have := hL (j + 1) v (by simpa using hj) hk
      rw [show i + (j + 1) = i + 1 + j by omega] at this
      exact this) ?_
    by_cases hm : k ∈ wrs u
    · have h0 := hL 0 u rfl hm
      simp only [Nat.add_zero] at h0
      rw [← h0]
      cases L i with
      | true => simp only [if_true]; exact get_app_of_mem _ _ _ _ hm
      | false => simpa using h
    · have e1 : (if L i = true then σ.app u else σ).get k = σ.get k := by
        split
        · exact get_app_of_not _ _ _ hm
        · rfl
      have e2 : (if L' i = true then σ'.app u else σ').get k = σ'.get k := by
        split
        · exact get_app_of_not _ _ _ hm
        · rfl
      rw [e1, e2, h]

section
variable {N : Nat} {w0 : World} {F0 : Fz} {M : Nat → Prop} {B0 : Bt} {σ : S} {F : Fz} {β : Bt} {a : Act} {w : World} {P : Program}

theorem Sim.congr {σ' : S} (h : Sim N w0 F0 M B0 σ F β a w) (hk : ∀ k, σ'.get k = σ.get k) : Sim N w0 F0 M B0 σ' F β a w := by
  have he : ∀ t, σ'.ge t = σ.ge t := fun t => by have := hk (.e t); simpa [S.get] using this
  have ho : ∀ g, σ'.go g = σ.go g := fun g => by have := hk (.o g); simpa [S.get] using this
  refine { nam := h.nam, size := h.size, defers := h.defers, env := fun t => by rw [he]; exact h.env t, own := ?_, dist := ?_, sep := ?_, rich := (by obtain ⟨φ, hφ⟩ := h.rich; exact ⟨φ, hφ.congr ho⟩), frz := h.frz, fin := h.fin, step := h.step }
  · intro g v o hg; rw [ho] at hg; exact h.own g v o hg
  · intro g g' v v' o o' L L' b hg hg'; rw [ho] at hg hg'; exact h.dist g g' v v' o o' L L' b hg hg'
  · intro g v o L b hg; rw [ho] at hg; exact h.sep g v o L b hg

theorem list_sound {Γ : Specs} (hΓ : ∀ k sp, Γ k = some sp → SpecOk P (k % 4096) sp) {ops : Array Oper} {Q : Exit → Act → World → Prop} {KD : S → Prop} : ∀ (l : List Oper) (i : Nat) (ds : List DOper), cOpers P N ops false i l = some ds →
    ∀ (σ : S) (F : Fz) (β : Bt) (a : Act) (w : World) (nv : Nat), Sim N w0 F0 M B0 σ F β a w → (∀ v, nv ≤ v → β v = none) → Dw.wpOps Γ ds nv σ KD →
    (∀ τ F' β' a' w', Sim N w0 F0 M B0 τ F' β' a' w' → (∀ v, nv + ds.length ≤ v → β' v = none) → KD τ → Q .normal a' w') → wpList P ops Q l a w
  | [], i, ds, hds, σ, F, β, a, w, nv, h, hf, hw, hQ => by
    simp only [cOpers, Option.some.injEq] at hds
    subst hds
    exact wpList_nil (hQ σ F β a w h (by simpa using hf) hw)
  | o :: l, i, ds, hds, σ, F, β, a, w, nv, h, hf, hw, hQ => by
    simp only [cOpers, Option.bind_eq_bind, Option.bind_eq_some_iff] at hds
    obtain ⟨o', ho', r, hr, he⟩ := hds
    cases he
    obtain ⟨hc, hw'⟩ := hw
    refine wpList_step fun K hK => ?_
    refine oper_sound hΓ h ho' (hf nv (Nat.le_refl _)) hc K Q fun a' w' F' β' hS hb1 hb2 => hK a' w' ?_
    refine list_sound hΓ l (i + 1) r hr _ F' β' a' w' (nv + 1) hS (fun v hv => ?_) hw' (fun τ F2 β2 a2 w2 h2 hf2 hk => hQ τ F2 β2 a2 w2 h2 (fun v hv => hf2 v (by simp at hv; omega)) hk)
    rw [hb2 v (by omega)]
    exact hf v (by omega)

/-- the outputs in the order of the text -/
def outs (Γ : Specs) : List DOper → Nat → S → List Out
  | [], _, _ => []
  | o :: r, nv, σ => (evalOper Γ nv o).run σ :: outs Γ r (nv + 1) (σ.app ((evalOper Γ nv o).run σ))

theorem outs_spec (Γ : Specs) : ∀ (ds : List DOper) (nv : Nat) (σ : S) (i : Nat) (L : Nat → Bool), (∀ j, L (i + j) = true) →
    (outs Γ ds nv σ).length = ds.length ∧ (∀ K, Dw.wpOps Γ ds nv σ K → K (appL L (outs Γ ds nv σ) i σ) ∧ ∀ u ∈ outs Γ ds nv σ, u.c)
  | [], nv, σ, i, L, hL => ⟨rfl, fun K hK => ⟨hK, fun u hu => by cases hu⟩⟩
  | o :: ds, nv, σ, i, L, hL => by
    obtain ⟨h1, h2⟩ := outs_spec Γ ds (nv + 1) (σ.app ((evalOper Γ nv o).run σ)) (i + 1) L (fun j => by have := hL (j + 1); rw [show i + (j + 1) = i + 1 + j by omega] at this; exact this)
    refine ⟨by simp [outs, h1], fun K hK => ?_⟩
    obtain ⟨k1, k2⟩ := hK
    obtain ⟨k3, k4⟩ := h2 K k2
    have hi : L i = true := by have := hL 0; simpa using this
    refine ⟨by simpa [outs, appL, hi] using k3, fun u hu => ?_⟩
    simp only [outs, List.mem_cons] at hu
    rcases hu with rfl | hu
    · exact k1
    · exact k4 u hu

/-- operation j of the text runs in the state that those before it have left -/
theorem outs_get (Γ : Specs) : ∀ (ds : List DOper) (nv : Nat) (σ : S) (i j : Nat) (o : DOper), ds[j]? = some o →
    ∃ u, (outs Γ ds nv σ)[j]? = some u ∧ u = (evalOper Γ (nv + j) o).run (appL (fun q => decide (q < i + j)) (outs Γ ds nv σ) i σ) ∧
      (feet Γ ds nv σ)[j]? = some ((evalOper Γ (nv + j) o).rd (appL (fun q => decide (q < i + j)) (outs Γ ds nv σ) i σ), wrs u, o.after)
  | [], nv, σ, i, j, o, h => by simp at h
  | o0 :: ds, nv, σ, i, j, o, h => by
    rcases j with _ | j
    · simp only [List.getElem?_cons_zero, Option.some.injEq] at h
      subst h
      have hz : ∀ (us : List Out) (k : Nat) (τ : S), i ≤ k → appL (fun q => decide (q < i + 0)) us k τ = τ := by
        intro us
        induction us with
        | nil => intro k τ _; rfl
        | cons u us ih =>
          intro k τ hk
          simp only [appL]
          have : ¬ k < i + 0 := by omega
          simp only [this, decide_false, Bool.false_eq_true, if_false]
          exact ih (k + 1) τ (by omega)
      refine ⟨_, rfl, ?_, ?_⟩
      · rw [hz _ i σ (Nat.le_refl _)]; rfl
      · rw [hz _ i σ (Nat.le_refl _)]; rfl
    · simp only [List.getElem?_cons_succ] at h
      obtain ⟨u, h1, h2, h3⟩ := outs_get Γ ds (nv + 1) (σ.app ((evalOper Γ nv o0).run σ)) (i + 1) j o h
      have e1 : i + 1 + j = i + (j + 1) := by omega
      have e2 : nv + 1 + j = nv + (j + 1) := by omega
      rw [e1, e2] at h2 h3
      have hi : (decide (i < i + (j + 1))) = true := by simp
      refine ⟨u, by simpa [outs] using h1, ?_, ?_⟩
      · simp only [outs, appL, hi, if_true]
        exact h2
      · simp only [outs, appL, hi, if_true, feet, List.getElem?_cons_succ]
        exact h3

/-- an operation waits for another one, directly or through others -/
inductive Dep (L : List (List Nat)) : Nat → Nat → Prop
  | one {j e : Nat} {a : List Nat} (h : L[j]? = some a) (he : e ∈ a) : Dep L j e
  | more {j e i : Nat} {a : List Nat} (h : L[j]? = some a) (he : e ∈ a) (hd : Dep L e i) : Dep L j i

theorem ancs_ok (L : List (List Nat)) : ∀ (r acc : List (List Nat)) (pre : List (List Nat)), L = pre ++ r → pre.length = acc.length → (∀ j i, i ∈ acc.getD j [] → Dep L j i) → ∀ j i, i ∈ (ancs acc r).getD j [] → Dep L j i
  | [], acc, _, _, _, h => h
  | a :: r, acc, pre, hL, hlen, h => by
    refine ancs_ok L r _ (pre ++ [a]) (by simp [hL]) (by simp [hlen]) (fun j i hi => ?_)
    have ha : L[acc.length]? = some a := by rw [hL, ← hlen]; simp
    rcases Nat.lt_trichotomy j acc.length with hj | hj | hj
    · rw [List.getD_eq_getElem?_getD, List.getElem?_append_left hj, ← List.getD_eq_getElem?_getD] at hi
      exact h j i hi
    · subst hj
      rw [List.getD_eq_getElem?_getD, List.getElem?_append_right (Nat.le_refl _), Nat.sub_self] at hi
      simp only [List.getElem?_cons_zero, Option.getD_some, List.mem_eraseDups, List.mem_append, List.mem_flatMap] at hi
      rcases hi with hi | ⟨e, he, hi⟩
      · exact .one ha hi
      · exact .more ha he (h e i hi)
    · rw [List.getD_eq_getElem?_getD, List.getElem?_append_right (by omega)] at hi
      have : j - acc.length = (j - acc.length - 1) + 1 := by omega
      rw [this, List.getElem?_cons_succ] at hi
      simp at hi

theorem drawOk_spec {f : List (List Key × List Key × List Nat)} (h : drawOk f = true) {i j : Nat} {x y : List Key × List Key × List Nat} (hij : i < j) (hx : f[i]? = some x) (hy : f[j]? = some y) (hc : clash x y = true) : Dep (f.map fun x => x.2.2) j i := by
  unfold drawOk drawOkA at h
  rw [List.all_eq_true] at h
  have hj : j < f.length := (List.getElem?_eq_some_iff.1 hy).1
  have h1 := h j (List.mem_range.2 hj)
  rw [List.all_eq_true] at h1
  have h2 := h1 i (List.mem_range.2 hij)
  have ex : f.getD i ([], [], []) = x := by rw [List.getD_eq_getElem?_getD, hx]; rfl
  have ey : f.getD j ([], [], []) = y := by rw [List.getD_eq_getElem?_getD, hy]; rfl
  rw [ex, ey, hc] at h2
  exact ancs_ok _ _ [] [] rfl rfl (fun j i hi => by simp at hi) j i (by simpa using h2)

theorem meet_of {a b : List Key} {k : Key} (h1 : k ∈ a) (h2 : k ∈ b) : meet a b = true := by
  simp only [meet, List.any_eq_true]
  exact ⟨k, h1, by simpa using h2⟩

theorem cOpers_get {ops : Array Oper} {draw : Bool} : ∀ (l : List Oper) (i : Nat) (ds : List DOper), cOpers P N ops draw i l = some ds → ds.length = l.length ∧ ∀ (j : Nat) o, l[j]? = some o → ∃ o', ds[j]? = some o' ∧ cOper P N ops draw (i + j) o = some o'
  | [], i, ds, h => by
    simp only [cOpers, Option.some.injEq] at h
    subst h
    exact ⟨rfl, fun j o h => by simp at h⟩
  | o0 :: l, i, ds, h => by
    simp only [cOpers, Option.bind_eq_bind, Option.bind_eq_some_iff] at h
    obtain ⟨o', ho', r, hr, he⟩ := h
    cases he
    obtain ⟨k1, k2⟩ := cOpers_get l (i + 1) r hr
    refine ⟨by simp [k1], fun j o hj => ?_⟩
    rcases j with _ | j
    · simp only [List.getElem?_cons_zero, Option.some.injEq] at hj
      subst hj
      exact ⟨o', rfl, ho'⟩
    · simp only [List.getElem?_cons_succ] at hj ⊢
      obtain ⟨o'', h1, h2⟩ := k2 j o hj
      exact ⟨o'', h1, by rw [show i + (j + 1) = i + 1 + j by omega]; exact h2⟩

theorem cOper_after {ops : Array Oper} {draw : Bool} {i : Nat} {o : Oper} {o' : DOper} (h : cOper P N ops draw i o = some o') : o'.after = cAfter draw o ∧ ∀ e ∈ cAfter draw o, e < i := by
  unfold cOper at h
  simp only [Option.bind_eq_some_iff] at h
  obtain ⟨_, _, _, _, he⟩ := h
  split at he
  · rename_i hc
    cases he
    simp only [Bool.and_eq_true, List.all_eq_true, decide_eq_true_eq] at hc
    exact ⟨rfl, hc.2⟩
  · cases he

theorem count_less (p : Nat → Bool) (i : Nat) : ∀ l : List Nat, l.Nodup → i ∈ l → p i = true → l.countP p = l.countP (fun j => p j && j != i) + 1
  | [], _, h, _ => by cases h
  | x :: l, hn, h, hp => by
    simp only [List.nodup_cons] at hn
    by_cases hx : x = i
    · subst hx
      have : l.countP p = l.countP (fun j => p j && j != x) := by
        apply List.countP_congr
        intro y hy
        have : y ≠ x := fun e => hn.1 (by rw [← e]; exact hy)
        simp [this]
      simp [List.countP_cons, hp, this]
    · have hm : i ∈ l := by
        rcases List.mem_cons.1 h with h | h
        · exact absurd h.symm hx
        · exact h
      have ih := count_less p i l hn.2 hm hp
      simp only [List.countP_cons, ih]
      have : (x != i) = true := by simpa using hx
      simp only [this, Bool.and_true]
      omega

end
end Go.Dw
