/-
  THE LAYER Dx, PART 1: programs on typed data ('Option', 'LoopT') and what it means that code does what such a program says ('Tr', 'TrO', 'TrX'). The rules for code.
-/
import Derived.Test.YtlphpepmbcbmiaaDw24
namespace Go.Dw

/-! ### Loops on typed data -/
section
variable {ι R : Type} {body : ι → Option (ι ⊕ R)} {s : ι} {r r' : R} {n m : Nat}

def iterT (body : ι → Option (ι ⊕ R)) : Nat → ι → Option R
  | 0, _ => none
  | n + 1, s => match body s with
    | none => none
    | some (.inr r) => some r
    | some (.inl s') => iterT body n s'

theorem iterT_succ : iterT body (n + 1) s = match body s with
    | none => none
    | some (.inr r) => some r
    | some (.inl s') => iterT body n s' := rfl

theorem iterT_mono : ∀ {n m : Nat} {s : ι}, iterT body n s = some r → n ≤ m → iterT body m s = some r
  | 0, _, _, h, _ => by cases h
  | n + 1, 0, _, _, h' => by omega
  | n + 1, m + 1, s, h, h' => by
    rw [iterT_succ] at h ⊢
    cases hb : body s with
    | none => rw [hb] at h; cases h
    | some x =>
      rw [hb] at h
      cases x with
      | inr y => exact h
      | inl s' => exact iterT_mono h (Nat.le_of_succ_le_succ h')

theorem iterT_det (h : iterT body n s = some r) (h' : iterT body m s = some r') : r = r' := by
  have h1 := iterT_mono h (Nat.le_max_left n m)
  have h2 := iterT_mono h' (Nat.le_max_right n m)
  rw [h1] at h2
  exact Option.some.inj h2

open Classical in
noncomputable def LoopT (body : ι → Option (ι ⊕ R)) (s : ι) : Option R :=
  if h : ∃ r, ∃ n, iterT body n s = some r then some (Classical.choose h) else none

theorem LoopT_iff : LoopT body s = some r ↔ ∃ n, iterT body n s = some r := by
  unfold LoopT
  split
  · rename_i h
    obtain ⟨n, hn⟩ := Classical.choose_spec h
    constructor
    · intro e
      cases e
      exact ⟨n, hn⟩
    · rintro ⟨m, hm⟩
      rw [iterT_det hn hm]
  · rename_i h
    constructor
    · intro e; cases e
    · rintro ⟨n, hn⟩; exact (h ⟨r, n, hn⟩).elim

theorem LoopT_eq (body : ι → Option (ι ⊕ R)) (s : ι) : LoopT body s = match body s with
    | none => none
    | some (.inr r) => some r
    | some (.inl s') => LoopT body s' := by
  apply Option.ext
  intro r
  rw [LoopT_iff]
  cases hb : body s with
  | none =>
    simp only [reduceCtorEq, iff_false, not_exists]
    intro n hn
    cases n with
    | zero => cases hn
    | succ n => rw [iterT_succ, hb] at hn; cases hn
  | some x =>
    cases x with
    | inr y =>
      constructor
      · rintro ⟨n, hn⟩
        cases n with
        | zero => cases hn
        | succ n => rw [iterT_succ, hb] at hn; exact hn
      · intro e; exact ⟨1, by rw [iterT_succ, hb]; exact e⟩
    | inl s' =>
      simp only [LoopT_iff]
      constructor
      · rintro ⟨n, hn⟩
        cases n with
        | zero => cases hn
        | succ n => rw [iterT_succ, hb] at hn; exact ⟨n, hn⟩
      · rintro ⟨n, hn⟩; exact ⟨n + 1, by rw [iterT_succ, hb]; exact hn⟩

/-- A LOOP ENDS WITH WHAT ITS INVARIANT SAYS. -/
theorem LoopT_inv (I : ι → Prop) (P : R → Prop) (μ : ι → Nat) (h0 : I s)
    (hb : ∀ s, I s → (∃ s', body s = some (.inl s') ∧ I s' ∧ μ s' < μ s) ∨ ∃ r, body s = some (.inr r) ∧ P r) : ∃ r, LoopT body s = some r ∧ P r := by
  generalize hk : μ s = k
  induction k using Nat.strongRecOn generalizing s with
  | _ k ih =>
    rw [LoopT_eq]
    rcases hb s h0 with ⟨s', h1, h2, h3⟩ | ⟨r, h1, h2⟩
    · rw [h1]
      exact ih (μ s') (by omega) h2 rfl
    · rw [h1]
      exact ⟨r, rfl, h2⟩
end

/-! ### The words of typed programs -/
def chk {R : Type} (p : Prop) [Decidable p] (t : Option R) : Option R := if p then t else none
def ixO {α : Type} (l : List α) (i : Int) : Option α := if i < 0 then none else l[i.toNat]?
def lft {ι R : Type} (t : Option R) : Option (ι ⊕ R) := t.map .inr
def cnt {ι R : Type} (s : ι) : Option (ι ⊕ R) := some (.inl s)

theorem chk_pos {R : Type} {p : Prop} [Decidable p] {t : Option R} (h : p) : chk p t = t := if_pos h
theorem chk_some {R : Type} {p : Prop} [Decidable p] {t : Option R} {r : R} (h : chk p t = some r) : p ∧ t = some r := by
  unfold chk at h
  split at h
  · exact ⟨‹_›, h⟩
  · cases h
theorem ixO_some {α : Type} {l : List α} {i : Int} {x : α} (h : ixO l i = some x) : 0 ≤ i ∧ i < l.length ∧ l[i.toNat]? = some x := by
  unfold ixO at h
  split at h
  · cases h
  · have := (List.getElem?_eq_some_iff.1 h).1
    exact ⟨by omega, by omega, h⟩

/-! ### What is meant -/
section
variable {Γ : Specs} {R ι γ : Type}

def Has (σ : S) (E : List (Nat × D)) (O : List (Nat × Obj?)) : Prop := ∃ n, Chg σ ⟨E, O, n⟩

def Tr (Γ : Specs) (c : DCode) (K : R → DExit → S → Prop) (σ : S) (t : Option R) : Prop := ∀ r, t = some r → DWp Γ c (K r) σ
def TrX (e : DExit) (K : R → DExit → S → Prop) (σ : S) (t : Option R) : Prop := ∀ r, t = some r → K r e σ
abbrev Foot := List Key × List Key × List Nat
def TrO (Γ : Specs) (ops : List DOper) (nv : Nat) (σ : S) (d : Bool) (acc : List Foot) (K : R → S → Prop) (t : Option R) : Prop :=
  ∀ r, t = some r → Dw.wpOps Γ ops nv σ (K r) ∧ (d = true → drawOk (acc ++ feet Γ ops nv σ) = true)

def kReg (N : Nat) (K : R → DExit → S → Prop) : R → S → Prop := fun r τ => K r .normal { τ with n := N }
def kSeq (Γ : Specs) (b : DCode) (K : R → DExit → S → Prop) : R → DExit → S → Prop := fun r => DExit.then (Wk (DWp Γ b (K r))) (K r)
def kBlk (id : Nat) (K : R → DExit → S → Prop) : R → DExit → S → Prop := fun r => DExit.inBlock id (K r)
/-- at a cut: the data have a given form -/
def kCut (E : ι → γ → List (Nat × D)) (O : ι → γ → List (Nat × Obj?)) (j : ι → Option R) (K : R → DExit → S → Prop) : R → DExit → S → Prop := fun r e τ =>
  match e with
  | .normal => ∃ s g, j s = some r ∧ Has τ (E s g) (O s g)
  | e => K r e τ
/-- a block at whose end the data have a given form -/
def kBCut (id : Nat) (E : ι → γ → List (Nat × D)) (O : ι → γ → List (Nat × Obj?)) (j : ι → Option R) (K : R → DExit → S → Prop) : R → DExit → S → Prop := fun r e τ =>
  match e with
  | .normal => ∃ s g, j s = some r ∧ Has τ (E s g) (O s g)
  | .exit id' => if id' = id then ∃ s g, j s = some r ∧ Has τ (E s g) (O s g) else K r (.exit id') τ
  | .ret => K r .ret τ
def kLoop (E : ι → γ → List (Nat × D)) (O : ι → γ → List (Nat × Obj?)) (K : R → DExit → S → Prop) : (ι ⊕ R) → DExit → S → Prop := fun x e τ =>
  match x, e with
  | .inl s, .normal => ∃ g, Has τ (E s g) (O s g)
  | .inl _, _ => False
  | .inr _, .normal => False
  | .inr r, e => K r e τ

theorem wpOps_mono : ∀ (ops : List DOper) (nv : Nat) (σ : S) (K K' : S → Prop), (∀ τ, K τ → K' τ) → Dw.wpOps Γ ops nv σ K → Dw.wpOps Γ ops nv σ K'
  | [], _, _, _, _, hK, h => hK _ h
  | _ :: ops, _, _, _, _, hK, h => ⟨h.1, wpOps_mono ops _ _ _ _ hK h.2⟩

theorem Wk.mono {f g : S → Prop} (h : ∀ τ, f τ → g τ) {σ : S} : Wk f σ → Wk g σ := fun ⟨τ, h1, h2⟩ => ⟨τ, h1, h τ h2⟩

theorem DWp_mono : ∀ (b : DCode) (Q Q' : DExit → S → Prop) (σ : S), (∀ e τ, Q e τ → Q' e τ) → DWp Γ b Q σ → DWp Γ b Q' σ
  | .skip, _, _, _, h, hd => h _ _ hd
  | .ret, _, _, _, h, hd => h _ _ hd
  | .exit _, _, _, _, h, hd => h _ _ hd
  | .reg ops _, _, _, _, h, hd => ⟨wpOps_mono ops _ _ _ _ (fun _ hq => h _ _ hq) hd.1, hd.2⟩
  | .seq a b, Q, Q', σ, h, hd => DWp_mono a _ _ σ (fun e τ hq => by
      cases e with
      | normal => exact Wk.mono (fun τ' h' => DWp_mono b _ _ τ' h h') hq
      | exit id => exact h _ _ hq
      | ret => exact h _ _ hq) hd
  | .cond c a b, Q, Q', σ, h, hd => by
    simp only [DWp] at hd ⊢
    generalize evalA σ c = d at *
    cases d <;> try exact hd.elim
    exact ⟨fun ht => DWp_mono a _ _ σ h (hd.1 ht), fun ht => DWp_mono b _ _ σ h (hd.2 ht)⟩
  | .block id b, Q, Q', σ, h, hd => DWp_mono b _ _ σ (fun e τ hq => by
      cases e with
      | normal => exact h _ _ hq
      | ret => exact h _ _ hq
      | exit id' =>
        simp only [DExit.inBlock] at hq ⊢
        split
        · rename_i e; rw [if_pos e] at hq; exact Wk.mono (fun τ' h' => h _ _ h') hq
        · rename_i e; rw [if_neg e] at hq; exact h _ _ hq) hd
  | .loop b, Q, Q', σ, h, ⟨ι, St, μ, i₀, h1, h2⟩ => ⟨ι, St, μ, i₀, h1, fun i => DWp_mono b _ _ _ (fun e τ hq => by
      cases e with
      | normal => exact hq
      | exit id => exact h _ _ hq
      | ret => exact h _ _ hq) (h2 i)⟩

/-! ### Code -/
variable {K : R → DExit → S → Prop} {t t1 t2 : Option R} {e : List (Nat × D)} {o : List (Nat × Obj?)} {n N nv : Nat} {σ τ : S} {a b : DCode}

theorem tr_reg {ops : List DOper} {d : Bool} (h : TrO Γ ops n ⟨e, o, n⟩ d [] (kReg (n + ops.length) K) t) : Tr Γ (.reg ops d) K ⟨e, o, n⟩ t :=
  fun r hr => h r hr
theorem trO_nil {acc : List Foot} (h : TrX .normal K ⟨e, o, N⟩ t) : TrO Γ [] nv ⟨e, o, n⟩ false acc (kReg N K) t :=
  fun r hr => ⟨h r hr, fun hd => by cases hd⟩
theorem trO_nil_draw {acc : List Foot} (ha : drawOk acc = true) (h : TrX .normal K ⟨e, o, N⟩ t) : TrO Γ [] nv ⟨e, o, n⟩ true acc (kReg N K) t :=
  fun r hr => ⟨h r hr, fun _ => by simpa [feet] using ha⟩
/-- the description of the first state may be changed -/
def TrE (Γ : Specs) (c : DCode) (K : R → DExit → S → Prop) (σ : S) (t : Option R) : Prop := ∀ r, t = some r → Wk (DWp Γ c (K r)) σ
theorem tr_ent (h : Tr Γ a K σ t) : TrE Γ a K σ t := fun r hr => ⟨_, .refl _, h r hr⟩
theorem tr_ent_has {E : List (Nat × D)} {O : List (Nat × Obj?)} (hh : Has σ E O) (h : ∀ n, Tr Γ a K ⟨E, O, n⟩ t) : TrE Γ a K σ t :=
  fun r hr => hh.elim fun n hh => ⟨_, hh, h n r hr⟩
theorem tr_seq (h : Tr Γ a (kSeq Γ b K) σ t) : Tr Γ (.seq a b) K σ t := h
theorem trX_seq (h : Tr Γ b K τ t) : TrX .normal (kSeq Γ b K) τ t := fun r hr => ⟨_, .refl _, h r hr⟩
theorem trX_seq_has {E : List (Nat × D)} {O : List (Nat × Obj?)} (hh : Has τ E O) (h : ∀ n, Tr Γ b K ⟨E, O, n⟩ t) : TrX .normal (kSeq Γ b K) τ t :=
  fun r hr => hh.elim fun n hh => ⟨_, hh, h n r hr⟩
theorem trX_seq_exit {id : Nat} (h : TrX (.exit id) K τ t) : TrX (.exit id) (kSeq Γ b K) τ t := h
theorem trX_seq_ret (h : TrX .ret K τ t) : TrX .ret (kSeq Γ b K) τ t := h
theorem tr_block {id : Nat} (h : Tr Γ b (kBlk id K) σ t) : Tr Γ (.block id b) K σ t := h
theorem trX_blk_normal {id : Nat} (h : TrX .normal K τ t) : TrX .normal (kBlk id K) τ t := h
theorem trX_blk_ret {id : Nat} (h : TrX .ret K τ t) : TrX .ret (kBlk id K) τ t := h
theorem trX_blk_here {id : Nat} (h : TrX .normal K τ t) : TrX (.exit id) (kBlk id K) τ t :=
  fun r hr => by
    show (if id = id then Wk (K r .normal) τ else K r (.exit id) τ)
    rw [if_pos rfl]
    exact ⟨_, .refl _, h r hr⟩
theorem trX_blk_exit {id id' : Nat} (hne : Nat.beq id' id = false) (h : TrX (.exit id') K τ t) : TrX (.exit id') (kBlk id K) τ t :=
  fun r hr => by
    show (if id' = id then Wk (K r .normal) τ else K r (.exit id') τ)
    rw [if_neg (fun e => by subst e; simp at hne)]
    exact h r hr
theorem tr_skip (h : TrX .normal K σ t) : Tr Γ .skip K σ t := h
theorem tr_ret (h : TrX .ret K σ t) : Tr Γ .ret K σ t := h
theorem tr_exit {id : Nat} (h : TrX (.exit id) K σ t) : Tr Γ (.exit id) K σ t := h

def lookB {α : Type} : List (Nat × α) → Nat → Option α
  | [], _ => none
  | (k, x) :: r, t => bif Nat.beq t k then some x else lookB r t
theorem lookB_eq {α : Type} : ∀ (l : List (Nat × α)) (t : Nat), lookB l t = look l t
  | [], _ => rfl
  | (k, x) :: r, t => by
    simp only [lookB, look, lookB_eq r t]
    by_cases h : t = k
    · subst h; simp
    · have : Nat.beq t k = false := by
        cases hb : Nat.beq t k
        · rfl
        · exact absurd (Nat.eq_of_beq_eq_true hb) h
      simp [h, this]
def rdArg (e : List (Nat × D)) : Arg → Option D
  | .t n => lookB e n
  | .c d => some d

theorem tr_cond {x : Arg} {c : Bool} (hx : rdArg e x = some (.bool c)) (h1 : Tr Γ a K ⟨e, o, n⟩ t1) (h2 : Tr Γ b K ⟨e, o, n⟩ t2) : Tr Γ (.cond x a b) K ⟨e, o, n⟩ (bif c then t1 else t2) := by
  intro r hr
  have hv : evalA ⟨e, o, n⟩ x = .bool c := by cases x <;> simp_all [rdArg, evalA, S.ge, lookB_eq]
  simp only [DWp, hv]
  cases c with
  | true => exact ⟨fun _ => h1 r hr, fun h => by cases h⟩
  | false => exact ⟨fun h => (by cases h), fun _ => h2 r hr⟩
theorem tr_cond_true {x : Arg} (hx : rdArg e x = some (.bool true)) (h1 : Tr Γ a K ⟨e, o, n⟩ t) : Tr Γ (.cond x a b) K ⟨e, o, n⟩ t := by
  intro r hr
  have hv : evalA ⟨e, o, n⟩ x = .bool true := by cases x <;> simp_all [rdArg, evalA, S.ge, lookB_eq]
  simp only [DWp, hv]
  exact ⟨fun _ => h1 r hr, fun h => (by cases h)⟩
theorem tr_cond_false {x : Arg} (hx : rdArg e x = some (.bool false)) (h1 : Tr Γ b K ⟨e, o, n⟩ t) : Tr Γ (.cond x a b) K ⟨e, o, n⟩ t := by
  intro r hr
  have hv : evalA ⟨e, o, n⟩ x = .bool false := by cases x <;> simp_all [rdArg, evalA, S.ge, lookB_eq]
  simp only [DWp, hv]
  exact ⟨fun h => (by cases h), fun _ => h1 r hr⟩

/-! ### Cuts and loops -/
variable {E : ι → γ → List (Nat × D)} {O : ι → γ → List (Nat × Obj?)} {j : ι → Option R}

theorem tr_seq_cut (h1 : Tr Γ a (kCut E O j K) σ t) (h2 : ∀ s g n, Tr Γ b K ⟨E s g, O s g, n⟩ (j s)) : Tr Γ (.seq a b) K σ t := by
  intro r hr
  refine DWp_mono a _ _ σ (fun e τ hq => ?_) (h1 r hr)
  cases e with
  | normal =>
    obtain ⟨s, g, hj, m, hw⟩ := hq
    exact ⟨_, hw, h2 s g _ r hj⟩
  | exit id => exact hq
  | ret => exact hq
theorem trX_cut {s : ι} (g : γ) (h : Has τ (E s g) (O s g)) : TrX .normal (kCut E O j K) τ (j s) := fun _ hr => ⟨s, g, hr, h⟩
theorem trX_cut_exit {id : Nat} (h : TrX (.exit id) K τ t) : TrX (.exit id) (kCut E O j K) τ t := h
theorem trX_cut_ret (h : TrX .ret K τ t) : TrX .ret (kCut E O j K) τ t := h

theorem tr_seq_blk_cut {id : Nat} {c : DCode} (h1 : Tr Γ b (kBCut id E O j K) σ t) (h2 : ∀ s g n, Tr Γ c K ⟨E s g, O s g, n⟩ (j s)) : Tr Γ (.seq (.block id b) c) K σ t := by
  intro r hr
  refine DWp_mono b _ _ σ (fun e τ hq => ?_) (h1 r hr)
  cases e with
  | normal =>
    obtain ⟨s, g, hj, m, hw⟩ := hq
    exact ⟨_, hw, h2 s g _ r hj⟩
  | exit id' =>
    simp only [kBCut] at hq
    simp only [DExit.inBlock]
    split
    · rename_i e
      rw [if_pos e] at hq
      obtain ⟨s, g, hj, m, hw⟩ := hq
      exact ⟨_, hw, _, .refl _, h2 s g _ r hj⟩
    · rename_i e
      rw [if_neg e] at hq
      exact hq
  | ret => exact hq
theorem trX_bcut_normal {id : Nat} {s : ι} (g : γ) (h : Has τ (E s g) (O s g)) : TrX .normal (kBCut id E O j K) τ (j s) := fun _ hr => ⟨s, g, hr, h⟩
theorem trX_bcut_here {id : Nat} {s : ι} (g : γ) (h : Has τ (E s g) (O s g)) : TrX (.exit id) (kBCut id E O j K) τ (j s) := fun r hr => by
  show (if id = id then _ else _)
  rw [if_pos rfl]
  exact ⟨s, g, hr, h⟩
theorem trX_bcut_exit {id id' : Nat} (hne : Nat.beq id' id = false) (h : TrX (.exit id') K τ t) : TrX (.exit id') (kBCut id E O j K) τ t := fun r hr => by
  show (if id' = id then _ else _)
  rw [if_neg (fun e => by subst e; simp at hne)]
  exact h r hr
theorem trX_bcut_ret {id : Nat} (h : TrX .ret K τ t) : TrX .ret (kBCut id E O j K) τ t := h

theorem trX_loop {s : ι} (g : γ) (h : Has τ (E s g) (O s g)) : TrX .normal (kLoop E O K) τ (cnt s) := fun r hr => by
  cases hr
  exact ⟨g, h⟩
theorem trX_loop_exit {id : Nat} (h : TrX (.exit id) K τ t) : TrX (.exit id) (kLoop E O K) τ (lft t) := fun r hr => by
  cases t with
  | none => cases hr
  | some x => cases hr; exact h x rfl
theorem trX_loop_ret (h : TrX .ret K τ t) : TrX .ret (kLoop E O K) τ (lft t) := fun r hr => by
  cases t with
  | none => cases hr
  | some x => cases hr; exact h x rfl

theorem tr_loop {body : ι → Option (ι ⊕ R)} {s : ι} (g : γ) (h0 : Has ⟨e, o, n⟩ (E s g) (O s g)) (hb : ∀ s g n, Tr Γ b (kLoop E O K) ⟨E s g, O s g, n⟩ (body s)) : Tr Γ (.loop b) K ⟨e, o, n⟩ (LoopT body s) := by
  intro r hr
  obtain ⟨k, hk⟩ := LoopT_iff.1 hr
  refine ⟨{ x : (ι × γ × Nat) × Nat // iterT body x.2 x.1.1 = some r }, fun x => ⟨E x.1.1.1 x.1.1.2.1, O x.1.1.1 x.1.1.2.1, x.1.1.2.2⟩, fun x => x.1.2, ⟨((s, g, h0.choose), k), hk⟩, h0.choose_spec, ?_⟩
  rintro ⟨⟨⟨s, g, n⟩, k⟩, hk⟩
  simp only at hk
  cases k with
  | zero => cases hk
  | succ k =>
    rw [iterT_succ] at hk
    cases hx : body s with
    | none => rw [hx] at hk; cases hk
    | some x =>
      rw [hx] at hk
      refine DWp_mono b _ _ _ (fun e τ hq => ?_) (hb s g n x hx)
      cases x with
      | inr r' =>
        cases hk
        cases e with
        | normal => exact hq.elim
        | exit id => exact hq
        | ret => exact hq
      | inl s' =>
        cases e with
        | normal =>
          obtain ⟨g', m, hw⟩ := hq
          exact ⟨⟨((s', g', m), k), hk⟩, Nat.lt_succ_self _, hw⟩
        | exit id => exact hq.elim
        | ret => exact hq.elim
end
end Go.Dw
