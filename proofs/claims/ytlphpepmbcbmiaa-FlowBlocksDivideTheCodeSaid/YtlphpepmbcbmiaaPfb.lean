/-
  The leaders, and the block of each instruction: what both texts compute.
-/
import Derived.Test.YtlphpepmbcbmiaaPfr0
import Derived.Test.YtlphpepmbcbmiaaPsm
namespace Go.Proofs.Ytlphpepmbcbmiaa
open Go Go.Dw Go.Proofs

/-- instruction i makes j a leader -/
def Mk (f : TFunc) (i j : Nat) : Prop := ∃ x, f.Code[i]? = some x ∧ ((x.Op = 20 ∧ x.A = (j : Int)) ∨ (x.Op = 21 ∧ x.B = (j : Int)) ∨ ((x.Op = 20 ∨ x.Op = 21 ∨ x.Op = 23 ∨ x.Op = 24) ∧ i + 1 = j))
def LeadP (f : TFunc) (j : Nat) : Prop := j = 0 ∨ ∃ i, Mk f i j

theorem set_true {r : List Bool} {p j : Nat} (h : p < r.length) : (r.set p true)[j]? = some true ↔ j = p ∨ r[j]? = some true := by
  by_cases e : p = j
  · subst e; simp [h]
  · rw [List.getElem?_set_ne e]
    exact ⟨.inr, fun h => h.resolve_left (fun e' => e e'.symm)⟩

theorem term_eq (op : Int) : sir_Terminator op = some (decide (op = 20 ∨ op = 23 ∨ op = 24)) := by
  unfold sir_Terminator
  by_cases h1 : op = 20
  · subst h1; rfl
  · by_cases h2 : op = 23
    · subst h2; rfl
    · by_cases h3 : op = 24
      · subst h3; rfl
      · simp [show (op == 20) = false by simpa using h1, show (op == 23) = false by simpa using h2, show (op == 24) = false by simpa using h3, h1, h2, h3]

theorem leads_hs {f : TFunc} (hf : FlowOk f) : Hs (flow_leads f) fun r => r.length = f.Code.length ∧ ∀ j, j < f.Code.length → (r[j]? = some true ↔ LeadP f j) := by
  have hlen := hf.len
  have hlen' := hf.len'
  unfold flow_leads
  refine .chk (by omega) ?_
  refine Hs.loop (fun s => s.1.length = f.Code.length ∧ ∃ k : Nat, s.2 = (k : Int) ∧ k ≤ f.Code.length ∧ ∀ j, j < f.Code.length → (s.1[j]? = some true ↔ (j = 0 ∧ 0 < k) ∨ ∃ i, i < k ∧ Mk f i j)) (fun s => f.Code.length - s.2.toNat) ⟨by simp, 0, rfl, Nat.zero_le _, fun j hj => ?_⟩ ?_
  · simp [List.getElem?_replicate]
  rintro ⟨r, k'⟩ ⟨hl, k, rfl, hk, hinv⟩
  simp only at hl hinv
  unfold flow_leads_b1
  dsimp only
  refine .dec (fun hlt => ?_) fun hlt => .lft (.pure ⟨hl, fun j hj => ?_⟩)
  · have hlt : k < f.Code.length := Int.ofNat_lt.1 hlt
    have wk := wrap_succ (show k < 9223372036854775807 by omega)
    refine (Hs.ix (by omega) (by omega) fun z hz => hz).bind fun x hx => ?_
    simp only [Int.toNat_natCast] at hx
    have hn := hf.next k x hx
    -- the end of a round
    have fin : ∀ r' : List Bool, r'.length = f.Code.length → (∀ j, j < f.Code.length → (r'[j]? = some true ↔ (j = 0 ∧ k = 0) ∨ r[j]? = some true ∨ (x.Op = 20 ∧ x.A = (j : Int)) ∨ (x.Op = 21 ∧ x.B = (j : Int)))) →
        Hs (flow_leads_j3 x (k : Int) f r') (Rnd (fun s : List Bool × Int => s.1.length = f.Code.length ∧ ∃ k : Nat, s.2 = (k : Int) ∧ k ≤ f.Code.length ∧ ∀ j, j < f.Code.length → (s.1[j]? = some true ↔ (j = 0 ∧ 0 < k) ∨ ∃ i, i < k ∧ Mk f i j)) (fun s => f.Code.length - s.2.toNat) (r, (k : Int)) fun r => r.length = f.Code.length ∧ ∀ j, j < f.Code.length → (r[j]? = some true ↔ LeadP f j)) := by
      intro r' hl' hr'
      have done : ∀ r'' : List Bool, r''.length = f.Code.length → (∀ j, j < f.Code.length → (r''[j]? = some true ↔ r'[j]? = some true ∨ ((x.Op = 20 ∨ x.Op = 21 ∨ x.Op = 23 ∨ x.Op = 24) ∧ k + 1 = j))) →
          Hs (Go.Dw.cnt (r'', IntKind.i64.wrap ((k : Int) + 1)) : Option ((List Bool × Int) ⊕ List Bool)) (Rnd (fun s : List Bool × Int => s.1.length = f.Code.length ∧ ∃ k : Nat, s.2 = (k : Int) ∧ k ≤ f.Code.length ∧ ∀ j, j < f.Code.length → (s.1[j]? = some true ↔ (j = 0 ∧ 0 < k) ∨ ∃ i, i < k ∧ Mk f i j)) (fun s => f.Code.length - s.2.toNat) (r, (k : Int)) fun r => r.length = f.Code.length ∧ ∀ j, j < f.Code.length → (r[j]? = some true ↔ LeadP f j)) := by
        intro r'' hl'' hr''
        refine .cnt ⟨⟨hl'', k + 1, wk, hlt, fun j hj => ?_⟩, by simp only [wk]; omega⟩
        rw [hr'' j hj, hr' j hj, hinv j hj]
        constructor
        · rintro ((⟨h1, h2⟩ | (⟨h1, h2⟩ | ⟨i, h1, h2⟩) | h1 | h1) | h1)
          · exact .inl ⟨h1, by omega⟩
          · exact .inl ⟨h1, by omega⟩
          · exact .inr ⟨i, by omega, h2⟩
          · exact .inr ⟨k, by omega, x, hx, .inl h1⟩
          · exact .inr ⟨k, by omega, x, hx, .inr (.inl h1)⟩
          · exact .inr ⟨k, by omega, x, hx, .inr (.inr h1)⟩
        · rintro (⟨h1, h2⟩ | ⟨i, h1, h2⟩)
          · by_cases e : k = 0
            · exact .inl (.inl ⟨h1, e⟩)
            · exact .inl (.inr (.inl (.inl ⟨h1, by omega⟩)))
          · by_cases e : i = k
            · subst e
              obtain ⟨x', hx', h3⟩ := h2
              rw [hx] at hx'; cases hx'
              rcases h3 with h3 | h3 | h3
              · exact .inl (.inr (.inr (.inl h3)))
              · exact .inl (.inr (.inr (.inr h3)))
              · exact .inr h3
            · exact .inl (.inr (.inl (.inr ⟨i, by omega, h2⟩)))
      have skip : ¬ ((x.Op = 20 ∨ x.Op = 21 ∨ x.Op = 23 ∨ x.Op = 24) ∧ k + 1 < f.Code.length) → ∀ j, j < f.Code.length → (r'[j]? = some true ↔ r'[j]? = some true ∨ ((x.Op = 20 ∨ x.Op = 21 ∨ x.Op = 23 ∨ x.Op = 24) ∧ k + 1 = j)) :=
        fun hn j hj => ⟨.inl, fun h => h.elim id fun h => (hn ⟨h.1, by omega⟩).elim⟩
      have mark : (x.Op = 20 ∨ x.Op = 21 ∨ x.Op = 23 ∨ x.Op = 24) → k + 1 < f.Code.length → Hs (Go.Dw.chk (0 ≤ IntKind.i64.wrap ((k : Int) + 1) ∧ IntKind.i64.wrap ((k : Int) + 1) < r'.length) (((r')[(IntKind.i64.wrap ((k : Int) + 1)).toNat]?).bind fun _ => Go.Dw.cnt (r'.set ((IntKind.i64.wrap ((k : Int) + 1)).toNat) true, IntKind.i64.wrap ((k : Int) + 1))) : Option ((List Bool × Int) ⊕ List Bool)) (Rnd (fun s : List Bool × Int => s.1.length = f.Code.length ∧ ∃ k : Nat, s.2 = (k : Int) ∧ k ≤ f.Code.length ∧ ∀ j, j < f.Code.length → (s.1[j]? = some true ↔ (j = 0 ∧ 0 < k) ∨ ∃ i, i < k ∧ Mk f i j)) (fun s => f.Code.length - s.2.toNat) (r, (k : Int)) fun r => r.length = f.Code.length ∧ ∀ j, j < f.Code.length → (r[j]? = some true ↔ LeadP f j)) := by
        intro ho hk1
        refine .chk (by rw [wk]; omega) ((Hs.get (by rw [wk]; omega) (by rw [wk]; omega) fun z hz => hz).bind fun _ _ => done _ (by simpa using hl') fun j hj => ?_)
        rw [wk, Int.toNat_natCast, set_true (by omega)]
        constructor
        · rintro (h | h)
          · exact .inr ⟨ho, h.symm⟩
          · exact .inl h
        · rintro (h | h)
          · exact .inr h
          · exact .inl h.2.symm
      unfold flow_leads_j3
      refine .beq (fun h21 => .dec (fun h => mark (.inr (.inl h21)) (by rw [wk] at h; exact Int.ofNat_lt.1 h)) fun h => done _ hl' (skip fun h' => h (by rw [wk]; exact Int.ofNat_lt.2 h'.2))) fun h21 => ?_
      rw [term_eq, Option.bind_some]
      refine .dec (fun ht => .dec (fun h => mark (by omega) (by rw [wk] at h; exact Int.ofNat_lt.1 h)) fun h => done _ hl' (skip fun h' => h (by rw [wk]; exact Int.ofNat_lt.2 h'.2))) fun ht => done _ hl' (skip fun h' => ?_)
      omega
    have mid : ∀ r' : List Bool, r'.length = f.Code.length → (∀ j, j < f.Code.length → (r'[j]? = some true ↔ (j = 0 ∧ k = 0) ∨ r[j]? = some true)) → Hs (flow_leads_j2 x (k : Int) f r') (Rnd (fun s : List Bool × Int => s.1.length = f.Code.length ∧ ∃ k : Nat, s.2 = (k : Int) ∧ k ≤ f.Code.length ∧ ∀ j, j < f.Code.length → (s.1[j]? = some true ↔ (j = 0 ∧ 0 < k) ∨ ∃ i, i < k ∧ Mk f i j)) (fun s => f.Code.length - s.2.toNat) (r, (k : Int)) fun r => r.length = f.Code.length ∧ ∀ j, j < f.Code.length → (r[j]? = some true ↔ LeadP f j)) := by
      intro r' hl' hr'
      unfold flow_leads_j2
      refine .beq (fun h20 => ?_) fun h20 => .beq (fun h21 => ?_) fun h21 => fin r' hl' fun j hj => ?_
      · have hA := hn x.A (by simp [nextN, h20])
        refine .chk (by omega) ((Hs.get (by omega) (by omega) fun z hz => hz).bind fun _ _ => fin _ (by simpa using hl') fun j hj => ?_)
        rw [set_true (by omega), hr' j hj]
        have : j = x.A.toNat ↔ x.A = (j : Int) := by omega
        simp only [this, h20, show ¬ ((20 : Int) = 21) by omega, true_and, false_and, or_false]
        constructor
        · rintro (h | h | h)
          · exact .inr (.inr h)
          · exact .inl h
          · exact .inr (.inl h)
        · rintro (h | h | h)
          · exact .inr (.inl h)
          · exact .inr (.inr h)
          · exact .inl h
      · have hB := hn x.B (by
          unfold nextN
          rw [if_neg (by omega), if_neg (by omega), if_pos h21]
          split
          · simp
          · split
            · simp
            · simp; omega)
        refine .chk (by omega) ((Hs.get (by omega) (by omega) fun z hz => hz).bind fun _ _ => fin _ (by simpa using hl') fun j hj => ?_)
        rw [set_true (by omega), hr' j hj]
        have : j = x.B.toNat ↔ x.B = (j : Int) := by omega
        simp only [this, h21, show ¬ ((21 : Int) = 20) by omega, true_and, false_and, false_or]
        constructor
        · rintro (h | h | h)
          · exact .inr (.inr h)
          · exact .inl h
          · exact .inr (.inl h)
        · rintro (h | h | h)
          · exact .inr (.inl h)
          · exact .inr (.inr h)
          · exact .inl h
      · rw [hr' j hj]
        simp [h20, h21]
    refine .beq (fun h0 => ?_) fun h0 => mid r hl fun j hj => ?_
    · have : k = 0 := by omega
      subst this
      refine .chk (by omega) ((Hs.get (by omega) (by omega) fun z hz => hz).bind fun _ _ => mid _ (by simpa using hl) fun j hj => ?_)
      simp only [Int.toNat_natCast]
      rw [set_true (by omega)]
      simp
    · simp only [show ¬ k = 0 by omega, and_false, false_or]
  · have hkl : k = f.Code.length := by have : ¬ k < f.Code.length := fun h => hlt (Int.ofNat_lt.2 h); omega
    rw [hinv j hj]
    constructor
    · rintro (h | ⟨i, _, h⟩)
      · exact .inl h.1
      · exact .inr ⟨i, h⟩
    · rintro (h | ⟨i, h⟩)
      · exact .inl ⟨h, by omega⟩
      · refine .inr ⟨i, ?_, h⟩
        obtain ⟨x, hx, _⟩ := h
        have := (List.getElem?_eq_some_iff.1 hx).1
        omega

theorem leader_hs {f : TFunc} (hf : FlowOk f) {k : Nat} (hk : k < f.Code.length) : Hs (ref13_leader f (k : Int)) fun b => (b = true ↔ LeadP f k) := by
  have hlen' := hf.len'
  unfold ref13_leader
  refine .beq (fun h0 => .pure ⟨fun _ => .inl (by omega), fun _ => rfl⟩) fun h0 => ?_
  have wk : IntKind.i64.wrap ((k : Int) - 1) = ((k - 1 : Nat) : Int) := by rw [wrap64 (by omega) (by omega)]; omega
  rw [wk]
  refine (Hs.ix (by omega) (by omega) fun z hz => hz).bind fun x hx => ?_
  simp only [Int.toNat_natCast] at hx
  have yes : (x.Op = 20 ∨ x.Op = 21 ∨ x.Op = 23 ∨ x.Op = 24) → LeadP f k := fun h => .inr ⟨k - 1, x, hx, .inr (.inr ⟨h, by omega⟩)⟩
  have rest : ¬ (x.Op = 20 ∨ x.Op = 21 ∨ x.Op = 23 ∨ x.Op = 24) → Hs (ref13_leader_j1 f (k : Int)) fun b => (b = true ↔ LeadP f k) := by
    intro hno
    unfold ref13_leader_j1
    refine Hs.loop (fun s => ∃ i : Nat, s = (i : Int) ∧ i ≤ f.Code.length ∧ ∀ q, q < i → ¬ Mk f q k) (fun s => f.Code.length - s.toNat) ⟨0, rfl, Nat.zero_le _, fun q hq => absurd hq (Nat.not_lt_zero _)⟩ ?_
    rintro s ⟨i, rfl, hi, hinv⟩
    unfold ref13_leader_b2
    refine .dec (fun hlt => ?_) fun hlt => .lft (.pure ⟨fun h => (by cases h), fun h => ?_⟩)
    · have hlt : i < f.Code.length := Int.ofNat_lt.1 hlt
      have wi := wrap_succ (show i < 9223372036854775807 by omega)
      refine (Hs.ix (by omega) (by omega) fun z hz => hz).bind fun y hy => ?_
      simp only [Int.toNat_natCast] at hy
      have go : ¬ Mk f i k → Hs (Go.Dw.cnt (IntKind.i64.wrap ((i : Int) + 1)) : Option (Int ⊕ Bool)) (Rnd (fun s => ∃ i : Nat, s = (i : Int) ∧ i ≤ f.Code.length ∧ ∀ q, q < i → ¬ Mk f q k) (fun s => f.Code.length - s.toNat) (i : Int) fun b => (b = true ↔ LeadP f k)) := by
        intro hm
        refine .cnt ⟨⟨i + 1, wi, hlt, fun q hq => ?_⟩, by simp only [wi]; omega⟩
        by_cases e : q = i
        · subst e; exact hm
        · exact hinv q (by omega)
      have nm : ¬ (y.Op = 20 ∧ y.A = (k : Int)) → ¬ (y.Op = 21 ∧ y.B = (k : Int)) → ¬ Mk f i k := by
        rintro h1 h2 ⟨y', hy', h3⟩
        rw [hy] at hy'; cases hy'
        rcases h3 with h3 | h3 | ⟨h3, h4⟩
        · exact h1 h3
        · exact h2 h3
        · have : k - 1 = i := by omega
          subst this
          rw [hx] at hy; cases hy
          exact hno h3
      refine .beq (fun h20 => .beq (fun hA => .lft (.pure ⟨fun _ => .inr ⟨i, y, hy, .inl ⟨h20, hA⟩⟩, fun _ => rfl⟩)) fun hA => ?_) fun h20 => ?_
      · refine .beq (fun h21 => ?_) fun h21 => go (nm (fun h => hA h.2) fun h => h21 h.1)
        omega
      · refine .beq (fun h21 => .beq (fun hB => .lft (.pure ⟨fun _ => .inr ⟨i, y, hy, .inr (.inl ⟨h21, hB⟩)⟩, fun _ => rfl⟩)) fun hB => go (nm (fun h => h20 h.1) fun h => hB h.2)) fun h21 => go (nm (fun h => h20 h.1) fun h => h21 h.1)
    · have hil : i = f.Code.length := by have : ¬ i < f.Code.length := fun h => hlt (Int.ofNat_lt.2 h); omega
      rcases h with h | ⟨q, h⟩
      · omega
      · obtain ⟨y, hy, _⟩ := id h
        exact (hinv q (by have := (List.getElem?_eq_some_iff.1 hy).1; omega) h).elim
  refine .beq (fun h20 => .beq (fun _ => .pure ⟨fun _ => yes (.inl h20), fun _ => rfl⟩) fun h => (h h20).elim) fun h20 => .beq (fun h21 => .beq (fun _ => .pure ⟨fun _ => yes (.inr (.inl h21)), fun _ => rfl⟩) fun h => (h h21).elim) fun h21 =>
    .beq (fun h23 => .beq (fun _ => .pure ⟨fun _ => yes (.inr (.inr (.inl h23))), fun _ => rfl⟩) fun h => (h h23).elim) fun h23 => .beq (fun h24 => .pure ⟨fun _ => yes (.inr (.inr (.inr h24))), fun _ => rfl⟩) fun h24 => rest (by omega)

/-- the block of an instruction -/
structure IsBlk (f : TFunc) (k : Nat) (b : TInterval) (from_ to : Nat) : Prop where
  h1 : from_ ≤ k
  h2 : k < to
  h3 : to ≤ f.Code.length
  h4 : LeadP f from_
  h5 : ∀ j, from_ < j → j < to → ¬ LeadP f j
  h6 : to = f.Code.length ∨ LeadP f to
  h7 : b = ⟨(from_ : Int), (to : Int) - (from_ : Int)⟩

theorem IsBlk.uniq {f : TFunc} {k : Nat} {b b' : TInterval} {p q p' q' : Nat} (h : IsBlk f k b p q) (h' : IsBlk f k b' p' q') : p = p' ∧ q = q' ∧ b = b' := by
  have e1 : p = p' := by
    rcases Nat.lt_trichotomy p p' with hl | he | hl
    · exact (h.h5 p' hl (Nat.lt_of_le_of_lt h'.h1 h.h2) h'.h4).elim
    · exact he
    · exact (h'.h5 p hl (Nat.lt_of_le_of_lt h.h1 h'.h2) h.h4).elim
  have e2 : q = q' := by
    have a1 := h.h1; have a2 := h.h2; have a3 := h.h3; have b1 := h'.h1; have b2 := h'.h2; have b3 := h'.h3
    rcases Nat.lt_trichotomy q q' with hl | he | hl
    · rcases h.h6 with h6 | h6
      · omega
      · exact (h'.h5 q (by omega) hl h6).elim
    · exact he
    · rcases h'.h6 with h6 | h6
      · omega
      · exact (h.h5 q' (by omega) hl h6).elim
  subst e1; subst e2
  exact ⟨rfl, rfl, by rw [h.h7, h'.h7]⟩

/-- the two walks of a block, for any way to ask for leaders -/
theorem fblock_hs {f : TFunc} (hf : FlowOk f) {k : Nat} (hk : k < f.Code.length) : Hs (flow_Block f (k : Int)) fun b => ∃ p q, IsBlk f k b p q := by
  have hlen' := hf.len'
  unfold flow_Block
  refine .dec (fun h => by omega) fun _ => .dec (fun h => by omega) fun _ => ?_
  unfold flow_Block_j1
  refine (leads_hs hf).bind fun r hr => ?_
  obtain ⟨hl, hr⟩ := hr
  refine Hs.loop (fun s => ∃ p : Nat, s = (p : Int) ∧ p ≤ k ∧ ∀ j, p < j → j ≤ k → ¬ LeadP f j) (fun s => s.toNat) ⟨k, rfl, Nat.le_refl _, fun j h1 h2 => by omega⟩ ?_
  rintro s ⟨p, rfl, hp, hinv⟩
  unfold flow_Block_b3
  refine .chk (by omega) ((Hs.get (l := r) (i := (p : Int)) (by omega) (by omega) fun z hz => hz).bind fun b hb => ?_)
  simp only [Int.toNat_natCast] at hb
  have hbp := hr p (by omega)
  refine .cond (fun hb' => ?_) fun hb' => .lft ?_
  · have hbf : b = false := by simpa using hb'
    subst hbf
    have hno : ¬ LeadP f p := fun h => by rw [hb] at hbp; cases hbp.2 h
    have hp0 : 0 < p := Nat.pos_of_ne_zero fun e => hno (.inl e)
    have wp : IntKind.i64.wrap ((p : Int) - 1) = ((p - 1 : Nat) : Int) := by rw [wrap64 (by omega) (by omega)]; omega
    refine .cnt ⟨⟨p - 1, wp, by omega, fun j h1 h2 => ?_⟩, by simp only [wp]; omega⟩
    by_cases e : j = p
    · subst e; exact hno
    · exact hinv j (by omega) h2
  · have hbt : b = true := by simpa using hb'
    subst hbt
    have hlead := hbp.1 hb
    unfold flow_Block_j2
    have wk := wrap_succ (show k < 9223372036854775807 by omega)
    rw [wk]
    have stop : ∀ q : Nat, k < q → q ≤ f.Code.length → (∀ j, p < j → j < q → ¬ LeadP f j) → (q = f.Code.length ∨ LeadP f q) → Hs (flow_Block_j4 (p : Int) (q : Int)) fun b => ∃ p q, IsBlk f k b p q := by
      intro q h1 h2 h3 h4
      unfold flow_Block_j4
      refine .pure ⟨p, q, hp, h1, h2, hlead, h3, h4, ?_⟩
      rw [wrap64 (by omega) (by omega)]
    refine Hs.loop (fun s => ∃ q : Nat, s = (q : Int) ∧ k < q ∧ q ≤ f.Code.length ∧ ∀ j, p < j → j < q → ¬ LeadP f j) (fun s => f.Code.length - s.toNat) ⟨k + 1, rfl, by omega, by omega, fun j h1 h2 => hinv j h1 (by omega)⟩ ?_
    rintro s ⟨q, rfl, hq, hq', hqi⟩
    unfold flow_Block_b5
    refine .dec (fun hlt => ?_) fun hlt => .lft (stop q hq hq' hqi (.inl ?_))
    · have hlt : q < r.length := Int.ofNat_lt.1 hlt
      have wq := wrap_succ (show q < 9223372036854775807 by omega)
      refine .chk (by omega) ((Hs.get (l := r) (i := (q : Int)) (by omega) (by omega) fun z hz => hz).bind fun b hb => ?_)
      simp only [Int.toNat_natCast] at hb
      have hbq := hr q (by omega)
      refine .cond (fun hb' => ?_) fun hb' => .lft (stop q hq hq' hqi (.inr ?_))
      · have hbf : b = false := by simpa using hb'
        subst hbf
        refine .cnt ⟨⟨q + 1, wq, by omega, by omega, fun j h1 h2 => ?_⟩, by simp only [wq]; omega⟩
        by_cases e : j = q
        · subst e; intro h; rw [hb] at hbq; cases hbq.2 h
        · exact hqi j h1 (by omega)
      · have hbt : b = true := by simpa using hb'
        subst hbt
        exact hbq.1 hb
    · have : ¬ q < r.length := fun h => hlt (Int.ofNat_lt.2 h)
      omega

theorem rblock_hs {f : TFunc} (hf : FlowOk f) {k : Nat} (hk : k < f.Code.length) : Hs (ref13_Block f (k : Int)) fun b => ∃ p q, IsBlk f k b p q := by
  have hlen' := hf.len'
  unfold ref13_Block
  refine .dec (fun h => by omega) fun _ => .dec (fun h => by omega) fun _ => ?_
  unfold ref13_Block_j1
  refine Hs.loop (fun s => ∃ p : Nat, s = (p : Int) ∧ p ≤ k ∧ ∀ j, p < j → j ≤ k → ¬ LeadP f j) (fun s => s.toNat) ⟨k, rfl, Nat.le_refl _, fun j h1 h2 => by omega⟩ ?_
  rintro s ⟨p, rfl, hp, hinv⟩
  unfold ref13_Block_b3
  refine (leader_hs hf (by omega)).bind fun b hbp => ?_
  refine .cond (fun hb' => ?_) fun hb' => .lft ?_
  · have hno : ¬ LeadP f p := fun h => by rw [hbp.2 h] at hb'; cases hb'
    have hp0 : 0 < p := Nat.pos_of_ne_zero fun e => hno (.inl e)
    have wp : IntKind.i64.wrap ((p : Int) - 1) = ((p - 1 : Nat) : Int) := by rw [wrap64 (by omega) (by omega)]; omega
    refine .cnt ⟨⟨p - 1, wp, by omega, fun j h1 h2 => ?_⟩, by simp only [wp]; omega⟩
    by_cases e : j = p
    · subst e; exact hno
    · exact hinv j (by omega) h2
  · have hlead := hbp.1 (by simpa using hb')
    unfold ref13_Block_j2
    have wk := wrap_succ (show k < 9223372036854775807 by omega)
    rw [wk]
    have stop : ∀ q : Nat, k < q → q ≤ f.Code.length → (∀ j, p < j → j < q → ¬ LeadP f j) → (q = f.Code.length ∨ LeadP f q) → Hs (ref13_Block_j4 (p : Int) (q : Int)) fun b => ∃ p q, IsBlk f k b p q := by
      intro q h1 h2 h3 h4
      unfold ref13_Block_j4
      refine .pure ⟨p, q, hp, h1, h2, hlead, h3, h4, ?_⟩
      rw [wrap64 (by omega) (by omega)]
    refine Hs.loop (fun s => ∃ q : Nat, s = (q : Int) ∧ k < q ∧ q ≤ f.Code.length ∧ ∀ j, p < j → j < q → ¬ LeadP f j) (fun s => f.Code.length - s.toNat) ⟨k + 1, rfl, by omega, by omega, fun j h1 h2 => hinv j h1 (by omega)⟩ ?_
    rintro s ⟨q, rfl, hq, hq', hqi⟩
    unfold ref13_Block_b5
    refine .dec (fun hlt => ?_) fun hlt => .lft (stop q hq hq' hqi (.inl ?_))
    · have hlt : q < f.Code.length := Int.ofNat_lt.1 hlt
      have wq := wrap_succ (show q < 9223372036854775807 by omega)
      refine (leader_hs hf hlt).bind fun b hbq => ?_
      refine .cond (fun hb' => ?_) fun hb' => .lft (stop q hq hq' hqi (.inr (hbq.1 (by simpa using hb'))))
      refine .cnt ⟨⟨q + 1, wq, by omega, by omega, fun j h1 h2 => ?_⟩, by simp only [wq]; omega⟩
      by_cases e : j = q
      · subst e; intro h; rw [hbq.2 h] at hb'; cases hb'
      · exact hqi j h1 (by omega)
    · have : ¬ q < f.Code.length := fun h => hlt (Int.ofNat_lt.2 h)
      omega

/-- the leaders below k -/
noncomputable def ledN (f : TFunc) (k : Nat) : List Int := open Classical in ((List.range k).filter fun j => decide (LeadP f j)).map fun (j : Nat) => (j : Int)
theorem ledN_length (f : TFunc) (k : Nat) : (ledN f k).length ≤ k := by
  unfold ledN
  rw [List.length_map]
  exact Nat.le_trans (List.length_filter_le _ _) (by simp)
theorem ledN_succ (f : TFunc) (k : Nat) : (LeadP f k → ledN f (k + 1) = ledN f k ++ [(k : Int)]) ∧ (¬ LeadP f k → ledN f (k + 1) = ledN f k) := by
  unfold ledN
  rw [List.range_succ]
  exact ⟨fun h => by simp [h], fun h => by simp [h]⟩

theorem fleaders_hs {f : TFunc} (hf : FlowOk f) : Hs (flow_Leaders f) fun l => l = ledN f f.Code.length := by
  have hlen' := hf.len'
  unfold flow_Leaders
  refine (leads_hs hf).bind fun r hr => ?_
  obtain ⟨hl, hr⟩ := hr
  refine Hs.loop (fun s => ∃ k : Nat, s.2 = (k : Int) ∧ k ≤ f.Code.length ∧ s.1 = ledN f k) (fun s => f.Code.length - s.2.toNat) ⟨0, rfl, Nat.zero_le _, by simp [ledN]⟩ ?_
  rintro ⟨l, k'⟩ ⟨k, rfl, hk, rfl⟩
  unfold flow_Leaders_b1
  dsimp only
  refine .dec (fun hlt => ?_) fun hlt => .lft (.pure ?_)
  · have hlt : k < r.length := Int.ofNat_lt.1 hlt
    have wk := wrap_succ (show k < 9223372036854775807 by omega)
    refine .chk (by omega) ((Hs.get (l := r) (i := (k : Int)) (by omega) (by omega) fun z hz => hz).bind fun b hb => ?_)
    simp only [Int.toNat_natCast] at hb
    have hbk := hr k (by omega)
    have hll := ledN_length f k
    refine .cond (fun hb' => ?_) fun hb' => ?_
    · subst hb'
      refine .chk (by simp; omega) (.cnt ⟨⟨k + 1, wk, by omega, ((ledN_succ f k).1 (hbk.1 hb)).symm⟩, by simp only [wk]; omega⟩)
    · subst hb'
      refine .cnt ⟨⟨k + 1, wk, by omega, ((ledN_succ f k).2 fun h => ?_).symm⟩, by simp only [wk]; omega⟩
      rw [hb] at hbk; cases hbk.2 h
  · have : k = f.Code.length := by have : ¬ k < r.length := fun h => hlt (Int.ofNat_lt.2 h); omega
    subst this; rfl

theorem rleaders_hs {f : TFunc} (hf : FlowOk f) : Hs (ref13_Leaders f) fun l => l = ledN f f.Code.length := by
  have hlen' := hf.len'
  unfold ref13_Leaders
  refine Hs.loop (fun s => ∃ k : Nat, s.2 = (k : Int) ∧ k ≤ f.Code.length ∧ s.1 = ledN f k) (fun s => f.Code.length - s.2.toNat) ⟨0, rfl, Nat.zero_le _, by simp [ledN]⟩ ?_
  rintro ⟨l, k'⟩ ⟨k, rfl, hk, rfl⟩
  unfold ref13_Leaders_b1
  dsimp only
  refine .dec (fun hlt => ?_) fun hlt => .lft (.pure ?_)
  · have hlt : k < f.Code.length := Int.ofNat_lt.1 hlt
    have wk := wrap_succ (show k < 9223372036854775807 by omega)
    have hll := ledN_length f k
    refine (leader_hs hf hlt).bind fun b hbk => ?_
    refine .cond (fun hb' => ?_) fun hb' => ?_
    · subst hb'
      refine .chk (by simp; omega) (.cnt ⟨⟨k + 1, wk, by omega, ((ledN_succ f k).1 (hbk.1 rfl)).symm⟩, by simp only [wk]; omega⟩)
    · subst hb'
      refine .cnt ⟨⟨k + 1, wk, by omega, ((ledN_succ f k).2 fun h => ?_).symm⟩, by simp only [wk]; omega⟩
      cases hbk.2 h
  · have : k = f.Code.length := by have : ¬ k < f.Code.length := fun h => hlt (Int.ofNat_lt.2 h); omega
    subst this; rfl
end Go.Proofs.Ytlphpepmbcbmiaa
