/-
  FlowReached: its typed program answers true.
-/
import Derived.Test.YtlphpepmbcbmiaaPfr0
namespace Go.Proofs.Ytlphpepmbcbmiaa
open Go Go.Dw Go.Proofs

/-- what is reached -/
inductive Reach (f : TFunc) : Nat → Prop
  | zero : Reach f 0
  | step (k j : Nat) (x : TInstr) : Reach f k → f.Code[k]? = some x → (j : Int) ∈ nextN x k → Reach f j

theorem nextN_length (x : TInstr) (k : Int) : (nextN x k).length ≤ 2 := by unfold nextN; (repeat' split) <;> simp

/-- how many are not marked -/
def unm (r : List Bool) : Nat := r.countP (fun b => !b)
theorem unm_set {r : List Bool} {k : Nat} (h : r[k]? = some false) : unm (r.set k true) + 1 = unm r := by
  obtain ⟨hl, hx⟩ := List.getElem?_eq_some_iff.1 h
  induction r generalizing k with
  | nil => simp at hl
  | cons b r ih =>
    cases k with
    | zero => simp at hx; subst hx; simp [unm]
    | succ k =>
      have := ih (k := k) (by simpa using h) (by simpa using hl) (by simpa using hx)
      simp only [unm, List.set_cons_succ, List.countP_cons] at this ⊢
      omega

theorem Reach.lt {f : TFunc} (hf : FlowOk f) {k : Nat} (h : Reach f k) : k < f.Code.length := by
  cases h with
  | zero => exact hf.len
  | step k j x h1 h2 h3 => have := hf.next _ x h2 _ h3; omega

/-- marked are reached ones alone; what follows a marked one is marked, or open -/
structure RInv (f : TFunc) (r : List Bool) (open_ : List Int) : Prop where
  len : r.length = f.Code.length
  sound : ∀ k, r[k]? = some true → Reach f k
  opn : ∀ y ∈ open_, ∃ k : Nat, y = (k : Int) ∧ Reach f k
  zero : r[0]? = some true ∨ (0 : Int) ∈ open_
  clo : ∀ (k j : Nat) x, r[k]? = some true → f.Code[k]? = some x → (j : Int) ∈ nextN x k → r[j]? = some true ∨ (j : Int) ∈ open_

theorem freach_hs {f : TFunc} (hf : FlowOk f) : Hs (flow_Reached f) fun r => r.length = f.Code.length ∧ ∀ k, r[k]? = some true ↔ Reach f k := by
  have hlen := hf.len
  have hlen' := hf.len'
  unfold flow_Reached
  refine .chk (by omega) ?_
  refine Hs.loop (fun s => RInv f s.1 s.2 ∧ s.2.length + 2 * unm s.1 ≤ 2 * f.Code.length + 1) (fun s => 3 * unm s.1 + s.2.length) ⟨⟨by simp, fun k hk => ?_, fun y hy => ⟨0, by simpa using hy, .zero⟩, .inr (by simp), fun k j x hk => ?_⟩, ?_⟩ ?_
  · have := List.mem_of_getElem? hk; rw [List.mem_replicate] at this; cases this.2
  · have := List.mem_of_getElem? hk; rw [List.mem_replicate] at this; cases this.2
  · simp [unm, List.countP_replicate]; omega
  rintro ⟨r, op⟩ ⟨h, hm⟩
  simp only at h hm
  obtain ⟨h1, h2, h3, h4, h5⟩ := h
  unfold flow_Reached_b1
  refine .dec (fun hlt => ?_) fun hlt => .lft (.pure ⟨h1, fun k => ⟨h2 k, fun hk => ?_⟩⟩)
  · have hlt : 0 < op.length := Int.ofNat_lt.1 hlt
    have w : IntKind.i64.wrap ((op.length : Int) - 1) = ((op.length - 1 : Nat) : Int) := by rw [wrap64 (by omega) (by omega)]; omega
    have wn : (((op.length - 1 : Nat) : Int)).toNat = op.length - 1 := by omega
    simp only [w, wn]
    have htop : op[op.length - 1]? = some (op[op.length - 1]'(by omega)) := List.getElem?_eq_getElem _
    generalize op[op.length - 1]'(by omega) = y at htop
    obtain ⟨k, rfl, hk⟩ := h3 y (List.mem_of_getElem? htop)
    have hkl := hk.lt hf
    have hcode : f.Code[k]? = some (codeOf f k) := by simp [codeOf, hkl]
    have hsplit : ∀ z, z ∈ op ↔ z ∈ op.take (op.length - 1) ∨ z = (k : Int) := by
      intro z
      have : op = op.take (op.length - 1) ++ [(k : Int)] := by
        conv => lhs; rw [← List.take_append_drop (op.length - 1) op]
        congr 1
        obtain ⟨hl, hx⟩ := List.getElem?_eq_some_iff.1 htop
        rw [List.drop_eq_getElem_cons hl, hx, List.drop_of_length_le (by omega)]
      conv => lhs; rw [this]
      simp
    refine .chk (by omega) (.bind ⟨_, htop, rfl⟩ fun z hz => ?_)
    subst hz
    refine .chk (by omega) (.chk (by omega) (.dec (fun _ => ?_) fun hn => (hn (by omega)).elim))
    refine .chk (by omega) ((Hs.get (l := r) (i := (k : Int)) (by omega) (by omega) fun z hz => hz).bind fun b hrk => ?_)
    simp only [Int.toNat_natCast] at hrk
    unfold flow_Reached_j2
    simp only [w, wn]
    cases b with
    | true =>
      refine .cnt ⟨⟨⟨h1, h2, fun y hy => h3 y ((hsplit y).2 (.inl hy)), ?_, fun k' j x hk' hx hj => ?_⟩, ?_⟩, ?_⟩
      · rcases h4 with h4 | h4
        · exact .inl h4
        · rcases (hsplit 0).1 h4 with h6 | h6
          · exact .inr h6
          · left; have : k = 0 := by omega
            subst this; exact hrk
      · rcases h5 k' j x hk' hx hj with h6 | h6
        · exact .inl h6
        · rcases (hsplit _).1 h6 with h7 | h7
          · exact .inr h7
          · left; have : j = k := by omega
            subst this; exact hrk
      · simp only [List.length_take]; omega
      · simp only [List.length_take]; omega
    | false =>
      have hu := unm_set hrk
      have hnl := nextN_length (codeOf f k) k
      refine .chk (by omega) ((Hs.get (l := r) (i := (k : Int)) (by omega) (by omega) fun z hz => hz).bind fun _ _ => ?_)
      rw [fnext_eq hcode (by omega), Option.bind_some]
      refine .chk (by simp only [List.length_take]; omega) (.cnt ⟨⟨⟨by simpa using h1, fun k' hk' => ?_, fun y hy => ?_, ?_, fun k' j x hk' hx hj => ?_⟩, ?_⟩, ?_⟩)
      · simp only [Int.toNat_natCast] at hk'
        by_cases e : k = k'
        · subst e; exact hk
        · rw [List.getElem?_set_ne e] at hk'; exact h2 k' hk'
      · rcases List.mem_append.1 hy with h6 | h6
        · exact h3 y ((hsplit y).2 (.inl h6))
        · have hr := hf.next k _ hcode y h6
          refine ⟨y.toNat, by omega, .step k _ _ hk hcode ?_⟩
          rw [show ((y.toNat : Nat) : Int) = y by omega]; exact h6
      · simp only [Int.toNat_natCast]
        by_cases e : k = 0
        · subst e; left; rw [List.getElem?_set_self (by omega)]
        · rw [List.getElem?_set_ne e]
          rcases h4 with h4 | h4
          · exact .inl h4
          · rcases (hsplit 0).1 h4 with h6 | h6
            · exact .inr (List.mem_append.2 (.inl h6))
            · omega
      · simp only [Int.toNat_natCast] at hk' ⊢
        by_cases e : k = k'
        · subst e
          rw [hcode] at hx; cases hx
          exact .inr (List.mem_append.2 (.inr hj))
        · rw [List.getElem?_set_ne e] at hk'
          by_cases ej : k = j
          · subst ej; left; rw [List.getElem?_set_self (by omega)]
          · rw [List.getElem?_set_ne ej]
            rcases h5 k' j x hk' hx hj with h6 | h6
            · exact .inl h6
            · rcases (hsplit _).1 h6 with h7 | h7
              · exact .inr (List.mem_append.2 (.inl h7))
              · omega
      · simp only [Int.toNat_natCast, List.length_append, List.length_take]; omega
      · simp only [Int.toNat_natCast, List.length_append, List.length_take]; omega
  · have hnil : op = [] := List.eq_nil_of_length_eq_zero (by have : ¬ 0 < op.length := fun h => hlt (Int.ofNat_lt.2 h); omega)
    subst hnil
    induction hk with
    | zero => exact h4.resolve_right (by simp)
    | step k j x _ hx hj ih => exact (h5 k j x ih hx hj).resolve_right (by simp)

/-- one pass of the reference, begun at out0 -/
structure PInv (f : TFunc) (out0 out : List Bool) (again : Bool) : Prop where
  len : out.length = f.Code.length
  sound : ∀ k, out[k]? = some true → Reach f k
  zero : out[0]? = some true
  no : again = false → out = out0
  yes : again = true → unm out < unm out0
/-- what follows the first k instructions is marked -/
def Clo (f : TFunc) (out : List Bool) (k : Nat) : Prop := ∀ (k' j : Nat) x, k' < k → out[k']? = some true → f.Code[k']? = some x → (j : Int) ∈ nextN x k' → out[j]? = some true

theorem rreach_hs {f : TFunc} (hf : FlowOk f) : Hs (ref13_Reached f) fun r => r.length = f.Code.length ∧ ∀ k, r[k]? = some true ↔ Reach f k := by
  have hlen := hf.len
  have hlen' := hf.len'
  unfold ref13_Reached
  refine .chk (by omega) (.dec (fun _ => ?_) fun hn => (hn (by simp; omega)).elim)
  refine .chk (by simp; omega) ((Hs.get (by omega) (by simp; omega) fun z hz => hz).bind fun _ _ => ?_)
  unfold ref13_Reached_j1
  refine Hs.loop (fun s => (s.1.length = f.Code.length ∧ (∀ k, s.1[k]? = some true → Reach f k) ∧ s.1[0]? = some true) ∧ (s.2 = false → Clo f s.1 f.Code.length)) (fun s => 2 * unm s.1 + (if s.2 then 1 else 0)) ⟨⟨by simp, fun k hk => ?_, ?_⟩, fun h => by cases h⟩ ?_
  · by_cases e : k = 0
    · subst e; exact .zero
    · simp only [Int.toNat_zero] at hk
      rw [List.getElem?_set_ne (fun h => e h.symm)] at hk
      have := List.mem_of_getElem? hk; rw [List.mem_replicate] at this; cases this.2
  · simp only [Int.toNat_zero]
    rw [List.getElem?_set_self (by simp; omega)]
  rintro ⟨out0, again⟩ ⟨⟨h1, h2, h3⟩, h4⟩
  simp only at h1 h2 h3 h4
  unfold ref13_Reached_b2
  refine .cond (fun ha => ?_) fun ha => .lft (.pure ⟨h1, fun k => ⟨h2 k, fun hk => ?_⟩⟩)
  · subst ha
    refine Hs.loop (fun s => PInv f out0 s.1 s.2.1 ∧ ∃ k : Nat, s.2.2 = (k : Int) ∧ k ≤ f.Code.length ∧ (s.2.1 = false → Clo f out0 k)) (fun s => f.Code.length - s.2.2.toNat) ⟨⟨h1, h2, h3, fun _ => rfl, fun h => by cases h⟩, 0, rfl, Nat.zero_le _, fun _ k' j x hk => absurd hk (Nat.not_lt_zero _)⟩ ?_
    rintro ⟨out, again, k'⟩ ⟨hp, k, rfl, hk, hclo⟩
    simp only at hp hclo
    unfold ref13_Reached_b3
    dsimp only
    refine .dec (fun hlt => ?_) fun hlt => .lft (.cnt ⟨⟨⟨hp.len, hp.sound, hp.zero⟩, fun ha => ?_⟩, ?_⟩)
    · have hlt : k < f.Code.length := Int.ofNat_lt.1 hlt
      have wk := wrap_succ (show k < 9223372036854775807 by omega)
      have hcode : f.Code[k]? = some (codeOf f k) := by simp [codeOf, hlt]
      rw [rnext_eq hcode (by omega), Option.bind_some]
      have hnl := nextN_length (codeOf f k) k
      have hnx := hf.next k _ hcode
      generalize hnn : nextN (codeOf f k) k = nx at hnl hnx
      have stop : ∀ (out : List Bool) (again : Bool), PInv f out0 out again → (again = false → Clo f out0 (k + 1)) → Hs (ref13_Reached_j4 (k : Int) out again) (Rnd (fun s : List Bool × Bool × Int => PInv f out0 s.1 s.2.1 ∧ ∃ k : Nat, s.2.2 = (k : Int) ∧ k ≤ f.Code.length ∧ (s.2.1 = false → Clo f out0 k)) (fun s => f.Code.length - s.2.2.toNat) (‹List Bool›, again, (k : Int)) (Rnd (fun s : List Bool × Bool => (s.1.length = f.Code.length ∧ (∀ k, s.1[k]? = some true → Reach f k) ∧ s.1[0]? = some true) ∧ (s.2 = false → Clo f s.1 f.Code.length)) (fun s => 2 * unm s.1 + (if s.2 then 1 else 0)) (out0, true) (fun r : List Bool => r.length = f.Code.length ∧ ∀ k, r[k]? = some true ↔ Reach f k))) := by
        intro out again hp hc
        unfold ref13_Reached_j4
        exact .cnt ⟨⟨hp, k + 1, wk, hlt, hc⟩, by simp only [wk]; omega⟩
      refine Hs.loop (fun s => PInv f out0 s.1 s.2.1 ∧ (s.2.1 = false → Clo f out0 k) ∧ ∃ i : Nat, s.2.2 = (i : Int) ∧ i ≤ nx.length ∧ (s.2.1 = false → out0[k]? = some true → ∀ (i' j : Nat), i' < i → nx[i']? = some (j : Int) → out0[j]? = some true)) (fun s => nx.length - s.2.2.toNat) ⟨hp, hclo, 0, rfl, Nat.zero_le _, fun _ _ i' j h => absurd h (Nat.not_lt_zero _)⟩ ?_
      rintro ⟨out, again, i'⟩ ⟨hp, hclo, i, rfl, hi, hdone⟩
      simp only at hp hclo hdone
      have hol := hp.len
      have nextClo : again = false → (out0[k]? = some true → ∀ (i' j : Nat), i' < nx.length → nx[i']? = some (j : Int) → out0[j]? = some true) → Clo f out0 (k + 1) := by
        intro ha hd k' j x hk' ht hx hj
        by_cases e : k' = k
        · subst e
          rw [hcode] at hx; cases hx
          rw [hnn] at hj
          obtain ⟨i', hi'⟩ := List.getElem?_of_mem hj
          exact hd ht i' j (List.getElem?_eq_some_iff.1 hi').1 hi'
        · exact hclo ha k' j x (by omega) ht hx hj
      unfold ref13_Reached_b5
      dsimp only
      refine .dec (fun hil => ?_) fun hil => .lft (stop out again hp fun ha => nextClo ha fun ht i' j hi' hx => hdone ha ht i' j (by have : ¬ i < nx.length := fun h => hil (Int.ofNat_lt.2 h); omega) hx)
      have hil : i < nx.length := Int.ofNat_lt.1 hil
      have wi := wrap_succ (show i < 9223372036854775807 by omega)
      refine .chk (by omega) ((Hs.get (l := out) (i := (k : Int)) (by omega) (by omega) fun z hz => hz).bind fun b hb => ?_)
      simp only [Int.toNat_natCast] at hb
      refine .cond (fun ht => ?_) fun ht => .lft (stop out again hp fun ha => nextClo ha fun ht0 => ?_)
      · subst ht
        unfold ref13_Reached_j6
        refine .chk (by omega) ((Hs.get (l := nx) (i := (i : Int)) (by omega) (by omega) fun z hz => hz).bind fun y hy => ?_)
        simp only [Int.toNat_natCast] at hy
        have hyr := hnx y (List.mem_of_getElem? hy)
        obtain ⟨j, rfl⟩ : ∃ j : Nat, y = (j : Int) := ⟨y.toNat, by omega⟩
        refine .chk (by omega) ((Hs.get (l := out) (i := (j : Int)) (by omega) (by omega) fun z hz => hz).bind fun b hbj => ?_)
        simp only [Int.toNat_natCast] at hbj
        refine .cond (fun hb' => ?_) fun hb' => ?_
        · have hbf : b = false := by simpa using hb'
          subst hbf
          refine .chk (by omega) ((Hs.get (l := nx) (i := (i : Int)) (by omega) (by omega) fun z hz => hz).bind fun y2 hy2 => ?_)
          simp only [Int.toNat_natCast] at hy2
          rw [hy] at hy2; cases hy2
          refine .chk (by omega) ((Hs.get (l := out) (i := (j : Int)) (by omega) (by omega) fun z hz => hz).bind fun _ _ => ?_)
          have hu := unm_set hbj
          have hle : unm out ≤ unm out0 := by
            cases ha : again with
            | false => rw [hp.no ha]; exact Nat.le_refl _
            | true => exact Nat.le_of_lt (hp.yes ha)
          refine .cnt ⟨⟨⟨by simpa using hol, fun q hq => ?_, ?_, (fun h => by cases h), fun _ => ?_⟩, (fun h => by cases h), i + 1, wi, hil, (fun h => by cases h)⟩, by simp only [wi]; omega⟩
          · simp only [Int.toNat_natCast] at hq
            by_cases e : j = q
            · subst e
              exact .step k _ _ (hp.sound k hb) hcode (by rw [hnn]; exact List.mem_of_getElem? hy)
            · rw [List.getElem?_set_ne e] at hq; exact hp.sound q hq
          · simp only [Int.toNat_natCast]
            by_cases e : j = 0
            · subst e; rw [List.getElem?_set_self (by omega)]
            · rw [List.getElem?_set_ne e]; exact hp.zero
          · simp only [Int.toNat_natCast]; omega
        · have hbt : b = true := by simpa using hb'
          subst hbt
          refine .cnt ⟨⟨hp, hclo, i + 1, wi, hil, fun ha ht0 i' j' hi' hx => ?_⟩, by simp only [wi]; omega⟩
          by_cases e : i' = i
          · subst e
            rw [hy] at hx
            have : j = j' := by have := Option.some.inj hx; omega
            subst this
            rw [← hp.no ha]; exact hbj
          · exact hdone ha ht0 i' j' (by omega) hx
      · subst ht
        rw [hp.no ha] at hb
        rw [hb] at ht0; cases ht0
    · simp only at ha ⊢
      have hkl : k = f.Code.length := by have : ¬ k < f.Code.length := fun h => hlt (Int.ofNat_lt.2 h); omega
      rw [hp.no ha, ← hkl]
      exact hclo ha
    · cases ha : again with
      | false => simp [hp.no ha]
      | true => have := hp.yes ha; simp; omega
  · subst ha
    have hclo := h4 rfl
    induction hk with
    | zero => exact h3
    | step k j x hr hx hj ih => exact hclo k j x (hr.lt hf) ih hx hj

attribute [local simp] chk_pos Bool.cond_eq_ite

theorem bools_ext {a b : List Bool} (hl : a.length = b.length) (h : ∀ k : Nat, a[k]? = some true ↔ b[k]? = some true) : a = b := by
  refine List.ext_getElem hl fun k h1 h2 => ?_
  have := h k
  rw [List.getElem?_eq_getElem h1, List.getElem?_eq_getElem h2] at this
  cases ha : a[k] <;> cases hb : b[k] <;> simp_all

theorem law13_FlowReached_true (codes : List Int) (hc : qL (qInt .u8) codes) : law13_FlowReached codes = some true := by
  obtain ⟨p, e1, _, ps, i, hf⟩ := function13_hs codes hc
  have hfl := hf.flow (by omega)
  obtain ⟨a, e2, a1, a2⟩ := freach_hs hfl
  obtain ⟨b, e3, b1, b2⟩ := rreach_hs hfl
  have hab : a = b := bools_ext (a1.trans b1.symm) fun k => (a2 k).trans (b2 k).symm
  subst hab
  have hlen := hfl.len'
  unfold law13_FlowReached
  rw [awake13]
  simp only [Option.bind_some, Bool.not_true, cond_false, e1, e2, e3, bne_self_eq_false]
  refine loop_list a (fun (_ : Unit) i => i) (fun _ _ => True) (fun _ _ => some true) (fun _ _ => ⟨true, by simp [law13_FlowReached_b1], rfl⟩) (fun _ i x r _ hd hi hx => ?_) () trivial
  have w := wrap_succ (show i < 9223372036854775807 by omega)
  obtain ⟨_, rfl⟩ := List.getElem?_eq_some_iff.1 hx
  exact .inl ⟨(), trivial, by simp [law13_FlowReached_b1, hi, w], rfl⟩
end Go.Proofs.Ytlphpepmbcbmiaa
