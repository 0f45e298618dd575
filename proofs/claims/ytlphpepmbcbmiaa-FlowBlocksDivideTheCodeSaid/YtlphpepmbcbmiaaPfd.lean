/-
  FlowBlocksDivideTheCode: its typed program answers true.
-/
import Derived.Test.YtlphpepmbcbmiaaPfb
namespace Go.Proofs.Ytlphpepmbcbmiaa
open Go Go.Dw Go.Proofs

theorem nats_asc (f : TFunc) (n : Nat) : (ledN f n).Pairwise (· < ·) := by
  unfold ledN
  rw [List.pairwise_map]
  exact (List.pairwise_lt_range.filter _).imp fun h => Int.ofNat_lt.2 h
theorem mem_ledN {f : TFunc} {n : Nat} {v : Int} : v ∈ ledN f n ↔ ∃ j : Nat, v = (j : Int) ∧ j < n ∧ LeadP f j := by
  unfold ledN
  simp only [List.mem_map, List.mem_filter, List.mem_range, decide_eq_true_eq]
  exact ⟨fun ⟨j, ⟨h1, h2⟩, h3⟩ => ⟨j, h3.symm, h1, h2⟩, fun ⟨j, h1, h2, h3⟩ => ⟨j, ⟨h2, h3⟩, h1.symm⟩⟩

/-- the leader behind the block of leader number i -/
theorem next_lead {f : TFunc} {i p q : Nat} {b : TInterval} (hi : (ledN f f.Code.length)[i]? = some (p : Int)) (h : IsBlk f p b p q) :
    (q < f.Code.length → (ledN f f.Code.length)[i + 1]? = some (q : Int)) ∧ (q = f.Code.length → i + 1 = (ledN f f.Code.length).length) := by
  have ha := nats_asc f f.Code.length
  have hm := fun v => @mem_ledN f f.Code.length v
  generalize ledN f f.Code.length = l at *
  obtain ⟨hil, hix⟩ := List.getElem?_eq_some_iff.1 hi
  rw [List.pairwise_iff_getElem] at ha
  have between : ∀ j : Nat, (hj : j < l.length) → i < j → (q : Int) ≤ l[j] := by
    intro j hj hij
    obtain ⟨v, e1, e2, e3⟩ := (hm l[j]).1 (List.getElem_mem _)
    have := ha i j hil hj hij
    rw [hix, e1] at this
    have hpv : p < v := Int.ofNat_lt.1 this
    have : ¬ v < q := fun hvq => h.h5 v hpv hvq e3
    rw [e1]; omega
  constructor
  · intro hq
    have hlq : LeadP f q := h.h6.resolve_left (by omega)
    have hql : (q : Int) ∈ l := (hm _).2 ⟨q, rfl, hq, hlq⟩
    obtain ⟨j, hj⟩ := List.getElem?_of_mem hql
    obtain ⟨hjl, hjx⟩ := List.getElem?_eq_some_iff.1 hj
    have hij : i < j := by
      rcases Nat.lt_trichotomy i j with h1 | h1 | h1
      · exact h1
      · subst h1; rw [hix] at hjx; have := h.h2; omega
      · have := ha j i hjl hil h1; rw [hix, hjx] at this; have := h.h2; omega
    have hi1 : i + 1 < l.length := by omega
    have hb := between (i + 1) hi1 (by omega)
    have : l[i + 1] ≤ l[j] := by
      rcases Nat.lt_or_ge (i + 1) j with h1 | h1
      · have := ha (i + 1) j hi1 hjl h1; omega
      · have : i + 1 = j := by omega
        subst this; exact Int.le_refl _
    rw [List.getElem?_eq_getElem hi1]
    congr 1; omega
  · intro hq
    rcases Nat.lt_or_ge (i + 1) l.length with h1 | h1
    · have hb := between (i + 1) h1 (by omega)
      obtain ⟨v, e1, e2, e3⟩ := (hm l[i + 1]).1 (List.getElem_mem _)
      rw [e1] at hb; omega
    · omega

theorem first_lead {f : TFunc} (hf : FlowOk f) : (ledN f f.Code.length)[0]? = some 0 := by
  have ha := nats_asc f f.Code.length
  have h0 : (0 : Int) ∈ ledN f f.Code.length := mem_ledN.2 ⟨0, rfl, hf.len, .inl rfl⟩
  have hm := fun v => @mem_ledN f f.Code.length v
  generalize ledN f f.Code.length = l at *
  cases l with
  | nil => cases h0
  | cons x l =>
    obtain ⟨v, e1, _⟩ := (hm x).1 (by simp)
    rcases List.mem_cons.1 h0 with h | h
    · simp [← h]
    · have := List.rel_of_pairwise_cons ha h; omega

theorem law13_FlowBlocksDivideTheCode_true (codes : List Int) (hc : qL (qInt .u8) codes) : law13_FlowBlocksDivideTheCode codes = some true := by
  obtain ⟨pp, e1, _, ps, i, hf⟩ := function13_hs codes hc
  have hfl := hf.flow (by omega)
  have hlen := hfl.len
  have hlen' := hfl.len'
  have key : Hs (law13_FlowBlocksDivideTheCode codes) fun b => b = true := by
    unfold law13_FlowBlocksDivideTheCode
    rw [awake13]
    simp only [Option.bind_some, Bool.not_true, cond_false, e1]
    obtain ⟨f, cc⟩ := pp
    simp only at hfl hlen hlen' ⊢
    refine (fleaders_hs hfl).bind fun l hl => ?_
    subst hl
    have hll := ledN_length f f.Code.length
    refine Hs.loop (fun s => ∃ i at_ : Nat, s = ((at_ : Int), (i : Int)) ∧ ((ledN f f.Code.length)[i]? = some (at_ : Int) ∨ (i = (ledN f f.Code.length).length ∧ at_ = f.Code.length))) (fun s => (ledN f f.Code.length).length - s.2.toNat) ⟨0, 0, rfl, .inl (first_lead hfl)⟩ ?_
    rintro s ⟨i, at_, rfl, hi⟩
    unfold law13_FlowBlocksDivideTheCode_b1
    dsimp only
    refine .dec (fun hlt => ?_) fun hlt => .lft (.pure ?_)
    · have hlt : i < (ledN f f.Code.length).length := Int.ofNat_lt.1 hlt
      have hix : (ledN f f.Code.length)[i]? = some (at_ : Int) := hi.resolve_right (by omega)
      refine .chk (by omega) ?_
      simp only [Int.toNat_natCast, hix, Option.bind_some]
      obtain ⟨v, ev, hv1, hv2⟩ := mem_ledN.1 (List.mem_of_getElem? hix)
      have : at_ = v := by omega
      subst this
      refine (fblock_hs hfl hv1).bind fun b ⟨p, q, hb⟩ => ?_
      have hpe : p = at_ := by
        rcases Nat.lt_or_ge p at_ with h | h
        · exact (hb.h5 at_ h hb.h2 hv2).elim
        · have := hb.h1; omega
      subst hpe
      have hbe := hb.h7
      subst hbe
      have h2 := hb.h2
      have h3 := hb.h3
      refine .chk (by omega) ?_
      dsimp only
      refine .bne (fun h => (h rfl).elim) fun _ => .bne (fun h => (h rfl).elim) fun _ => .dec (fun h => by omega) fun _ => ?_
      have w1 : IntKind.i64.wrap ((p : Int) + ((q : Int) - (p : Int))) = (q : Int) := by rw [wrap64 (by omega) (by omega)]; omega
      have w2 : IntKind.i64.wrap ((q : Int) - 1) = ((q - 1 : Nat) : Int) := by rw [wrap64 (by omega) (by omega)]; omega
      simp only [w1]
      refine .dec (fun h => by omega) fun _ => ?_
      unfold law13_FlowBlocksDivideTheCode_j3
      refine Hs.loop (fun s => ∃ k : Nat, s = (k : Int) ∧ p ≤ k ∧ k ≤ q - 1) (fun s => q - s.toNat) ⟨p, rfl, Nat.le_refl _, by omega⟩ ?_
      rintro s ⟨k, rfl, hk1, hk2⟩
      unfold law13_FlowBlocksDivideTheCode_b4
      simp only [w1, w2]
      refine .dec (fun hkq => ?_) fun hkq => .lft ?_
      · have hkq : k < q - 1 := Int.ofNat_lt.1 hkq
        have wk := wrap_succ (show k < 9223372036854775807 by omega)
        have hcode : f.Code[k]? = some (codeOf f k) := by simp [codeOf, show k < f.Code.length by omega]
        have hnx : nextN (codeOf f k) k = [(k : Int) + 1] := by
          have hno : ¬ ((codeOf f k).Op = 20 ∨ (codeOf f k).Op = 21 ∨ (codeOf f k).Op = 23 ∨ (codeOf f k).Op = 24) := fun h => hb.h5 (k + 1) (by omega) (by omega) (.inr ⟨k, _, hcode, .inr (.inr ⟨h, rfl⟩)⟩)
          unfold nextN
          rw [if_neg (fun h => hno (.inl h)), if_neg (fun h => hno (h.elim (fun h => .inr (.inr (.inl h))) fun h => .inr (.inr (.inr h)))), if_neg (fun h => hno (.inr (.inl h)))]
        rw [fnext_eq hcode (by omega), Option.bind_some, hnx, wk]
        rw [same_eq _ _ (by simp), Option.bind_some]
        have hblk : IsBlk f k ⟨(p : Int), (q : Int) - (p : Int)⟩ p q := ⟨hk1, by omega, hb.h3, hb.h4, hb.h5, hb.h6, rfl⟩
        refine .cond (fun h => ?_) fun _ => ?_
        · simp at h
        · refine (fblock_hs hfl (k := k) (by omega)).bind fun b' ⟨p', q', hb'⟩ => ?_
          obtain ⟨_, _, rfl⟩ := hblk.uniq hb'
          refine .cond (fun h => by simp at h) fun _ => .cnt ⟨⟨k + 1, rfl, by omega, by omega⟩, by simp only []; omega⟩
      · unfold law13_FlowBlocksDivideTheCode_j2
        have wi := wrap_succ (show i < 9223372036854775807 by omega)
        simp only [w1, wi]
        obtain ⟨n1, n2⟩ := next_lead hix hb
        refine .cnt ⟨⟨i + 1, q, rfl, ?_⟩, by simp only []; omega⟩
        by_cases hq : q < f.Code.length
        · exact .inl (n1 hq)
        · exact .inr ⟨n2 (by omega), by omega⟩
    · have : ¬ i < (ledN f f.Code.length).length := fun h => hlt (Int.ofNat_lt.2 h)
      rcases hi with hi | ⟨_, hi⟩
      · exact (this (List.getElem?_eq_some_iff.1 hi).1).elim
      · subst hi; show (((f.Code.length : Nat) : Int) == (f.Code.length : Int)) = true; simp
  obtain ⟨b, h1, h2⟩ := key
  rw [h1, h2]
end Go.Proofs.Ytlphpepmbcbmiaa
