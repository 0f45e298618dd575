/-
  The programs as they are drawn.
-/
import Derived.Test.YtlphpepmbcbmiaaPhs
import Derived.Test.YtlphpepmbcbmiaaPdn
namespace Go.Proofs.Ytlphpepmbcbmiaa
open Go Go.Dw Go.Proofs

/-- what a choice below n gives -/
theorem next_hs {c : Tdraw_Codes} (h : okC c) {n : Int} (h1 : n ≤ 1099511627776) : Hs (draw_Codes_Next c n) fun p => okC p.2 ∧ 0 ≤ p.1 ∧ (p.1 < n ∨ p.1 = 0) := by
  obtain ⟨r, c', e, h2, h3, h4⟩ := next_ok c h n h1
  exact ⟨(r, c'), e, h2, h3, h4⟩
/-- the same for n that is not 0 -/
theorem nextp_hs {c : Tdraw_Codes} (h : okC c) {n : Int} (h0 : 1 ≤ n) (h1 : n ≤ 1099511627776) : Hs (draw_Codes_Next c n) fun p => okC p.2 ∧ 0 ≤ p.1 ∧ p.1 < n :=
  (next_hs h h1).mono fun r hr => ⟨hr.1, hr.2.1, by omega⟩

def SlotOk (s : TSlot) : Prop := s.Size ∈ ([8, 4, 8, 1, 2, 16, 8] : List Int) ∧ s.Align ∈ ([8, 4, 1, 8, 16, 2, 32, 64] : List Int)
def W64 (w : Int) : Prop := 0 ≤ w ∧ w < 18446744073709551616
def Reg (a : Int) : Prop := 0 ≤ a ∧ a < 4

theorem slot_hs {c : Tdraw_Codes} (h : okC c) : Hs (draw_Codes_Slot c) fun p => okC p.2 ∧ SlotOk p.1 := by
  unfold draw_Codes_Slot
  refine (nextp_hs h (by omega) (by omega)).bind fun r hr => .chk (by simp; omega) ?_
  refine (Hs.get hr.2.1 (by simp; omega) fun x hx => List.mem_of_getElem? hx).bind fun x hx => ?_
  refine (nextp_hs hr.1 (by omega) (by omega)).bind fun r' hr' => .chk (by simp; omega) ?_
  refine (Hs.get hr'.2.1 (by simp; omega) fun x hx => List.mem_of_getElem? hx).bind fun y hy => ?_
  exact .pure ⟨hr'.1, hx, hy⟩

theorem slots_hs {c : Tdraw_Codes} (h : okC c) {m : Int} (hm : 0 ≤ m) (hm' : m ≤ 1000) : Hs (draw_Codes_Slots c m) fun p => okC p.2 ∧ (p.1.length : Int) ≤ m ∧ ∀ s ∈ p.1, SlotOk s := by
  unfold draw_Codes_Slots
  have w : IntKind.i64.wrap (m + 1) = m + 1 := wrap64 (by omega) (by omega)
  rw [w]
  refine (nextp_hs h (by omega) (by omega)).bind fun r hr => ?_
  refine Hs.loop (fun s => okC ⟨s.1, s.2.1⟩ ∧ (s.2.2.1.length : Int) + s.2.2.2 ≤ m ∧ (∀ x ∈ s.2.2.1, SlotOk x) ∧ 0 ≤ s.2.2.2) (fun s => s.2.2.2.toNat) ⟨hr.1, by simp; omega, by simp, hr.2.1⟩ ?_
  rintro ⟨l, a, sl, n⟩ ⟨hc, hl, hs, hn⟩
  simp only at hc hl hs hn
  unfold draw_Codes_Slots_b1
  refine .dec (fun hlt => ?_) fun hlt => ?_
  · have hlt : 0 < n := hlt
    have w : IntKind.i64.wrap (n - 1) = n - 1 := wrap64 (by omega) (by omega)
    refine (slot_hs hc).bind fun x hx => .chk (by simp; omega) (.cnt ⟨⟨hx.1, ?_, ?_, ?_⟩, ?_⟩)
    · simp only [w, List.length_append, List.length_singleton]; omega
    · intro y hy
      rcases List.mem_append.1 hy with h1 | h1
      · exact hs y h1
      · rw [List.mem_singleton] at h1; subst h1; exact hx.2
    · simp only [w]; omega
    · simp only [w]; omega
  · exact .lft (.pure ⟨hc, by simp only; omega, hs⟩)

theorem word_hs {c : Tdraw_Codes} (h : okC c) : Hs (draw_Codes_Word c) fun p => okC p.2 ∧ W64 p.1 := by
  unfold draw_Codes_Word
  refine (nextp_hs h (by omega) (by omega)).bind fun r hr => .beq (fun _ => ?_) fun _ => .beq (fun _ => ?_) fun _ => .beq (fun _ => ?_) fun _ => ?_
  · exact (nextp_hs hr.1 (by omega) (by omega)).bind fun r' hr' => .pure ⟨hr'.1, u64_rng _⟩
  · exact (nextp_hs hr.1 (by omega) (by omega)).bind fun r' hr' => .chk hr'.2.1 (.pure ⟨hr'.1, u64_rng _⟩)
  · exact .pure ⟨hr.1, by simp only; unfold W64; omega⟩
  · exact (nextp_hs hr.1 (by omega) (by omega)).bind fun r' hr' => .pure ⟨hr'.1, u64_rng _⟩

/-- slots of one size -/
def Like (sl : List TSlot) (a b : Int) : Prop := 0 ≤ a ∧ a < sl.length ∧ ∃ x y, sl[a.toNat]? = some x ∧ sl[b.toNat]? = some y ∧ x.Size = y.Size

theorem like_hs {c : Tdraw_Codes} (h : okC c) {f : TFunc} {s : Int} (h0 : 0 ≤ s) (h1 : s < f.Slots.length) (hl : f.Slots.length ≤ 1000) : Hs (draw_Codes_like c f s) fun p => okC p.2 ∧ Like f.Slots p.1 s := by
  unfold draw_Codes_like
  refine Hs.loop (fun st => 0 ≤ st.2 ∧ st.2 ≤ f.Slots.length ∧ (st.1.length : Int) ≤ st.2 ∧ (∀ v ∈ st.1, Like f.Slots v s) ∧ (s < st.2 → 0 < st.1.length)) (fun st => f.Slots.length - st.2.toNat) ⟨by simp, by simp, by simp, by simp, fun h => by simp at h; omega⟩ ?_
  rintro ⟨l, k⟩ ⟨hk0, hk1, hll, hv, hne⟩
  simp only at hk0 hk1 hll hv hne
  unfold draw_Codes_like_b1
  refine .dec (fun hlt => ?_) fun hlt => .lft ?_
  · have w : IntKind.i64.wrap (k + 1) = k + 1 := wrap64 (by omega) (by omega)
    refine (Hs.ix hk0 hlt fun x hx => hx).bind fun x hx => (Hs.ix h0 h1 fun x hx => hx).bind fun y hy => .beq (fun he => ?_) fun he => ?_
    · refine .chk (by simp; omega) (.cnt ⟨⟨by simp only [w]; omega, by simp only [w]; omega, by simp only [w, List.length_append, List.length_singleton]; omega, ?_, by simp⟩, by simp only [w]; omega⟩)
      intro v hv'
      rcases List.mem_append.1 hv' with h2 | h2
      · exact hv v h2
      · rw [List.mem_singleton] at h2; subst h2
        exact ⟨hk0, hlt, x, y, hx, hy, he⟩
    · refine .cnt ⟨⟨by simp only [w]; omega, by simp only [w]; omega, by simp only [w]; omega, hv, fun h3 => ?_⟩, by simp only [w]; omega⟩
      simp only [w] at h3
      by_cases e : s = k
      · subst e; rw [hx] at hy; cases hy; exact (he rfl).elim
      · exact hne (by omega)
  · have hlt : ¬ k < f.Slots.length := hlt
    have hl1 := hne (by omega)
    refine (nextp_hs h (n := (l.length : Int)) (by omega) (by omega)).bind fun r hr => .chk ⟨hr.2.1, hr.2.2⟩ ?_
    exact (Hs.get hr.2.1 hr.2.2 fun x hx => hv x (List.mem_of_getElem? hx)).bind fun x hx => .pure ⟨hr.1, hx⟩

/-- the instructions of a drawn function but its last one; T: where jumps may go -/
inductive InsOk (sl : List TSlot) (np i : Int) (ps : List Int) (T : Int → Prop) : TInstr → Prop
  | store (a b : Int) : 0 ≤ a → a < sl.length → Reg b → InsOk sl np i ps T ⟨16, a, b, 0, 0⟩
  | load (a b : Int) : Reg a → 0 ≤ b → b < sl.length → InsOk sl np i ps T ⟨15, a, b, 0, 0⟩
  | move (a b : Int) : Like sl a b → 0 ≤ b → b < sl.length → InsOk sl np i ps T ⟨17, a, b, 0, 0⟩
  | const (a w : Int) : Reg a → W64 w → InsOk sl np i ps T ⟨0, a, 0, 0, w⟩
  | bin (op a b c : Int) : 2 ≤ op → op < 12 → Reg a → Reg b → 0 ≤ c → c < 8 → InsOk sl np i ps T ⟨op, a, b, c, 0⟩
  | out (a : Int) : Reg a → InsOk sl np i ps T ⟨14, a, 0, 0, 0⟩
  | un (op a : Int) : (op = 13 ∨ op = 12 ∨ op = 1) → Reg a → InsOk sl np i ps T ⟨op, a, 0, 0, 0⟩
  | param (a b : Int) : Reg a → 0 ≤ b → b < np → InsOk sl np i ps T ⟨19, a, b, 0, 0⟩
  | arg (a b : Int) : 0 ≤ a → a < 4 → Reg b → InsOk sl np i ps T ⟨18, a, b, 0, 0⟩
  | call (j : Int) : i < j → j < ps.length → InsOk sl np i ps T ⟨22, j, 0, 0, 0⟩
  | jump (t : Int) : T t → InsOk sl np i ps T ⟨20, t, 0, 0, 0⟩
  | branch (a t : Int) : Reg a → T t → InsOk sl np i ps T ⟨21, a, t, 0, 0⟩

/-- as many parameters as are drawn -/
def ParOk (ps : List Int) : Prop := (∀ v ∈ ps, 0 ≤ v ∧ v < 4) ∧ ps.length ≤ 1000

theorem body_hs {c : Tdraw_Codes} (h : okC c) {f : TFunc} {i : Int} {ps : List Int} (T : Int → Prop) (hf : f.Slots.length ≤ 1000) (hp : f.Params < 4) (hi : 0 ≤ i) (hi' : i < ps.length) (hps : ParOk ps) :
    Hs (draw_Codes_body c f i ps) fun p => okC p.2 ∧ p.1.length ≤ 4 ∧ ∀ x ∈ p.1, InsOk f.Slots f.Params i ps T x := by
  unfold draw_Codes_body
  refine (nextp_hs h (by omega) (by omega)).bind fun r hr => (nextp_hs hr.1 (by omega) (by omega)).bind fun k hk => ?_
  have hreg : Reg r.1 := hr.2
  have one : ∀ {x : TInstr} {c' : Tdraw_Codes}, okC c' → InsOk f.Slots f.Params i ps T x → Hs (some (([x] : List TInstr), c')) fun p => okC p.2 ∧ p.1.length ≤ 4 ∧ ∀ x ∈ p.1, InsOk f.Slots f.Params i ps T x := fun hc hx => .pure ⟨hc, by simp, by simpa using hx⟩
  have j6 : ∀ b, (b = true → i + 1 < ps.length) → Hs (draw_Codes_body_j6 k ps i r b) fun p => okC p.2 ∧ p.1.length ≤ 4 ∧ ∀ x ∈ p.1, InsOk f.Slots f.Params i ps T x := by
    intro b hb
    unfold draw_Codes_body_j6
    refine .cond (fun hb' => ?_) fun _ => one hk.1 (.out _ hreg)
    have hil := hb hb'
    have hlen := hps.2
    have w1 : IntKind.i64.wrap ((ps.length : Int) - i) = (ps.length : Int) - i := wrap64 (by omega) (by omega)
    have w2 : IntKind.i64.wrap ((ps.length : Int) - i - 1) = (ps.length : Int) - i - 1 := wrap64 (by omega) (by omega)
    have w3 : IntKind.i64.wrap (i + 1) = i + 1 := wrap64 (by omega) (by omega)
    rw [w1, w2]
    refine (nextp_hs hk.1 (by omega) (by omega)).bind fun q hq => ?_
    have w4 : IntKind.i64.wrap (i + 1 + q.1) = i + 1 + q.1 := wrap64 (by omega) (by omega)
    refine Hs.loop (fun s => okC ⟨s.1, s.2.1⟩ ∧ (s.2.2.1.length : Int) ≤ s.2.2.2 ∧ 0 ≤ s.2.2.2 ∧ s.2.2.2 ≤ 3 ∧ ∀ x ∈ s.2.2.1, InsOk f.Slots f.Params i ps T x) (fun s => (3 - s.2.2.2).toNat) ⟨hq.1, by simp, by simp, by simp, by simp⟩ ?_
    rintro ⟨l, a, out, n⟩ ⟨hc, ho, hn0, hn3, hall⟩
    simp only at hc ho hn0 hn3 hall
    unfold draw_Codes_body_b7
    simp only [w3, w4]
    refine (Hs.ix (by omega) (by omega) fun x hx => hps.1 x (List.mem_of_getElem? hx)).bind fun x hx => .dec (fun hlt => ?_) fun hlt => .lft ?_
    · have w5 : IntKind.i64.wrap (n + 1) = n + 1 := wrap64 (by omega) (by omega)
      refine (nextp_hs hc (by omega) (by omega)).bind fun u hu => .dec (fun _ => ?_) fun _ => ?_
      · refine (nextp_hs hu.1 (by omega) (by omega)).bind fun v hv => .chk (by simp; omega) (.cnt ⟨⟨hv.1, by simp only [w5, List.length_append, List.length_singleton]; omega, by simp only [w5]; omega, by simp only [w5]; omega, ?_⟩, by simp only [w5]; omega⟩)
        intro y hy
        rcases List.mem_append.1 hy with h2 | h2
        · exact hall y h2
        · rw [List.mem_singleton] at h2; subst h2
          exact .arg _ _ hn0 (by omega) hv.2
      · exact .cnt ⟨⟨hu.1, by simp only [w5]; omega, by simp only [w5]; omega, by simp only [w5]; omega, hall⟩, by simp only [w5]; omega⟩
    · refine .chk (by simp; omega) (.pure ⟨hc, by simp only [List.length_append, List.length_singleton]; omega, ?_⟩)
      intro y hy
      rcases List.mem_append.1 hy with h2 | h2
      · exact hall y h2
      · rw [List.mem_singleton] at h2; subst h2
        exact .call _ (by omega) (by omega)
  have j5 : ∀ b, (b = true → 0 < f.Params) → Hs (draw_Codes_body_j5 k f r ps i b) fun p => okC p.2 ∧ p.1.length ≤ 4 ∧ ∀ x ∈ p.1, InsOk f.Slots f.Params i ps T x := by
    intro b hb
    unfold draw_Codes_body_j5
    refine .cond (fun hb' => ?_) fun _ => .dec (fun _ => j6 _ fun hd => ?_) fun _ => j6 _ fun hd => (by cases hd)
    · have := hb hb'
      exact (nextp_hs hk.1 (by omega) (by omega)).bind fun u hu => one hu.1 (.param _ _ hreg hu.2.1 hu.2.2)
    · have hlen := hps.2
      have := of_decide_eq_true hd
      rw [wrap64 (by omega) (by omega)] at this
      exact this
  have j4 : ∀ b, (b = true → 0 < f.Slots.length) → Hs (draw_Codes_body_j4 k f r ps i b) fun p => okC p.2 ∧ p.1.length ≤ 4 ∧ ∀ x ∈ p.1, InsOk f.Slots f.Params i ps T x := by
    intro b hb
    unfold draw_Codes_body_j4
    refine .cond (fun hb' => ?_) fun _ => .dec (fun _ => ?_) fun _ => .dec (fun _ => ?_) fun _ => .dec (fun _ => one hk.1 (.out _ hreg)) fun _ => .beq (fun _ => ?_) fun _ => .beq (fun _ => j5 _ fun hd => of_decide_eq_true hd) fun _ => j5 _ fun hd => (by cases hd)
    · have := hb hb'
      exact (nextp_hs hk.1 (by omega) (by omega)).bind fun u hu => (like_hs hu.1 hu.2.1 hu.2.2 hf).bind fun v hv => one hv.1 (.move _ _ hv.2 hu.2.1 hu.2.2)
    · exact (word_hs hk.1).bind fun u hu => one hu.1 (.const _ _ hreg hu.2)
    · refine (nextp_hs hk.1 (by omega) (by omega)).bind fun u hu => (nextp_hs hu.1 (by omega) (by omega)).bind fun v hv => (nextp_hs hv.1 (by omega) (by omega)).bind fun z hz => one hz.1 ?_
      rw [wrap64 (by omega) (by omega)]
      exact .bin _ _ _ _ (by omega) (by omega) hreg hv.2 hz.2.1 hz.2.2
    · refine (nextp_hs hk.1 (by omega) (by omega)).bind fun u hu => .chk (by simp; omega) ?_
      refine (Hs.get hu.2.1 (by simp; omega) fun x hx => List.mem_of_getElem? hx).bind fun x hx => one hu.1 (.un _ _ (by simpa using hx) hreg)
  have j3 : ∀ b, (b = true → 0 < f.Slots.length) → Hs (draw_Codes_body_j3 k f r ps i b) fun p => okC p.2 ∧ p.1.length ≤ 4 ∧ ∀ x ∈ p.1, InsOk f.Slots f.Params i ps T x := by
    intro b hb
    unfold draw_Codes_body_j3
    refine .cond (fun hb' => ?_) fun _ => .dec (fun _ => j4 _ fun hd => by have := of_decide_eq_true hd; omega) fun _ => j4 _ fun hd => (by cases hd)
    have := hb hb'
    exact (nextp_hs hk.1 (by omega) (by omega)).bind fun u hu => one hu.1 (.load _ _ hreg hu.2.1 hu.2.2)
  have j2 : ∀ b, (b = true → 0 < f.Slots.length) → Hs (draw_Codes_body_j2 k f r ps i b) fun p => okC p.2 ∧ p.1.length ≤ 4 ∧ ∀ x ∈ p.1, InsOk f.Slots f.Params i ps T x := by
    intro b hb
    unfold draw_Codes_body_j2
    refine .cond (fun hb' => ?_) fun _ => .dec (fun _ => j3 _ fun hd => by have := of_decide_eq_true hd; omega) fun _ => j3 _ fun hd => (by cases hd)
    have := hb hb'
    exact (nextp_hs hk.1 (by omega) (by omega)).bind fun u hu => one hu.1 (.store _ _ hu.2.1 hu.2.2 hreg)
  exact .dec (fun _ => j2 _ fun hd => by have := of_decide_eq_true hd; omega) fun _ => j2 _ fun hd => (by cases hd)

theorem InsOk.mono {sl : List TSlot} {np i : Int} {ps : List Int} {T T' : Int → Prop} {x : TInstr} (h : InsOk sl np i ps T x) (hT : ∀ t, T t → T' t) : InsOk sl np i ps T' x := by
  cases h with
  | store a b h1 h2 h3 => exact .store a b h1 h2 h3
  | load a b h1 h2 h3 => exact .load a b h1 h2 h3
  | move a b h1 h2 h3 => exact .move a b h1 h2 h3
  | const a w h1 h2 => exact .const a w h1 h2
  | bin op a b c h1 h2 h3 h4 h5 h6 => exact .bin op a b c h1 h2 h3 h4 h5 h6
  | out a h1 => exact .out a h1
  | un op a h1 h2 => exact .un op a h1 h2
  | param a b h1 h2 h3 => exact .param a b h1 h2 h3
  | arg a b h1 h2 h3 => exact .arg a b h1 h2 h3
  | call j h1 h2 => exact .call j h1 h2
  | jump t h1 => exact .jump t (hT t h1)
  | branch a t h1 h2 => exact .branch a t h1 (hT t h2)

/-- a last instruction -/
def EndOk (x : TInstr) : Prop := x = ⟨23, 0, 0, 0, 0⟩ ∨ ∃ w, W64 w ∧ x = ⟨24, 0, 0, 0, w⟩

/-- a jump that goes nowhere yet is sent to an instruction -/
def fixI (x : TInstr) (t : Int) : TInstr :=
  if x.Op = 20 ∧ x.A < 0 then ⟨x.Op, t, x.B, x.C, x.Imm⟩ else if x.Op = 21 ∧ x.B < 0 then ⟨x.Op, x.A, t, x.C, x.Imm⟩ else x

theorem EndOk.fix {x : TInstr} (h : EndOk x) (t : Int) : fixI x t = x := by
  rcases h with rfl | ⟨w, _, rfl⟩ <;> simp [fixI]
theorem InsOk.fix {sl : List TSlot} {np i : Int} {ps : List Int} {T : Int → Prop} {x : TInstr} (h : InsOk sl np i ps (· = -1) x) {t : Int} (ht : T t) : InsOk sl np i ps T (fixI x t) := by
  cases h with
  | store a b h1 h2 h3 => exact .store a b h1 h2 h3
  | load a b h1 h2 h3 => exact .load a b h1 h2 h3
  | move a b h1 h2 h3 => exact .move a b h1 h2 h3
  | const a w h1 h2 => exact .const a w h1 h2
  | bin op a b c h1 h2 h3 h4 h5 h6 =>
    have : fixI ⟨op, a, b, c, 0⟩ t = ⟨op, a, b, c, 0⟩ := by simp [fixI, show op ≠ 20 by omega, show op ≠ 21 by omega]
    rw [this]
    exact .bin op a b c h1 h2 h3 h4 h5 h6
  | out a h1 => exact .out a h1
  | un op a h1 h2 =>
    have : fixI ⟨op, a, 0, 0, 0⟩ t = ⟨op, a, 0, 0, 0⟩ := by simp [fixI, show op ≠ 20 by omega, show op ≠ 21 by omega]
    rw [this]
    exact .un op a h1 h2
  | param a b h1 h2 h3 => exact .param a b h1 h2 h3
  | arg a b h1 h2 h3 => exact .arg a b h1 h2 h3
  | call j h1 h2 => exact .call j h1 h2
  | jump q h1 => subst h1; exact .jump t ht
  | branch a q h1 h2 => subst h2; exact .branch a t h1 ht

theorem j5_eq {code : List TInstr} {k : Nat} {x : TInstr} (h : code[k]? = some x) (r : Int × Tdraw_Codes) (t : Int) : draw_Codes_function_j5 (k : Int) code r t = some (.inl (r.2.list, r.2.at_, code.set k (fixI x t), IntKind.i64.wrap ((k : Int) + 1))) := by
  obtain ⟨hl, hx⟩ := List.getElem?_eq_some_iff.1 h
  have hset : code.set k x = code := by rw [← hx]; exact List.set_getElem_self hl
  obtain ⟨op, a, b, c, w⟩ := x
  unfold draw_Codes_function_j5 draw_Codes_function_j6
  by_cases h20 : op = 20
  · subst h20
    by_cases ha : a < 0
    · simp [chk_pos, hl, h, hx, fixI, ha]
    · simp [chk_pos, hl, h, hx, fixI, ha, hset]
  · by_cases h21 : op = 21
    · subst h21
      by_cases hb : b < 0
      · simp [chk_pos, hl, h, hx, fixI, hb]
      · simp [chk_pos, hl, h, hx, fixI, hb, hset]
    · have e20 : (op == 20) = false := by simpa using h20
      have e21 : (op == 21) = false := by simpa using h21
      simp [chk_pos, hl, h, hx, fixI, e20, e21, h20, h21, hset]

/-- a function as it is drawn -/
structure FuncOk (ps : List Int) (i most : Int) (f : TFunc) : Prop where
  par : ps[i.toNat]? = some f.Params
  slots : f.Slots.length ≤ 6
  slot : ∀ s ∈ f.Slots, SlotOk s
  len : 1 ≤ f.Code.length
  len' : (f.Code.length : Int) ≤ 7 + 5 * most
  body : ∀ (k : Nat) x, f.Code[k]? = some x → k + 1 < f.Code.length → InsOk f.Slots f.Params i ps (fun t => 0 ≤ t ∧ t < f.Code.length) x
  last : ∀ x, f.Code[f.Code.length - 1]? = some x → EndOk x

theorem fix_hs {l : List Int} {a : Int} (h : okC ⟨l, a⟩) {sl : List TSlot} {np i : Int} {ps : List Int} {most : Int} {code : List TInstr} (hpar : ps[i.toNat]? = some np) (hsl : sl.length ≤ 6) (hsl' : ∀ s ∈ sl, SlotOk s)
    (hlen : 1 ≤ code.length) (hlen' : (code.length : Int) ≤ 7 + 5 * most) (hm : most ≤ 1000) (hb : ∀ (k : Nat) x, code[k]? = some x → k + 1 < code.length → InsOk sl np i ps (· = -1) x) (he : ∀ x, code[code.length - 1]? = some x → EndOk x) :
    Hs (LoopT (fun s : List Int × Int × List TInstr × Int => draw_Codes_function_b4 np sl s.1 s.2.1 s.2.2.1 s.2.2.2) (l, a, code, 0)) fun p => okC p.2 ∧ FuncOk ps i most p.1 := by
  refine Hs.loop (fun s => okC ⟨s.1, s.2.1⟩ ∧ s.2.2.1.length = code.length ∧ ∃ k : Nat, s.2.2.2 = (k : Int) ∧ k ≤ code.length ∧ (∀ x, s.2.2.1[code.length - 1]? = some x → EndOk x) ∧
    ∀ (j : Nat) x, s.2.2.1[j]? = some x → j + 1 < code.length → InsOk sl np i ps (fun t => if j < k then 0 ≤ t ∧ t < code.length else t = -1) x) (fun s => code.length - s.2.2.2.toNat) ⟨h, rfl, 0, rfl, Nat.zero_le _, he, fun j x hj hj' => (hb j x hj hj').mono fun t ht => by simpa using ht⟩ ?_
  rintro ⟨l, a, code', k⟩ ⟨hc, hl, k, rfl, hk, he', hall⟩
  simp only at hc hl he' hall
  unfold draw_Codes_function_b4
  refine .dec (fun hlt => ?_) fun hlt => ?_
  · have hlt : k < code.length := by rw [← hl]; exact Int.ofNat_lt.1 hlt
    have w := wrap_succ (show k < 9223372036854775807 by omega)
    have hx : code'[k]? = some (code'[k]'(by omega)) := List.getElem?_eq_getElem _
    generalize code'[k]'(by omega) = x at hx
    have step : ∀ (r : Int × Tdraw_Codes) (t : Int), okC r.2 → 0 ≤ t → t < code.length → Hs (draw_Codes_function_j5 (k : Int) code' r t) (Rnd (fun s : List Int × Int × List TInstr × Int => okC ⟨s.1, s.2.1⟩ ∧ s.2.2.1.length = code.length ∧ ∃ k : Nat, s.2.2.2 = (k : Int) ∧ k ≤ code.length ∧ (∀ x, s.2.2.1[code.length - 1]? = some x → EndOk x) ∧
        ∀ (j : Nat) x, s.2.2.1[j]? = some x → j + 1 < code.length → InsOk sl np i ps (fun t => if j < k then 0 ≤ t ∧ t < code.length else t = -1) x) (fun s => code.length - s.2.2.2.toNat) (l, a, code', (k : Int)) (fun p : TFunc × Tdraw_Codes => okC p.2 ∧ FuncOk ps i most p.1)) := by
      intro r t hr ht0 ht1
      rw [j5_eq hx]
      refine .pure ⟨⟨hr, by simp [hl], k + 1, w, hlt, ?_, ?_⟩, by simp only [w]; omega⟩
      · intro y hy
        simp only at hy
        by_cases e : k = code.length - 1
        · rw [← e, List.getElem?_set_self (by omega)] at hy
          obtain rfl := Option.some.inj hy
          have hex := he' x (by rw [← e]; exact hx)
          rw [hex.fix]; exact hex
        · rw [List.getElem?_set_ne e] at hy
          exact he' y hy
      · intro j y hy hj
        simp only at hy
        by_cases e : k = j
        · subst e
          rw [List.getElem?_set_self (by omega)] at hy
          obtain rfl := Option.some.inj hy
          exact ((hall k x hx hj).mono fun t ht => by simpa using ht).fix (by rw [if_pos (by omega)]; exact ⟨ht0, ht1⟩)
        · rw [List.getElem?_set_ne e] at hy
          refine (hall j y hy hj).mono fun t ht => ?_
          by_cases e2 : j < k
          · rw [if_pos e2] at ht; rw [if_pos (by omega)]; exact ht
          · rw [if_neg e2] at ht; rw [if_neg (by omega)]; exact ht
    refine (nextp_hs hc (by omega) (by omega)).bind fun r hr => ?_
    have w1 : IntKind.i64.wrap ((k : Int) + r.1) = (k : Int) + r.1 := wrap64 (by omega) (by omega)
    have w2 : IntKind.i64.wrap ((k : Int) + r.1 - 2) = (k : Int) + r.1 - 2 := wrap64 (by omega) (by omega)
    have w3 : IntKind.i64.wrap ((code'.length : Int) - 1) = (code'.length : Int) - 1 := wrap64 (by omega) (by omega)
    simp only [w1, w2, w3]
    exact .dec (fun _ => step r _ hr.1 (by omega) (by omega)) fun _ => .dec (fun _ => step r _ hr.1 (by omega) (by omega)) fun _ => step r _ hr.1 (by omega) (by omega)
  · have hlt : ¬ k < code'.length := fun h => hlt (Int.ofNat_lt.2 h)
    have hkl : k = code.length := by omega
    refine .lft (.pure ⟨hc, hpar, hsl, hsl', by simp only; omega, by simp only; omega, ?_, ?_⟩)
    · intro j x hj hj'
      simp only at hj hj' ⊢
      rw [hl] at hj' ⊢
      refine (hall j x hj hj').mono fun t ht => ?_
      rw [if_pos (by omega)] at ht
      exact ht
    · intro x hx
      simp only at hx
      rw [hl] at hx
      exact he' x hx

theorem j3_hs {l : List Int} {a : Int} (h : okC ⟨l, a⟩) {sl : List TSlot} {np i : Int} {ps : List Int} {most : Int} {code : List TInstr} (hpar : ps[i.toNat]? = some np) (hsl : sl.length ≤ 6) (hsl' : ∀ s ∈ sl, SlotOk s)
    (hlen : (code.length : Int) ≤ 6 + 5 * most) (hm : most ≤ 1000) (hb : ∀ x ∈ code, InsOk sl np i ps (· = -1) x) {e1 e2 : Int} (he : EndOk ⟨e1, 0, 0, 0, e2⟩) :
    Hs (draw_Codes_function_j3 code np sl l a e1 e2) fun p => okC p.2 ∧ FuncOk ps i most p.1 := by
  unfold draw_Codes_function_j3
  refine .chk (by simp; omega) (fix_hs h hpar hsl hsl' (by simp) (by simp; omega) hm ?_ ?_)
  · intro k x hx hk
    simp only [List.length_append, List.length_singleton] at hk
    rw [List.getElem?_append_left (by omega)] at hx
    exact hb x (List.mem_of_getElem? hx)
  · intro x hx
    simp at hx
    subst hx
    exact he

theorem function_hs {c : Tdraw_Codes} (h : okC c) {i : Int} {ps : List Int} {most : Int} (hi : 0 ≤ i) (hi' : i < ps.length) (hps : ParOk ps) (hm0 : 0 ≤ most) (hm : most ≤ 1000) :
    Hs (draw_Codes_function c i ps most) fun p => okC p.2 ∧ FuncOk ps i most p.1 := by
  unfold draw_Codes_function
  refine (Hs.ix hi hi' fun x hx => hx).bind fun np hnp => (slots_hs h (by omega) (by omega)).bind fun sl hsl => ?_
  obtain ⟨hc0, hsl1, hsl2⟩ := hsl
  have hnp4 := hps.1 np (List.mem_of_getElem? hnp)
  refine Hs.loop (fun s => okC ⟨s.1, s.2.1⟩ ∧ 0 ≤ s.2.2.2 ∧ s.2.2.2 ≤ sl.1.length ∧ (s.2.2.1.length : Int) ≤ s.2.2.2 ∧ ∀ x ∈ s.2.2.1, InsOk sl.1 np i ps (· = -1) x) (fun s => sl.1.length - s.2.2.2.toNat) ⟨hc0, by simp, by simp, by simp, by simp⟩ ?_
  rintro ⟨l, a, code, s⟩ ⟨hc, hs0, hs1, hcl, hall⟩
  simp only at hc hs0 hs1 hcl hall
  unfold draw_Codes_function_b1
  refine .dec (fun hlt => ?_) fun hlt => ?_
  · have hlt : s < sl.1.length := hlt
    have w : IntKind.i64.wrap (s + 1) = s + 1 := wrap64 (by omega) (by omega)
    refine (nextp_hs hc (by omega) (by omega)).bind fun r hr => .dec (fun _ => ?_) fun _ => ?_
    · refine (nextp_hs hr.1 (by omega) (by omega)).bind fun q hq => .chk (by simp; omega) (.cnt ⟨⟨hq.1, by simp only [w]; omega, by simp only [w]; omega, by simp only [w, List.length_append, List.length_singleton]; omega, ?_⟩, by simp only [w]; omega⟩)
      intro y hy
      rcases List.mem_append.1 hy with h2 | h2
      · exact hall y h2
      · rw [List.mem_singleton] at h2; subst h2
        exact .store _ _ hs0 hlt hq.2
    · exact .cnt ⟨⟨hr.1, by simp only [w]; omega, by simp only [w]; omega, by simp only [w]; omega, hall⟩, by simp only [w]; omega⟩
  · have w : IntKind.i64.wrap (most + 1) = most + 1 := wrap64 (by omega) (by omega)
    rw [w]
    refine .lft ((nextp_hs hc (by omega) (by omega)).bind fun r hr => ?_)
    refine Hs.loop (fun s => okC ⟨s.1, s.2.1⟩ ∧ s.2.2.2.1 = sl.1 ∧ 0 ≤ s.2.2.2.2 ∧ s.2.2.2.2 ≤ most ∧ (s.2.2.1.length : Int) ≤ 6 + 5 * (most - s.2.2.2.2) ∧ ∀ x ∈ s.2.2.1, InsOk sl.1 np i ps (· = -1) x) (fun s => s.2.2.2.2.toNat) ⟨hr.1, rfl, hr.2.1, by simp only; omega, by simp only; omega, hall⟩ ?_
    rintro ⟨l, a, code, sl', n⟩ ⟨hc, rfl, hn0, hn1, hcl, hall⟩
    simp only at hc hn0 hn1 hcl hall
    unfold draw_Codes_function_b2
    refine .dec (fun hlt => ?_) fun hlt => .lft ?_
    · have hlt : 0 < n := hlt
      have w : IntKind.i64.wrap (n - 1) = n - 1 := wrap64 (by omega) (by omega)
      refine (body_hs hc (· = -1) (by simp only; omega) hnp4.2 hi hi' hps).bind fun b hb => .chk (by simp; omega) ?_
      have hall2 : ∀ x ∈ code ++ b.1, InsOk sl.1 np i ps (· = -1) x := by
        intro y hy
        rcases List.mem_append.1 hy with h2 | h2
        · exact hall y h2
        · exact hb.2.2 y h2
      have hall3 : ∀ x, InsOk sl.1 np i ps (· = -1) x → ∀ y ∈ (code ++ b.1) ++ [x], InsOk sl.1 np i ps (· = -1) y := by
        intro x hx y hy
        rcases List.mem_append.1 hy with h2 | h2
        · exact hall2 y h2
        · rw [List.mem_singleton] at h2; subst h2; exact hx
      have hbl := hb.2.1
      refine (nextp_hs hb.1 (by omega) (by omega)).bind fun r hr => .beq (fun _ => ?_) fun _ => .beq (fun _ => ?_) fun _ => ?_
      · refine (nextp_hs hr.1 (by omega) (by omega)).bind fun q hq => .chk (by simp; omega) (.cnt ⟨⟨hq.1, rfl, by simp only [w]; omega, by simp only [w]; omega, by simp only [w, List.length_append, List.length_singleton]; omega, hall3 _ (.branch _ _ hq.2 rfl)⟩, by simp only [w]; omega⟩)
      · refine (nextp_hs hr.1 (by omega) (by omega)).bind fun q hq => .beq (fun _ => ?_) fun _ => ?_
        · exact .chk (by simp; omega) (.cnt ⟨⟨hq.1, rfl, by simp only [w]; omega, by simp only [w]; omega, by simp only [w, List.length_append, List.length_singleton]; omega, hall3 _ (.jump _ rfl)⟩, by simp only [w]; omega⟩)
        · exact .cnt ⟨⟨hq.1, rfl, by simp only [w]; omega, by simp only [w]; omega, by simp only [w, List.length_append]; omega, hall2⟩, by simp only [w]; omega⟩
      · exact .cnt ⟨⟨hr.1, rfl, by simp only [w]; omega, by simp only [w]; omega, by simp only [w, List.length_append]; omega, hall2⟩, by simp only [w]; omega⟩
    · refine (nextp_hs hc (by omega) (by omega)).bind fun r hr => .beq (fun _ => ?_) fun _ => ?_
      · exact (word_hs hr.1).bind fun q hq => j3_hs hq.1 hnp (by omega) hsl2 (by omega) hm hall (.inr ⟨_, hq.2, rfl⟩)
      · exact j3_hs hr.1 hnp (by omega) hsl2 (by omega) hm hall (.inl rfl)

/-- a program as it is drawn -/
def ProgOk (funcs most : Int) (p : TProgram) : Prop :=
  ∃ ps, ParOk ps ∧ ps[0]? = some 0 ∧ 1 ≤ ps.length ∧ (ps.length : Int) ≤ funcs ∧ p.Funcs.length = ps.length ∧ ∀ (j : Nat) f, p.Funcs[j]? = some f → FuncOk ps j most f

theorem program_hs {c : Tdraw_Codes} (h : okC c) {funcs most : Int} (hf : 1 ≤ funcs) (hf' : funcs ≤ 1000) (hm0 : 0 ≤ most) (hm : most ≤ 1000) :
    Hs (draw_Codes_Program c funcs most) fun p => okC p.2 ∧ ProgOk funcs most p.1 := by
  unfold draw_Codes_Program
  refine (nextp_hs h hf (by omega)).bind fun r hr => ?_
  refine Hs.loop (fun s => okC ⟨s.1, s.2.1⟩ ∧ (∀ v ∈ s.2.2.1, 0 ≤ v ∧ v < 4) ∧ s.2.2.1[0]? = some 0 ∧ 0 ≤ s.2.2.2 ∧ (s.2.2.1.length : Int) + s.2.2.2 ≤ funcs) (fun s => s.2.2.2.toNat) ⟨hr.1, by simp, by simp, hr.2.1, by simp; omega⟩ ?_
  rintro ⟨l, a, ps, n⟩ ⟨hc, hv, hz, hn0, hn1⟩
  simp only at hc hv hz hn0 hn1
  have hp1 : 1 ≤ ps.length := by have := (List.getElem?_eq_some_iff.1 hz).1; omega
  unfold draw_Codes_Program_b1
  refine .dec (fun hlt => ?_) fun hlt => .lft ?_
  · have hlt : 0 < n := hlt
    have w : IntKind.i64.wrap (n - 1) = n - 1 := wrap64 (by omega) (by omega)
    refine (nextp_hs hc (by omega) (by omega)).bind fun q hq => .chk (by simp; omega) (.cnt ⟨⟨hq.1, ?_, by simp only; rw [List.getElem?_append_left (by omega)]; exact hz, by simp only [w]; omega, by simp only [w, List.length_append, List.length_singleton]; omega⟩, by simp only [w]; omega⟩)
    intro y hy
    rcases List.mem_append.1 hy with h2 | h2
    · exact hv y h2
    · rw [List.mem_singleton] at h2; subst h2; exact hq.2
  · have hps : ParOk ps := ⟨hv, by omega⟩
    refine Hs.loop (fun s => okC ⟨s.1, s.2.1⟩ ∧ s.2.2.2.2 = ps ∧ ∃ i : Nat, s.2.2.2.1 = (i : Int) ∧ i ≤ ps.length ∧ s.2.2.1.length = i ∧ ∀ (j : Nat) f, s.2.2.1[j]? = some f → FuncOk ps j most f) (fun s => ps.length - s.2.2.2.1.toNat) ⟨hc, rfl, 0, rfl, Nat.zero_le _, rfl, fun j f hj => by simp at hj⟩ ?_
    rintro ⟨l, a, fs, i', ps'⟩ ⟨hc, hpe, i, hie, hi, hfl, hall⟩
    simp only at hc hpe hie hi hfl hall
    subst hpe hie
    unfold draw_Codes_Program_b2
    refine .dec (fun hlt => ?_) fun hlt => .lft (.pure ⟨hc, ps', hps, hz, hp1, by omega, ?_, hall⟩)
    · have hlt : i < ps'.length := Int.ofNat_lt.1 hlt
      have w := wrap_succ (show i < 9223372036854775807 by have := hps.2; omega)
      have hpl := hps.2
      refine .chk (by simp; omega) ((function_hs hc (i := (i : Int)) (ps := ps') (by omega) (by omega) hps hm0 hm).bind fun f hf => .chk (by simp; omega) (.cnt ⟨⟨hf.1, rfl, i + 1, w, hlt, by simp; omega, ?_⟩, by simp only [w]; omega⟩))
      intro j g hg
      simp only [List.nil_append] at hg
      by_cases e : j < fs.length
      · rw [List.getElem?_append_left e] at hg; exact hall j g hg
      · have hj : j = i := by
          have := (List.getElem?_eq_some_iff.1 hg).1
          simp at this; omega
        subst hj
        rw [List.getElem?_append_right (by omega), hfl] at hg
        simp at hg
        subst hg
        exact hf.2
    · have hlt : ¬ i < ps'.length := fun h => hlt (Int.ofNat_lt.2 h)
      simp only; omega
end Go.Proofs.Ytlphpepmbcbmiaa
