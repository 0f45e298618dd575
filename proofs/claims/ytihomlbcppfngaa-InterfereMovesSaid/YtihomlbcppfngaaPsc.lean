/-
  The annotations as they are drawn, and the scene of a function and an annotation.
-/
import Derived.Test.YtihomlbcppfngaaPlv
namespace Go.Proofs.Ytihomlbcppfngaa
open Go Go.Dw Go.Proofs

def I64 (v : Int) : Prop := -9223372036854775808 ≤ v ∧ v ≤ 9223372036854775807
theorem i64_rng (n : Int) : I64 (IntKind.i64.wrap n) := by
  unfold I64; simp [IntKind.wrap, IntKind.signed, IntKind.bits]; omega

theorem int_hs {c : Tdraw_Codes} (h : okC c) : Hs (draw_Codes_Int c) fun p => okC p.2 ∧ I64 p.1 := by
  unfold draw_Codes_Int
  refine (nextp_hs h (by omega) (by omega)).bind fun r hr => .beq (fun _ => ?_) fun _ => ?_
  · refine (nextp_hs hr.1 (by simp) (by simp)).bind fun q hq => .chk ?_ ?_
    · simp at hq; simp; omega
    · refine (Hs.get hq.2.1 (by simpa using hq.2.2) fun x hx => List.mem_of_getElem? hx).bind fun x hx => .pure ⟨hq.1, ?_⟩
      simp at hx
      unfold I64
      simp only
      omega
  · exact (nextp_hs hr.1 (by omega) (by omega)).bind fun q hq => (nextp_hs hq.1 (by omega) (by omega)).bind fun u hu => .chk hu.2.1 (.pure ⟨hu.1, i64_rng _⟩)

/-- rows as an annotation's may be: sets, or a few numbers -/
def RowsOk (l : List (List Int)) : Prop := ∀ s ∈ l, s.length ≤ 512 ∧ ∀ v ∈ s, I64 v
def SetsOk (l : List (List Int)) : Prop := ∀ s ∈ l, IsSet s
theorem SetsOk.rows {l : List (List Int)} (h : SetsOk l) : RowsOk l := fun s hs => ⟨(h s hs).length_le, fun v hv => by have := (h s hs).2 v hv; unfold I64; omega⟩
theorem SetsOk.set {l : List (List Int)} (h : SetsOk l) {k : Nat} {s : List Int} (hs : IsSet s) : SetsOk (l.set k s) := by
  intro t ht
  rcases List.mem_or_eq_of_mem_set ht with h1 | rfl
  · exact h t h1
  · exact hs
theorem IsSet.add {s : List Int} (h : IsSet s) (n : Int) : IsSet (addN n s) := by
  unfold addN
  split
  · exact h.insN (by assumption)
  · exact h

theorem live_hs {c : Tdraw_Codes} (h : okC c) {f : TFunc} (hf : FlowOk f) : Hs (draw_Codes_Live c f) fun p => okC p.2 ∧ p.1.Out.length ≤ f.Code.length ∧ RowsOk p.1.Out := by
  have hlen := hf.len
  have hlen' := hf.len'
  have hsl := hf.slots
  unfold draw_Codes_Live
  refine (solve_hs hf).bind fun l hl => (nextp_hs h (by omega) (by omega)).bind fun r hr => .beq (fun _ => ?_) fun _ => ?_
  · exact .pure ⟨hr.1, by have := hl.ok.1; simp only; omega, SetsOk.rows fun s hs => (hl.ok.2 s hs).1⟩
  · refine .chk (by have := hl.ok.1; simp; omega) ((nextp_hs hr.1 (by omega) (by omega)).bind fun q hq => ?_)
    have j1 : ∀ {l : List Int} {a : Int} {x : List (List Int)}, okC ⟨l, a⟩ → x.length = f.Code.length → SetsOk x → Hs (draw_Codes_Live_j1 l a x) fun p => okC p.2 ∧ p.1.Out.length ≤ f.Code.length ∧ RowsOk p.1.Out := by
      intro l a x hc hx hs
      unfold draw_Codes_Live_j1
      refine (nextp_hs hc (by omega) (by omega)).bind fun r hr => .beq (fun _ => ?_) fun _ => .beq (fun _ => ?_) fun _ => ?_
      · refine .chk (by omega) (.pure ⟨hr.1, by simp; omega, fun s hm => hs.rows s (List.mem_of_mem_drop hm)⟩)
      · refine (int_hs hr.1).bind fun u hu => (int_hs hu.1).bind fun v hv => .chk (by omega) ((Hs.get (by omega) (by omega) fun x hx => hx).bind fun _ _ => .pure ⟨hv.1, by simp; omega, fun s hm => ?_⟩)
        rcases List.mem_or_eq_of_mem_set hm with h1 | rfl
        · exact hs.rows s h1
        · refine ⟨by simp, fun w hw => ?_⟩
          simp at hw
          rcases hw with rfl | rfl
          · exact hu.2
          · exact hv.2
      · exact .pure ⟨hr.1, by simp only; omega, hs.rows⟩
    refine Hs.loop (fun s => okC ⟨s.1, s.2.1⟩ ∧ s.2.2.1.length = f.Code.length ∧ SetsOk s.2.2.1 ∧ 0 ≤ s.2.2.2 ∧ s.2.2.2 < 4) (fun s => s.2.2.2.toNat) ⟨hq.1, by simpa using hl.ok.1, fun s hs => (hl.ok.2 s (by simpa using hs)).1, hq.2⟩ ?_
    rintro ⟨l, a, x, n⟩ ⟨hc, hx, hs, hn0, hn1⟩
    simp only at hc hx hs hn0 hn1
    have w : IntKind.i64.wrap (n - 1) = n - 1 := wrap64 (by omega) (by omega)
    unfold draw_Codes_Live_b2
    refine .dec (fun hlt => .dec (fun hsl0 => ?_) fun _ => .lft (j1 hc hx hs)) fun _ => .lft (j1 hc hx hs)
    have hlt : 0 < n := hlt
    unfold draw_Codes_Live_j3
    have j4 : ∀ {l : List Int} {a : Int} {y : List (List Int)}, okC ⟨l, a⟩ → y.length = f.Code.length → SetsOk y → Hs (draw_Codes_Live_j4 n l a y) (Rnd (fun s : List Int × Int × List (List Int) × Int => okC ⟨s.1, s.2.1⟩ ∧ s.2.2.1.length = f.Code.length ∧ SetsOk s.2.2.1 ∧ 0 ≤ s.2.2.2 ∧ s.2.2.2 < 4) (fun s => s.2.2.2.toNat) (‹List Int›, ‹Int›, x, n) (fun p : TLive × Tdraw_Codes => okC p.2 ∧ p.1.Out.length ≤ f.Code.length ∧ RowsOk p.1.Out)) := by
      intro l a y hc hy hs
      unfold draw_Codes_Live_j4
      exact .cnt ⟨⟨hc, hy, hs, by simp only [w]; omega, by simp only [w]; omega⟩, by simp only [w]; omega⟩
    refine (nextp_hs hc (by omega) (by omega)).bind fun u hu => (nextp_hs hu.1 (by omega) (by omega)).bind fun v hv => .beq (fun _ => ?_) fun _ => ?_
    · refine Hs.loop (fun s => s.1.length = f.Code.length ∧ SetsOk s.1 ∧ 0 ≤ s.2 ∧ s.2 ≤ f.Code.length) (fun s => f.Code.length - s.2.toNat) ⟨hx, hs, by simp, by simp⟩ ?_
      rintro ⟨y, k⟩ ⟨hy, hys, hk0, hk1⟩
      simp only at hy hys hk0 hk1
      unfold draw_Codes_Live_b5
      refine .dec (fun hk => ?_) fun _ => .lft (j4 hv.1 hy hys)
      have hk : k < y.length := hk
      have wk : IntKind.i64.wrap (k + 1) = k + 1 := wrap64 (by omega) (by omega)
      refine .chk ⟨hk0, hk⟩ ((Hs.get hk0 hk fun z hz => hys z (List.mem_of_getElem? hz)).bind fun z hz => ?_)
      rw [add_eq z u.1 (by have := hz.length_le; omega), Option.bind_some]
      refine .chk ⟨hk0, hk⟩ ((Hs.get hk0 hk fun z hz => hz).bind fun _ _ => .cnt ⟨⟨by simpa using hy, hys.set (hz.add _), by simp only [wk]; omega, by simp only [wk]; omega⟩, by simp only [wk]; omega⟩)
    · refine (nextp_hs hv.1 (n := (x.length : Int)) (by omega) (by omega)).bind fun k hk => (nextp_hs hk.1 (by omega) (by omega)).bind fun t ht => .beq (fun _ => ?_) fun _ => ?_
      · refine .chk hk.2 ((Hs.get hk.2.1 hk.2.2 fun z hz => hs z (List.mem_of_getElem? hz)).bind fun z hz => ?_)
        rw [add_eq z u.1 (by have := hz.length_le; omega), Option.bind_some]
        exact .chk hk.2 ((Hs.get hk.2.1 hk.2.2 fun z hz => hz).bind fun _ _ => j4 ht.1 (by simpa using hx) (hs.set (hz.add _)))
      · refine .chk hk.2 ((Hs.get hk.2.1 hk.2.2 fun z hz => hs z (List.mem_of_getElem? hz)).bind fun z hz => ?_)
        rw [remove_eq z u.1 (by have := hz.length_le; omega), Option.bind_some]
        exact .chk hk.2 ((Hs.get hk.2.1 hk.2.2 fun z hz => hz).bind fun _ _ => j4 ht.1 (by simpa using hx) (hs.set (hz.filter _)))
end Go.Proofs.Ytihomlbcppfngaa
