/-
  InterfereMoves: its typed program answers true.
-/
import Derived.Test.YtihomlbcppfngaaPsc
namespace Go.Proofs.Ytihomlbcppfngaa
open Go Go.Dw Go.Proofs

theorem scene18_hs (codes : List Int) (hc : qL (qInt .u8) codes) : Hs (law18_scene codes) fun p => okC p.2.2 ∧ (∃ ps i, FuncOk ps i 16 p.1) ∧ p.2.1.Out.length ≤ p.1.Code.length ∧ RowsOk p.2.1.Out := by
  unfold law18_scene
  obtain ⟨c, e1, hcok⟩ := new_ok codes 250 hc (by omega) (by omega)
  rw [e1, Option.bind_some]
  refine (program_hs hcok (by omega) (by omega) (by omega) (by omega)).bind fun p hp => ?_
  obtain ⟨ps, hps, hz, hp1, hp2, hfl, hall⟩ := hp.2
  refine (nextp_hs hp.1 (by omega) (by omega)).bind fun k hk => ?_
  refine (Hs.ix hk.2.1 hk.2.2 fun f hf => hall _ f hf).bind fun f hf => ?_
  exact (live_hs hk.1 (hf.flow (by omega))).bind fun l hl => .pure ⟨hl.1, ⟨_, _, hf⟩, hl.2⟩

attribute [local simp] chk_pos Bool.cond_eq_ite

theorem index2_eq (s : List TA2_Int) (v : TA2_Int) (h : s.length ≤ 1000000) : slices_Contains_2_int_2_int s v = some (decide (v ∈ s)) := by
  unfold slices_Contains_2_int_2_int slices_Index_2_int_2_int
  have := loop_list (body := fun i : Int => slices_Index_2_int_2_int_b1 s v i) s (fun (k : Nat) i => i) (fun k i => k = i) (fun k l => some (match l.findIdx? (· == v) with | none => -1 | some j => ((k + j : Nat) : Int)))
    (fun k _ => ⟨-1, by simp [slices_Index_2_int_2_int_b1], by simp⟩) (fun k i x r hk hd hi hx => by
      subst hk
      have w := wrap_succ (show k < 9223372036854775807 by omega)
      obtain ⟨_, rfl⟩ := List.getElem?_eq_some_iff.1 hx
      by_cases e : s[k] = v
      · refine .inr ⟨(k : Int), ?_, ?_⟩
        · subst e; simp [slices_Index_2_int_2_int_b1, hi]
        · simp [List.findIdx?_cons, e]
      · refine .inl ⟨k + 1, rfl, ?_, ?_⟩
        · have hne : ¬ (v.a0 = s[k].a0 ∧ v.a1 = s[k].a1) := fun hh => e (by
            generalize s[k] = y at hh
            cases y; cases v; simp_all)
          simp [slices_Index_2_int_2_int_b1, hi, hne, w]
        · have hb : (s[k] == v) = false := by simpa using e
          simp only [List.findIdx?_cons, hb, Bool.false_eq_true, if_false]
          cases r.findIdx? (· == v) with
          | none => rfl
          | some j => simp; omega) 0 rfl
  rw [show LoopT (fun s_1 => slices_Index_2_int_2_int_b1 s v s_1) 0 = _ from this]
  simp only [Option.bind_some]
  congr 1
  by_cases hm : v ∈ s
  · cases hfi : s.findIdx? (· == v) with
    | none =>
      rw [List.findIdx?_eq_none_iff] at hfi
      have := hfi v hm
      simp at this
    | some j => simp [hm]
  · have : s.findIdx? (· == v) = none := by
      rw [List.findIdx?_eq_none_iff]
      intro x hx
      simp only [beq_eq_false_iff_ne]
      rintro rfl
      exact hm hx
    simp [this, hm]

/-- the moves, each pair once -/
def movesN (l : List TInstr) (out : List TA2_Int) : List TA2_Int :=
  l.foldl (fun out x => if x.Op = 17 ∧ x.A ≠ x.B ∧ (⟨x.A, x.B⟩ : TA2_Int) ∉ out then out ++ [⟨x.A, x.B⟩] else out) out

theorem movesN_length : ∀ (l : List TInstr) (out : List TA2_Int), (movesN l out).length ≤ out.length + l.length
  | [], out => by simp [movesN]
  | x :: l, out => by
    have := movesN_length l (if x.Op = 17 ∧ x.A ≠ x.B ∧ (⟨x.A, x.B⟩ : TA2_Int) ∉ out then out ++ [⟨x.A, x.B⟩] else out)
    show (movesN l _).length ≤ _
    refine Nat.le_trans this ?_
    split <;> simp <;> omega
theorem moves_eq (f : TFunc) (h : f.Code.length ≤ 1000000) : interfere_Moves f = some (movesN f.Code []) := by
  unfold interfere_Moves
  have := loop_list (body := fun s : List TA2_Int × Int => interfere_Moves_b1 f s.1 s.2) f.Code (fun (out : List TA2_Int) i => (out, i)) (fun out i => out.length ≤ i) (fun out l => some (movesN l out))
    (fun out _ => ⟨out, by simp [interfere_Moves_b1], by simp [movesN]⟩) (fun out i x r ho hd hi hx => by
      have w := wrap_succ (show i < 9223372036854775807 by omega)
      obtain ⟨_, rfl⟩ := List.getElem?_eq_some_iff.1 hx
      have hc := index2_eq out ⟨f.Code[i].A, f.Code[i].B⟩ (by omega)
      left
      by_cases h17 : f.Code[i].Op = 17
      · by_cases hab : f.Code[i].A = f.Code[i].B
        · exact ⟨out, by omega, by simp [interfere_Moves_b1, hi, h17, hab, w], by simp [movesN, h17, hab]⟩
        · by_cases hm : (⟨f.Code[i].A, f.Code[i].B⟩ : TA2_Int) ∈ out
          · exact ⟨out, by omega, by simp [interfere_Moves_b1, hi, h17, hab, hc, hm, w], by simp [movesN, h17, hab, hm]⟩
          · exact ⟨out ++ [⟨f.Code[i].A, f.Code[i].B⟩], by simp; omega, by simp [interfere_Moves_b1, hi, h17, hab, hc, hm, w, show out.length ≤ 16777215 by omega], by simp [movesN, h17, hab, hm]⟩
      · exact ⟨out, by omega, by simp [interfere_Moves_b1, hi, h17, w], by simp [movesN, h17]⟩) [] (by simp)
  simpa using this

theorem rj3_eq (out : List TA2_Int) (x : TInstr) {k : Nat} (hk : k < 1000000) (h : out.length ≤ 1000000) (old : Bool) : ref18_Moves_j3 out x k old = some (.inl (if old = true ∨ (⟨x.A, x.B⟩ : TA2_Int) ∈ out then out else out ++ [⟨x.A, x.B⟩], ((k + 1 : Nat) : Int))) := by
  unfold ref18_Moves_j3
  have wk := wrap_succ (show k < 9223372036854775807 by omega)
  have := loop_list (body := fun s : Bool × Int => ref18_Moves_b4 out x k s.1 s.2) out (fun (old : Bool) i => (old, i)) (fun _ _ => True) (fun old l => some (.inl (if old = true ∨ (⟨x.A, x.B⟩ : TA2_Int) ∈ l then out else out ++ [⟨x.A, x.B⟩], ((k + 1 : Nat) : Int))))
    (fun old _ => by
      cases old
      · exact ⟨_, by simp [ref18_Moves_b4, ref18_Moves_j2, wk, show out.length ≤ 16777215 by omega]; rfl, by simp⟩
      · exact ⟨_, by simp [ref18_Moves_b4, ref18_Moves_j2, wk]; rfl, by simp⟩) (fun old i y r _ hd hi hx => by
      have w := wrap_succ (show i < 9223372036854775807 by omega)
      obtain ⟨_, rfl⟩ := List.getElem?_eq_some_iff.1 hx
      left
      cases old
      · by_cases e : out[i] = ⟨x.A, x.B⟩
        · refine ⟨true, trivial, ?_, ?_⟩
          · simp [ref18_Moves_b4, hi, e, w]
          · simp [e]
        · refine ⟨false, trivial, ?_, ?_⟩
          · have hne : (out[i].a0 == x.A && out[i].a1 == x.B) = false := by
              generalize out[i] = y at e
              cases y
              simpa using e
            simp [ref18_Moves_b4, hi, hne, w]
          · have : ¬ (⟨x.A, x.B⟩ : TA2_Int) = out[i] := fun h => e h.symm
            simp [this]
      · exact ⟨true, trivial, by simp [ref18_Moves_b4, hi, w], by simp⟩) old trivial
  exact this

theorem rmoves_eq (f : TFunc) (h : f.Code.length ≤ 1000000) : ref18_Moves f = some (movesN f.Code []) := by
  unfold ref18_Moves
  have := loop_list (body := fun s : List TA2_Int × Int => ref18_Moves_b1 f s.1 s.2) f.Code (fun (out : List TA2_Int) i => (out, i)) (fun out i => out.length ≤ i) (fun out l => some (movesN l out))
    (fun out _ => ⟨out, by simp [ref18_Moves_b1], by simp [movesN]⟩) (fun out i x r ho hd hi hx => by
      obtain ⟨_, rfl⟩ := List.getElem?_eq_some_iff.1 hx
      left
      by_cases h17 : f.Code[i].Op = 17
      · have hj := rj3_eq out f.Code[i] (show i < 1000000 by omega) (by omega) (f.Code[i].A == f.Code[i].B)
        by_cases hab : f.Code[i].A = f.Code[i].B
        · have hj := rj3_eq out f.Code[i] (show i < 1000000 by omega) (by omega) true
          exact ⟨out, by omega, by simp [ref18_Moves_b1, hi, h17, hj, hab], by simp [movesN, h17, hab]⟩
        · by_cases hm : (⟨f.Code[i].A, f.Code[i].B⟩ : TA2_Int) ∈ out
          · exact ⟨out, by omega, by simp [ref18_Moves_b1, hi, h17, hj, hab, hm], by simp [movesN, h17, hab, hm]⟩
          · exact ⟨out ++ [⟨f.Code[i].A, f.Code[i].B⟩], by simp; omega, by simp [ref18_Moves_b1, hi, h17, hj, hab, hm], by simp [movesN, h17, hab, hm]⟩
      · have hj := rj3_eq out f.Code[i] (show i < 1000000 by omega) (by omega) true
        exact ⟨out, by omega, by simp [ref18_Moves_b1, hi, h17, hj], by simp [movesN, h17]⟩) [] (by simp)
  simpa using this

theorem imAwake18 : law18_awake = some true := by
  unfold law18_awake
  rw [moves_eq _ (by simp)]
  simp [movesN]

theorem law18_InterfereMoves_true (codes : List Int) (hc : qL (qInt .u8) codes) : law18_InterfereMoves codes = some true := by
  obtain ⟨p, e1, _, ⟨ps, i, hf⟩, _⟩ := scene18_hs codes hc
  have hl : p.1.Code.length ≤ 1000000 := by have := hf.len'; omega
  unfold law18_InterfereMoves
  rw [imAwake18]
  simp only [Option.bind_some, Bool.not_true, cond_false, e1, moves_eq _ hl, rmoves_eq _ hl, bne_self_eq_false]
  have hml := movesN_length p.1.Code []
  generalize movesN p.1.Code [] = m at hml
  simp only [List.length_nil] at hml
  refine loop_list m (fun (_ : Unit) i => i) (fun _ _ => True) (fun _ _ => some true) (fun _ _ => ⟨true, by simp [law18_InterfereMoves_b1], rfl⟩) (fun _ i x r _ hd hi hx => ?_) () trivial
  have w := wrap_succ (show i < 9223372036854775807 by omega)
  obtain ⟨_, rfl⟩ := List.getElem?_eq_some_iff.1 hx
  exact .inl ⟨(), trivial, by simp [law18_InterfereMoves_b1, hi, w], rfl⟩
end Go.Proofs.Ytihomlbcppfngaa
