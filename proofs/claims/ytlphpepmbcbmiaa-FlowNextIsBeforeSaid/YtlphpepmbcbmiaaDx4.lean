/-
  THE LAYER Dx, PART 4: from what arguments read as to typed data; from a law's spec to what its row asks.
-/
import Derived.Test.YtlphpepmbcbmiaaDx3
import Derived.ProofKit
import Derived.OpenShut
import Derived.Deep.Strs
import Derived.KernelRfl
namespace Go.Dw
open Go.ChangeShapes Go.WideShapes Go.ChangeAt Go.RowKit Go.Deep

def memF (W : World) : Fz := fun b i => W.cell? ⟨b, i, none⟩
def Rep (W : World) (ds : List D) (cs : List Value) : Prop := ds.length = cs.length ∧ (∀ v ∈ cs, v.oneCell' = true) ∧ ∀ (j : Nat) c v, ds[j]? = some c → cs[j]? = some v → Fro (memF W) c v

/-- whatever reads as a datum of type t is the encoding of a typed datum -/
structure Rd (P : Program) (W : World) {T : Type} (t : TypeId) (en : T → D) (Q : T → Prop) : Prop where
  rd : ∀ {H : Type} {enc : TypeId × Value → H} (n : Nat) (cs : List Value) (x : DataW H × List MemPlace), DataW.trod enc P W 0 (fun _ => true) true n t cs = some x → ∃ a, Q a ∧ Rep W (cells (en a)) cs

/-- what an argument's reading tells of the typed datum: integers lie in their kind, lengths are at most 'maxLen' -/
def qInt (k : IntKind) (n : Int) : Prop := k.min ≤ n ∧ n ≤ k.max
def qAny {T : Type} (_ : T) : Prop := True
def qStr (s : List UInt8) : Prop := s.length ≤ maxLen
def qL {T : Type} (q : T → Prop) (l : List T) : Prop := l.length ≤ maxLen ∧ ∀ x ∈ l, q x

section
variable {P : Program} {W : World} {t e : TypeId}

theorem Rep.one {d : D} {v : Value} (h1 : v.oneCell' = true) (h : Fro (memF W) d v) : Rep W [d] [v] := by
  refine ⟨rfl, fun x hx => ?_, fun j c x hc hx => ?_⟩
  · simp only [List.mem_singleton] at hx; subst hx; exact h1
  · rcases j with _ | j
    · simp only [List.getElem?_cons_zero, Option.some.injEq] at hc hx
      subst hc; subst hx; exact h
    · simp at hc

theorem Rd.int {k : IntKind} (ht : P.underlying t = some (.int k)) : Rd P W t (D.int k) (fun n => k.min ≤ n ∧ n ≤ k.max) := by
  refine ⟨fun n cs x h => ?_⟩
  cases n with
  | zero => simp [DataW.trod] at h
  | succ n =>
    simp only [DataW.trod, ht] at h
    split at h <;> rename_i h1 <;> try (cases h1; done)
    all_goals try (cases h; done)
    cases h1
    split at h
    · rename_i hc
      obtain ⟨rfl, hw⟩ := hc
      exact ⟨_, by simpa [Lit.wf] using hw, Rep.one rfl (.int _ _)⟩
    · cases h

theorem Rd.bool (ht : P.underlying t = some .bool) : Rd P W t D.bool (fun _ => True) := by
  refine ⟨fun n cs x h => ?_⟩
  cases n with
  | zero => simp [DataW.trod] at h
  | succ n =>
    simp only [DataW.trod, ht] at h
    split at h <;> rename_i h1 <;> try (cases h1; done)
    all_goals try (cases h; done)
    exact ⟨_, trivial, Rep.one rfl (.bool _)⟩

theorem Rd.str (ht : P.underlying t = some .string) : Rd P W t D.str (fun s => s.length ≤ maxLen) := by
  refine ⟨fun n cs x h => ?_⟩
  cases n with
  | zero => simp [DataW.trod] at h
  | succ n =>
    simp only [DataW.trod, ht] at h
    split at h <;> simp_all
    rename_i s
    exact ⟨s.data.toList, by simpa using h.1, Rep.one rfl (by have := Fro.str (F := memF W) s.data.toList; simpa using this)⟩

theorem cells?_get {a : Addr} {n : Nat} {cs : List Value} (h : W.cells? 0 a n = some cs) : cs.length = n ∧ ∀ i, i < n → W.cell? (a.add i) = cs[i]? := by
  unfold World.cells? at h
  rw [if_pos (Nat.zero_le _)] at h
  have hl := mapM_some_length h
  simp only [List.length_range] at hl
  exact ⟨hl, fun i hi => mapM_some_get h i i (by simp [hi])⟩

theorem spot_none {a : Addr} {v : Value} (h : W.cell? a = some v) : a = ⟨a.block, a.off, none⟩ := by
  unfold World.cell? at h
  split at h
  · split at h
    · cases h
    · rename_i hs
      obtain ⟨b, o, s⟩ := a
      cases s with
      | none => rfl
      | some s => simp at hs
  · cases h

theorem Rd.slice {T : Type} [Inhabited T] {en : T → D} {Q : T → Prop} (ht : P.underlying t = some (.slice e)) (hs : 0 < P.cellsOf e) (hc : ∀ a, (cells (en a)).length = P.cellsOf e) (he : Rd P W e en Q) :
    Rd P W t (eL en) (fun l => l.length ≤ maxLen ∧ ∀ x ∈ l, Q x) := by
  refine ⟨fun n cs x h => ?_⟩
  rcases DataW.trod_slice ht h with ⟨rfl, _⟩ | ⟨a, len, cap, elems, rest, m, _, rfl, _, _, hl, hm, hlen, hel, _, _⟩
  · exact ⟨[], ⟨Nat.zero_le _, fun x hx => by cases hx⟩, Rep.one rfl (.sl0 none 0)⟩
  · have each : ∀ i, ∃ p : T × List Value, i < len → W.cells? 0 (a.add (i * P.cellsOf e)) (P.cellsOf e) = some p.2 ∧ Q p.1 ∧ Rep W (cells (en p.1)) p.2 := by
      intro i
      by_cases hi : i < len
      · have h1 := hel i hi
        have h2 : i < elems.length := by omega
        rw [List.getElem?_eq_getElem h2, Option.bind_eq_some_iff] at h1
        obtain ⟨cs, h3, h4⟩ := h1
        obtain ⟨q, hq, hr⟩ := he.rd m cs _ h4
        exact ⟨(q, cs), fun _ => ⟨h3, hq, hr⟩⟩
      · exact ⟨(default, []), fun h => absurd h hi⟩
    obtain ⟨f, hf⟩ := Classical.axiomOfChoice each
    have hes : ((List.range len).map fun i => (f i).1).length = len := by simp
    refine ⟨(List.range len).map fun i => (f i).1, ⟨by rw [hes]; omega, fun x hx => ?_⟩, Rep.one rfl ?_⟩
    · simp only [List.mem_map, List.mem_range] at hx
      obtain ⟨i, hi, rfl⟩ := hx
      exact (hf i hi).2.1
    · by_cases h0 : len = 0
      · subst h0
        exact .sl0 _ _
      · have hget : ∀ (i j : Nat), i < len → j < P.cellsOf e → W.cell? ((a.add (i * P.cellsOf e)).add j) = (f i).2[j]? := fun i j hi hj => (cells?_get (hf i hi).1).2 j hj
        have hlenc : ∀ i, i < len → (f i).2.length = P.cellsOf e := fun i hi => (cells?_get (hf i hi).1).1
        have ha : a = ⟨a.block, a.off, none⟩ := by
          have h1 := hget 0 0 (by omega) hs
          have h2 : 0 < (f 0).2.length := by rw [hlenc 0 (by omega)]; exact hs
          rw [List.getElem?_eq_getElem h2] at h1
          simp only [Nat.zero_mul, Addr.add, if_true] at h1
          exact spot_none h1
        generalize a.block = b at ha
        generalize a.off = o at ha
        subst ha
        have hidx : ∀ (i : Nat) x, (((List.range len).map fun i => (f i).1).map en)[i]? = some x → i < len ∧ x = en (f i).1 := by
          intro i x hx
          simp only [List.getElem?_map, Option.map_eq_some_iff] at hx
          obtain ⟨q, ⟨r, hr, rfl⟩, rfl⟩ := hx
          obtain ⟨h1, h2⟩ := List.getElem?_eq_some_iff.1 hr
          simp only [List.getElem_range] at h2
          subst h2
          exact ⟨by simpa using h1, rfl⟩
        have key : ∀ (i j : Nat) x c, (((List.range len).map fun i => (f i).1).map en)[i]? = some x → (cells x)[j]? = some c → i < len ∧ ∃ v, (f i).2[j]? = some v ∧ memF W b (o + i * P.cellsOf e + j) = some v ∧ v.oneCell' = true ∧ Fro (memF W) c v := by
          intro i j x c hx hj
          obtain ⟨hi, rfl⟩ := hidx i x hx
          obtain ⟨_, _, r1, r2, r3⟩ := hf i hi
          have hjl : j < (cells (en (f i).1)).length := (List.getElem?_eq_some_iff.1 hj).1
          have hjl' : j < (f i).2.length := by rw [← r1]; exact hjl
          have hv := List.getElem?_eq_getElem hjl'
          refine ⟨hi, _, hv, ?_, r2 _ (List.getElem_mem hjl'), r3 j c _ hj hv⟩
          have := hget i j hi (by rw [← hc (f i).1]; exact hjl)
          rw [add_none, add_none, hv] at this
          exact this
        have := Fro.sl (F := memF W) (((List.range len).map fun i => (f i).1).map en) b o cap (P.cellsOf e) (fun i j => (f i).2.getD j undef) (by simpa using hl)
          (fun x hx => by
            simp only [List.mem_map] at hx
            obtain ⟨q, _, rfl⟩ := hx
            exact hc q)
          (fun i j x c hx hj => by
            obtain ⟨_, v, h1, h2, _⟩ := key i j x c hx hj
            rw [h2, List.getD_eq_getElem?_getD, h1]; rfl)
          (fun i j x c hx hj => by
            obtain ⟨_, v, h1, _, h3, _⟩ := key i j x c hx hj
            rw [List.getD_eq_getElem?_getD, h1]; exact h3)
          (fun i j x c hx hj => by
            obtain ⟨_, v, h1, _, _, h4⟩ := key i j x c hx hj
            rw [List.getD_eq_getElem?_getD, h1]; exact h4)
        rw [List.length_map, hes] at this
        exact this

theorem Rep.append {ds ds' : List D} {cs cs' : List Value} (h : Rep W ds cs) (h' : Rep W ds' cs') : Rep W (ds ++ ds') (cs ++ cs') := by
  obtain ⟨h1, h2, h3⟩ := h
  obtain ⟨k1, k2, k3⟩ := h'
  refine ⟨by simp [h1, k1], fun v hv => (List.mem_append.1 hv).elim (h2 v) (k2 v), fun j c v hc hv => ?_⟩
  by_cases hj : j < ds.length
  · rw [List.getElem?_append_left hj] at hc
    rw [List.getElem?_append_left (by omega)] at hv
    exact h3 j c v hc hv
  · rw [List.getElem?_append_right (by omega)] at hc
    rw [List.getElem?_append_right (by omega), ← h1] at hv
    exact k3 _ c v hc hv

theorem take_cut {α : Type} (l : List α) (a b : Nat) : (l.drop a).take b ++ l.drop (a + b) = l.drop a := by
  rw [← List.drop_drop, List.take_append_drop]

theorem Rd.struct1 {T T0 : Type} {f0 : Field} {en : T → D} {e0 : T0 → D} {Q : T → Prop} {Q0 : T0 → Prop} (mk : T0 → T) (ht : P.underlying t = some (.struct #[f0])) (o0 : f0.offset = 0) (hsz : P.cellsOf t = P.cellsOf f0.type)
    (h0 : Rd P W f0.type e0 Q0) (hmk : ∀ a, cells (en (mk a)) = cells (e0 a)) (hQ : ∀ a, Q0 a → Q (mk a)) : Rd P W t en Q := by
  refine ⟨fun n cs x h => ?_⟩
  obtain ⟨y0, m, _, hl, k0⟩ := trod_struct1 ht h
  obtain ⟨a, q0, r0⟩ := h0.rd m _ _ k0
  refine ⟨mk a, hQ a q0, ?_⟩
  rw [hmk]
  rw [o0, List.drop_zero, ← hsz, ← hl, List.take_length] at r0
  exact r0

theorem Rd.struct2 {T T0 T1 : Type} {f0 f1 : Field} {en : T → D} {e0 : T0 → D} {e1 : T1 → D} {Q : T → Prop} {Q0 : T0 → Prop} {Q1 : T1 → Prop} (mk : T0 → T1 → T) (ht : P.underlying t = some (.struct #[f0, f1])) (o0 : f0.offset = 0) (o1 : f1.offset = P.cellsOf f0.type)
    (hsz : P.cellsOf t = P.cellsOf f0.type + P.cellsOf f1.type) (h0 : Rd P W f0.type e0 Q0) (h1 : Rd P W f1.type e1 Q1) (hmk : ∀ a b, cells (en (mk a b)) = cells (e0 a) ++ cells (e1 b)) (hQ : ∀ a b, Q0 a → Q1 b → Q (mk a b)) : Rd P W t en Q := by
  refine ⟨fun n cs x h => ?_⟩
  obtain ⟨y0, y1, m, _, hl, k0, k1⟩ := trod_struct2 ht h
  obtain ⟨a, q0, r0⟩ := h0.rd m _ _ k0
  obtain ⟨b, q1, r1⟩ := h1.rd m _ _ k1
  refine ⟨mk a b, hQ a b q0 q1, ?_⟩
  rw [hmk]
  have := r0.append r1
  have e1 : List.take (P.cellsOf f1.type) (List.drop (P.cellsOf f0.type) cs) = List.drop (P.cellsOf f0.type) cs := List.take_of_length_le (by simp; omega)
  rw [o0, o1, e1, List.drop_zero, List.take_append_drop] at this
  exact this

theorem Rd.struct3 {T T0 T1 T2 : Type} {f0 f1 f2 : Field} {en : T → D} {e0 : T0 → D} {e1 : T1 → D} {e2 : T2 → D} {Q : T → Prop} {Q0 : T0 → Prop} {Q1 : T1 → Prop} {Q2 : T2 → Prop} (mk : T0 → T1 → T2 → T) (ht : P.underlying t = some (.struct #[f0, f1, f2]))
    (o0 : f0.offset = 0) (o1 : f1.offset = P.cellsOf f0.type) (o2 : f2.offset = P.cellsOf f0.type + P.cellsOf f1.type)
    (hsz : P.cellsOf t = P.cellsOf f0.type + P.cellsOf f1.type + P.cellsOf f2.type) (h0 : Rd P W f0.type e0 Q0) (h1 : Rd P W f1.type e1 Q1) (h2 : Rd P W f2.type e2 Q2)
    (hmk : ∀ a b c, cells (en (mk a b c)) = cells (e0 a) ++ (cells (e1 b) ++ cells (e2 c))) (hQ : ∀ a b c, Q0 a → Q1 b → Q2 c → Q (mk a b c)) : Rd P W t en Q := by
  refine ⟨fun n cs x h => ?_⟩
  obtain ⟨y0, y1, y2, m, _, hl, k0, k1, k2⟩ := trod_struct3 ht h
  obtain ⟨a, q0, r0⟩ := h0.rd m _ _ k0
  obtain ⟨b, q1, r1⟩ := h1.rd m _ _ k1
  obtain ⟨c, q2, r2⟩ := h2.rd m _ _ k2
  refine ⟨mk a b c, hQ a b c q0 q1 q2, ?_⟩
  rw [hmk]
  have := r0.append (r1.append r2)
  have e2 : List.take (P.cellsOf f2.type) (List.drop (P.cellsOf f0.type + P.cellsOf f1.type) cs) = List.drop (P.cellsOf f0.type + P.cellsOf f1.type) cs := List.take_of_length_le (by simp; omega)
  rw [o0, o1, o2, e2, take_cut, List.drop_zero, List.take_append_drop] at this
  exact this

/-! ### Arguments -/
/-- an argument that reads as a datum stands for a typed one -/
theorem Rd.arg {T : Type} {en : T → D} {Q : T → Prop} (h : Rd P W t en Q) (hagg : ∀ a, (match P.underlying t with | some (.struct _) | some (.array _ _) => True | _ => False) → ∃ cs, en a = .agg cs)
    (hone : ∀ a, ¬ (match P.underlying t with | some (.struct _) | some (.array _ _) => True | _ => False) → cells (en a) = [en a])
    {H : Type} {enc : TypeId × Value → H} {b0 : Nat} {v : Value} {d : DataW H} {p : List MemPlace} (hv : Value.okWide P W .any b0 t v) (hr : DataW.Trod enc P W 0 (fun _ => true) true t v d p) : ∃ a, Q a ∧ Fro (memF W) (en a) v := by
  obtain ⟨n, hn⟩ := hr
  obtain ⟨a, hq, r1, r2, r3⟩ := h.rd n _ _ hn
  refine ⟨a, hq, ?_⟩
  by_cases hs : (match P.underlying t with | some (.struct _) | some (.array _ _) => True | _ => False)
  · obtain ⟨cs, hcs⟩ := hagg a hs
    have hva : ∃ C, v = .agg C := by
      unfold Value.okWide at hv
      split at hv
      · obtain ⟨C, rfl, _⟩ := hv; exact ⟨C, rfl⟩
      · obtain ⟨C, rfl, _⟩ := hv; exact ⟨C, rfl⟩
      · rename_i h1 h2
        split at hs
        · rename_i fs hu; exact absurd hu (h1 fs)
        · rename_i m e hu; exact absurd hu (h2 m e)
        · exact hs.elim
    obtain ⟨C, rfl⟩ := hva
    rw [hcs] at r1 r3 ⊢
    simp only [Value.cells, Array.toList] at r1 r2 r3
    have := Fro.agg (F := memF W) cs C.toList r1 r2 r3
    simpa using this
  · have h1 := hone a hs
    have hva : ∃ x, v.cells.toList = [x] ∧ v = x := by
      have hl : v.cells.toList.length = 1 := by rw [← r1, h1]; rfl
      cases v with
      | agg C =>
        exfalso
        unfold Value.okWide at hv
        split at hv
        · rename_i fs hu; exact hs (by rw [hu]; trivial)
        · rename_i m e hu; exact hs (by rw [hu]; trivial)
        · unfold Cell.okWide at hv
          split at hv <;> first | (rename_i h1 h2; cases h2) | skip
          unfold Cell.ok at hv
          split at hv <;> first | (rename_i h1 h2; cases h2) | exact hv
      | _ => exact ⟨_, rfl, rfl⟩
    obtain ⟨x, hx, rfl⟩ := hva
    rw [h1] at r3
    exact r3 0 _ _ rfl (by rw [hx]; rfl)
end
end Go.Dw
