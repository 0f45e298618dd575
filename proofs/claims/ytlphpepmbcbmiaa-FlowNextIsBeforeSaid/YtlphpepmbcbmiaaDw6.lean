/-
  THE LAYER Dw, PART 6: reading memory; slices; addresses.
-/
import Derived.Test.YtlphpepmbcbmiaaDw5
namespace Go.Dw

section
variable {N : Nat} {w0 : World} {F0 : Fz} {M : Nat → Prop} {B0 : Bt} {σ : S} {F : Fz} {β : Bt} {a : Act} {w : World}

/-- a pointer: the cells that lie there -/
theorem atPtr_ok (h : Sim N w0 F0 M B0 σ F β a w) {d : D} {x : Value} (hx : Val F β d x) (hc : ((atPtr d).run σ).1) :
    ∃ b o, x = .pointer (some ⟨b, o + ((atPtr d).run σ).2.2, none⟩) ∧ ∀ (j : Nat) c, (cells ((atPtr d).run σ).2.1)[j]? = some c → ∃ v, w.cell? ⟨b, o + j, none⟩ = some v ∧ v.oneCell' = true ∧ Cel F β c v := by
  cases d <;> try exact hc.elim
  case optr g v i off =>
    simp only [atPtr, R.run] at hc ⊢
    cases hg : σ.go g with
    | none => rw [hg] at hc; exact hc.elim
    | some p =>
      obtain ⟨v', o⟩ := p
      rw [hg] at hc
      simp only [R.run] at hc ⊢
      obtain ⟨rfl, hi⟩ := hc
      obtain ⟨L, b, hL, hb, rfl⟩ := hx
      obtain ⟨L', hL', hz, hk⟩ := h.own g v o hg
      rw [hL] at hL'; cases hL'
      have hget : o.es[i]? = some (o.es.getD i .top) := by simp [hi]
      refine ⟨b, i * L.s, rfl, fun j c hj => ?_⟩
      cases hfz : o.fz with
      | true =>
        obtain ⟨_, e1, _, _, _, h5⟩ := hz hfz
        rw [hb] at h5
        obtain ⟨y, hy1, hy2, hy3⟩ := h5 i j _ c hget hj
        exact ⟨y, by rw [e1]; exact h.frz _ _ _ hy1, hy2, Cel.of_fro hy3⟩
      | false =>
        obtain ⟨e1, _, _, _, _, h6⟩ := hk hfz
        rw [hb] at h6
        obtain ⟨C, hC, _, hcell⟩ := h6
        obtain ⟨y, hy1, hy2, hy3⟩ := hcell i j _ c hget hj
        refine ⟨y, by rw [e1]; simp [World.cell?, hC, hy1], hy2, ?_⟩
        split at hy3
        · exact hy3
        · exact Cel.of_fro hy3
  case fptr e off =>
    simp only [atPtr, R.run]
    cases hx with
    | fptr e b o off vf hF h1 hh =>
      exact ⟨b, o, rfl, fun j c hj => ⟨_, h.frz _ _ _ (hF j c hj), h1 j c hj, Cel.of_fro (hh j c hj)⟩⟩

theorem add_none (b o n : Nat) : (⟨b, o, none⟩ : Addr).add n = ⟨b, o + n, none⟩ := by
  unfold Addr.add; split <;> simp_all

theorem run_isAgg {P : Program} {t : TypeId} (hu : (P.underlying t).isSome = true) (w : World) : (isAgg t).run P w = .ok (aggT P t) w := by
  obtain ⟨d, hd⟩ := Option.isSome_iff_exists.1 hu
  unfold isAgg aggT
  simp only [Sem.run_bind, run_underlying hd, Result.andThen_ok, hd]
  cases d <;> rfl

theorem under_of_info {P : Program} {t : TypeId} {i : TypeInfo} (h : P.info? t = some i) : True := trivial

/-- a load -/
theorem load_ok {P : Program} (h : Sim N w0 F0 M B0 σ F β a w) {d : D} {x : Value} (hx : Val F β d x) (hc : ((atPtr d).run σ).1) (t : TypeId) (n : Nat) (agg : Bool) (hagg : aggT P t = agg) (hu : (P.underlying t).isSome = true)
    (hn : agg = true → P.info? t ≠ none ∧ n = P.cellsOf t) (hn1 : agg = false → n = 1) (hle : ((atPtr d).run σ).2.2 + n ≤ (cells ((atPtr d).run σ).2.1).length) :
    ∃ v, (Instr.loadAt t x).run P w = .ok v w ∧ Val F β (partD (cells ((atPtr d).run σ).2.1) ((atPtr d).run σ).2.2 n agg) v := by
  obtain ⟨b, o, rfl, hcell⟩ := atPtr_ok h hx hc
  generalize ((atPtr d).run σ).2.1 = e at *
  generalize ((atPtr d).run σ).2.2 = off at *
  have hr := run_isAgg (P := P) hu w
  rw [hagg] at hr
  have key : ∀ j, j < n → ∃ c v, (cells e)[off + j]? = some c ∧ w.cell? ⟨b, o + off + j, none⟩ = some v ∧ v.oneCell' = true ∧ Cel F β c v := by
    intro j hj
    have hlt : off + j < (cells e).length := by omega
    obtain ⟨v, h1, h2, h3⟩ := hcell (off + j) _ (List.getElem?_eq_getElem hlt)
    exact ⟨_, v, List.getElem?_eq_getElem hlt, by rw [Nat.add_assoc]; exact h1, h2, h3⟩
  cases agg with
  | true =>
    obtain ⟨hi, rfl⟩ := hn rfl
    obtain ⟨i, hi⟩ := Option.ne_none_iff_exists'.1 hi
    have hsz : P.cellsOf t = i.size := by simp [Program.cellsOf, hi]
    let f : Nat → Value := fun j => (w.cell? ⟨b, o + off + j, none⟩).getD undef
    have hl := run_loadCells (P := P) w ⟨b, o + off, none⟩ i.size f (fun j hj => by
      obtain ⟨c, v, _, h2, _⟩ := key j (by omega)
      rw [add_none]; simp [f, h2])
    refine ⟨.agg ((List.range i.size).map f).toArray, by simp [Instr.loadAt, Instr.sureAddr, loadVar, hr, sizeOf, typeInfo, hi, hl], ?_⟩
    refine ⟨(List.range i.size).map f, rfl, by simp; omega, ?_, ?_⟩
    · intro v hv
      simp only [List.mem_map, List.mem_range] at hv
      obtain ⟨j, hj, rfl⟩ := hv
      obtain ⟨c, v, _, h2, h3, _⟩ := key j (by omega)
      simp [f, h2, h3]
    · intro j c v hc hv
      rw [List.getElem?_take] at hc
      split at hc
      · rename_i hj
        rw [List.getElem?_drop] at hc
        obtain ⟨c', v', h1, h2, _, h4⟩ := key j hj
        rw [h1] at hc; cases hc
        rw [List.getElem?_map, List.getElem?_range (by omega)] at hv
        simp [f, h2] at hv
        subst hv
        exact h4
      · cases hc
  | false =>
    obtain rfl := hn1 rfl
    obtain ⟨c, v, h1, h2, h3, h4⟩ := key 0 (by omega)
    simp only [Nat.add_zero] at h1 h2
    refine ⟨v, by simp [Instr.loadAt, Instr.sureAddr, loadVar, hr, h2], ?_⟩
    have : partD (cells e) off 1 false = c := by simp [partD, h1]
    rw [this]
    exact Val.of_cel h4

/-- the address of an element of a slice -/
theorem ixA_ok {P : Program} (h : Sim N w0 F0 M B0 σ F β a w) {t e : TypeId} (ht : P.underlying t = some (.slice e)) (hi : P.info? e ≠ none) {d : D} {x : Value} (hx : Val F β d x) (k : IntKind) (j : Int) :
    (∀ g v i n v' o, d = .osl g v i n → σ.go g = some (v', o) → v = v' ∧ o.s = P.cellsOf e → 0 ≤ j → j < n → ∃ y, (Instr.indexAt t x (.int k j)).run P w = .ok y w ∧ Val F β (.optr g v (i + j.toNat) 0) y) ∧
    (∀ es, d = .sl es → 0 ≤ j → j < es.length → (cells (es.getD j.toNat .top)).length = P.cellsOf e → ∃ y, (Instr.indexAt t x (.int k j)).run P w = .ok y w ∧ Val F β (.fptr (es.getD j.toNat .top) 0) y) := by
  obtain ⟨i, hi⟩ := Option.ne_none_iff_exists'.1 hi
  have hsz : P.cellsOf e = i.size := by simp [Program.cellsOf, hi]
  constructor
  · rintro g v i0 n v' o rfl hg ⟨rfl, hs⟩ h0 h1
    obtain ⟨L, ad, hL, rfl, hcap, _, hpos⟩ := hx
    obtain ⟨b, hb, rfl⟩ := hpos (by omega)
    obtain ⟨L', hL', hz, hk⟩ := h.own g v o hg
    rw [hL] at hL'; cases hL'
    have hLs : L.s = o.s := by
      cases hfz : o.fz with
      | true => exact (hz hfz).2.1
      | false => exact (hk hfz).1
    refine ⟨.pointer (some ⟨b, i0 * L.s + j.toNat * i.size, none⟩), ?_, L, b, hL, hb, ?_⟩
    · have hj : 0 ≤ j ∧ j < (n : Int) := ⟨h0, h1⟩
      simp [Instr.indexAt, asIntOf, run_underlying ht, sizeOf, typeInfo, hi, hj, add_none]
    · rw [hLs, hs, hsz, Nat.add_mul]; rfl
  · rintro es rfl h0 h1 hlen
    cases hx with
    | sl0 a c => simp at h1; omega
    | sl es b o c s vf hc hs hF h1' hh =>
      have hj : 0 ≤ j ∧ j < (es.length : Int) := ⟨h0, h1⟩
      have hlt : j.toNat < es.length := by omega
      have hget : es[j.toNat]? = some (es.getD j.toNat .top) := by simp [hlt]
      have hse : s = i.size := by rw [← hsz, ← hlen]; exact (hs _ (List.mem_of_getElem? hget)).symm
      refine ⟨.pointer (some ⟨b, o + j.toNat * i.size, none⟩), ?_, ?_⟩
      · simp [Instr.indexAt, asIntOf, run_underlying ht, sizeOf, typeInfo, hi, hj, add_none]
      · rw [← hse]
        exact Val.of_fro (Fro.fptr _ b (o + j.toNat * s) 0 (fun q => vf j.toNat q) (fun q c hq => hF _ _ _ _ hget hq) (fun q c hq => h1' _ _ _ _ hget hq) (fun q c hq => hh _ _ _ _ hget hq))

theorem sb_ok {P : Program} {w : World} {vl vh : Option Value} {l h : Int} (n cap : Nat) (isS : Bool) (hl : (vl = none ∧ l = 0) ∨ ∃ k, vl = some (.int k l)) (hh : (vh = none ∧ h = n) ∨ ∃ k, vh = some (.int k h))
    (h3 : 0 ≤ l) (h4 : l ≤ h) (h5 : h ≤ n) (hc : n ≤ cap) : (Instr.sliceBounds isS n cap vl vh none).run P w = .ok (l.toNat, h.toNat, cap) w := by
  unfold Instr.sliceBounds
  have q1 : 0 ≤ h ∧ h ≤ (cap : Int) := ⟨by omega, by omega⟩
  have q2 : 0 ≤ l ∧ l ≤ ((h.toNat : Nat) : Int) := ⟨h3, by omega⟩
  rcases hh with ⟨rfl, rfl⟩ | ⟨k, rfl⟩
  · rcases hl with ⟨rfl, rfl⟩ | ⟨k', rfl⟩
    · simp
    · have q3 : 0 ≤ l ∧ l ≤ (n : Int) := ⟨h3, h4⟩
      simp [Instr.sliceBound, asIntOf, q3]
  · rcases hl with ⟨rfl, rfl⟩ | ⟨k', rfl⟩
    · simp [Instr.sliceBound, asIntOf, q1]
    · simp only [Instr.sliceBound, asIntOf, Sem.run_bind, Sem.run_pure, Result.andThen_ok, if_pos q1]
      simp only [Option.isSome_none, Bool.false_eq_true, if_false]
      rw [if_pos q2]
      simp

theorem bound_ok {d? : Option D} {v? : Option Value} {n : Int} (h : ∀ d, d? = some d → ∃ x, v? = some x ∧ Val F β d x) (hn : d? = none → v? = none) (hb : (bound d? n).1) :
    (v? = none ∧ (bound d? n).2 = n) ∨ ∃ k, v? = some (.int k (bound d? n).2) := by
  cases d? with
  | none => exact .inl ⟨hn rfl, rfl⟩
  | some d =>
    obtain ⟨x, rfl, hx⟩ := h d rfl
    cases d <;> first | exact hb.elim | skip
    rw [val_int hx]
    exact .inr ⟨_, rfl⟩

theorem fro_sub {es : List D} {b o c s : Nat} {vf : Nat → Nat → Value} (hs : ∀ e ∈ es, (cells e).length = s)
      (hF : ∀ (i j : Nat) e d, es[i]? = some e → (cells e)[j]? = some d → F b (o + i * s + j) = some (vf i j))
      (h1 : ∀ (i j : Nat) e d, es[i]? = some e → (cells e)[j]? = some d → (vf i j).oneCell' = true)
      (h : ∀ (i j : Nat) e d, es[i]? = some e → (cells e)[j]? = some d → Fro F d (vf i j)) (l n : Nat) (hn : l + n ≤ es.length) (hc : n ≤ c) :
      Fro F (.sl ((es.drop l).take n)) (.slice (some ⟨b, o + l * s, none⟩) n c) := by
  have hidx : ∀ (k : Nat) e, ((es.drop l).take n)[k]? = some e → es[l + k]? = some e := by
    intro k e he
    rw [List.getElem?_take] at he
    split at he
    · rwa [List.getElem?_drop] at he
    · cases he
  have hlen : ((es.drop l).take n).length = n := by simp; omega
  have := Fro.sl (F := F) ((es.drop l).take n) b (o + l * s) c s (fun i j => vf (l + i) j) (by omega) (fun e he => hs e (List.mem_of_mem_drop (List.mem_of_mem_take he)))
    (fun i j e d he hd => by
      have := hF (l + i) j e d (hidx i e he) hd
      rw [Nat.add_mul, ← Nat.add_assoc] at this
      exact this)
    (fun i j e d he hd => h1 (l + i) j e d (hidx i e he) hd) (fun i j e d he hd => h (l + i) j e d (hidx i e he) hd)
  rw [hlen] at this
  exact this

/-- a slice expression over a slice -/
theorem slice_ok {P : Program} (h : Sim N w0 F0 M B0 σ F β a w) {t e : TypeId} (ht : P.underlying t = some (.slice e)) (hinf : P.info? e ≠ none) {d : D} {x : Value} (hx : Val F β d x)
    (hst : ∀ g v i n L, d = .osl g v i n → β v = some L → 0 < n → L.s = P.cellsOf e)
    (hsl : ∀ es q, d = .sl es → q ∈ es → (cells q).length = P.cellsOf e)
    {lo hi : Option D} {vl vh : Option Value} (hl : ∀ d, lo = some d → ∃ x, vl = some x ∧ Val F β d x) (hln : lo = none → vl = none) (hh : ∀ d, hi = some d → ∃ x, vh = some x ∧ Val F β d x) (hhn : hi = none → vh = none)
    (hd : ∀ s, d ≠ .str s) (hc : (sliceD d lo hi).1) : ∃ y, (Instr.sliceAt t x vl vh none).run P w = .ok y w ∧ Val F β (sliceD d lo hi).2 y := by
  obtain ⟨i, hi'⟩ := Option.ne_none_iff_exists'.1 hinf
  have hsz : P.cellsOf e = i.size := by simp [Program.cellsOf, hi']
  cases d <;> try exact hc.elim
  case str s => exact absurd rfl (hd s)
  case sl es =>
    simp only [sliceD] at hc ⊢
    obtain ⟨c1, c2, c3, c4, c5⟩ := hc
    have b1 := bound_ok hl hln c1
    have b2 := bound_ok hh hhn c2
    generalize (bound lo 0).2 = l at *
    generalize (bound ‹Option D› (es.length : Int)).2 = hb at *
    cases hx with
    | sl0 a c =>
      have hr := sb_ok (P := P) (w := w) 0 c true b1 (by simpa using b2) c3 c4 (by simpa using c5) (Nat.zero_le _)
      simp only [List.length_nil, Int.ofNat_zero] at c5
      have hl0 : l = 0 := by omega
      have hh0 : hb = 0 := by omega
      subst hl0; subst hh0
      refine ⟨_, by simp [Instr.sliceAt, Instr.slice, run_underlying ht, hr, sizeOf, typeInfo, hi']; rfl, ?_⟩
      simp only [Int.toNat_zero, List.drop_nil, List.take_nil]
      exact Val.of_fro (.sl0 _ _)
    | sl es b o c s vf hcc hs hF h1 hh =>
      have hr := sb_ok (P := P) (w := w) es.length c true b1 b2 c3 c4 c5 hcc
      have hrun : (Instr.sliceAt t (.slice (some ⟨b, o, none⟩) es.length c) vl vh none).run P w = .ok (.slice (if c = l.toNat then some ⟨b, o, none⟩ else some ⟨b, o + l.toNat * i.size, none⟩) (hb.toNat - l.toNat) (c - l.toNat)) w := by
        simp [Instr.sliceAt, Instr.slice, run_underlying ht, hr, sizeOf, typeInfo, hi', add_none]
      refine ⟨_, hrun, ?_⟩
      rcases Nat.eq_zero_or_pos (hb.toNat - l.toNat) with h0 | h0
      · rw [h0, List.take_zero]
        exact Val.of_fro (.sl0 _ _)
      · rw [if_neg (by omega)]
        have hs' : i.size = s := by
          have hpos : 0 < es.length := by omega
          rw [← hsz, ← hsl es es[0] rfl (List.getElem_mem hpos)]
          exact hs _ (List.getElem_mem hpos)
        rw [hs']
        exact Val.of_fro (fro_sub hs hF h1 hh _ _ (by omega) (by omega))
  case nils =>
    simp only [sliceD] at hc ⊢
    obtain ⟨c1, c2, c3, c4⟩ := hc
    have b1 := bound_ok hl hln c1
    have b2 := bound_ok hh hhn c2
    rw [c3] at b1; rw [c4] at b2
    cases hx
    have hr := sb_ok (P := P) (w := w) 0 0 true b1 (by simpa using b2) (Int.le_refl _) (Int.le_refl _) (Int.le_refl _) (Nat.le_refl _)
    refine ⟨.slice none 0 0, by simp [Instr.sliceAt, Instr.slice, run_underlying ht, hr, sizeOf, typeInfo, hi'], Val.of_fro .nils⟩
  case osl g v i0 n =>
    simp only [sliceD] at hc ⊢
    obtain ⟨c1, c2, c3, c4, c5⟩ := hc
    have b1 := bound_ok hl hln c1
    have b2 := bound_ok hh hhn c2
    generalize (bound lo 0).2 = l at *
    generalize (bound ‹Option D› (n : Int)).2 = hb at *
    obtain ⟨L, ad, hL, rfl, hcap, ha0, hpos⟩ := hx
    have hr := sb_ok (P := P) (w := w) n (L.cap - i0) true b1 b2 c3 c4 c5 (by omega)
    have hrun : (Instr.sliceAt t (.slice ad n (L.cap - i0)) vl vh none).run P w = .ok (.slice (if L.cap - i0 = l.toNat then ad else ad.map (·.add (l.toNat * i.size))) (hb.toNat - l.toNat) (L.cap - i0 - l.toNat)) w := by
      simp [Instr.sliceAt, Instr.slice, run_underlying ht, hr, sizeOf, typeInfo, hi']
    refine ⟨_, hrun, L, _, hL, by rw [Nat.sub_sub], by omega, ?_, ?_⟩
    · intro he
      have h1 : i0 = 0 := by omega
      have h2 : l.toNat = 0 := by omega
      have := ha0 h1
      subst this
      rw [h2]
      split
      · rfl
      · cases L.b <;> simp [Addr.add]
    · intro hp
      obtain ⟨b, hb', rfl⟩ := hpos (by omega)
      refine ⟨b, hb', ?_⟩
      rw [if_neg (by omega)]
      have := hst g v i0 n L rfl hL (by omega)
      simp [add_none, Nat.add_mul, this, hsz]

theorem sliceStr_ok {P : Program} {t : TypeId} (ht : P.underlying t = some .string) {s : List UInt8} {x : Value} (hx : Val F β (.str s) x)
    {lo hi : Option D} {vl vh : Option Value} (hl : ∀ d, lo = some d → ∃ x, vl = some x ∧ Val F β d x) (hln : lo = none → vl = none) (hh : ∀ d, hi = some d → ∃ x, vh = some x ∧ Val F β d x) (hhn : hi = none → vh = none)
    (hc : (sliceD (.str s) lo hi).1) (w : World) : ∃ y, (Instr.sliceAt t x vl vh none).run P w = .ok y w ∧ Val F β (sliceD (.str s) lo hi).2 y := by
  simp only [sliceD] at hc ⊢
  obtain ⟨c1, c2, c3, c4, c5⟩ := hc
  have b1 := bound_ok hl hln c1
  have b2 := bound_ok hh hhn c2
  generalize (bound lo 0).2 = l at *
  generalize (bound hi (s.length : Int)).2 = hb at *
  rw [val_str hx]
  have e1 : (⟨s.toArray⟩ : ByteArray).size = s.length := by simp [ByteArray.size]
  have hr := sb_ok (P := P) (w := w) s.length s.length false b1 b2 c3 c4 c5 (Nat.le_refl _)
  refine ⟨.string ⟨((s.drop l.toNat).take (hb.toNat - l.toNat)).toArray⟩, ?_, Val.of_fro (.str _)⟩
  have e2 : (⟨s.toArray⟩ : ByteArray).extract l.toNat hb.toNat = ⟨((s.drop l.toNat).take (hb.toNat - l.toNat)).toArray⟩ := by
    apply ByteArray.ext
    simp [ByteArray.data_extract, List.extract_eq_take_drop]
  simp [Instr.sliceAt, Instr.slice, run_underlying ht, e1, hr, e2]

end
end Go.Dw
