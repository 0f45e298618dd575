/-
  THE LAYER Dw, PART 3: how data, objects and states stand for values and worlds ('Sim'), and what keeps it.
-/
import Derived.Test.YtlphpepmbcbmiaaDw2
namespace Go.Dw

/-- cells that nobody writes any more -/
abbrev Fz := Nat → Nat → Option Value
/-- where an object lies: its block (none: a nil slice), how many elements it has room for, the cells of each -/
structure Loc where
  b : Option Nat
  cap : Nat
  s : Nat
abbrev Bt := Nat → Option Loc

inductive Fro (F : Fz) : D → Value → Prop
  | top (v : Value) : Fro F .top v
  | int (k : IntKind) (n : Int) : Fro F (.int k n) (.int k n)
  | bool (b : Bool) : Fro F (.bool b) (.bool b)
  | str (s : List UInt8) : Fro F (.str s) (.string ⟨s.toArray⟩)
  | nils : Fro F .nils (.slice none 0 0)
  | nilf : Fro F .nilf .nilFunc
  | agg (cs : List D) (vs : List Value) (hl : cs.length = vs.length) (h1 : ∀ v ∈ vs, v.oneCell' = true)
      (h : ∀ (j : Nat) c v, cs[j]? = some c → vs[j]? = some v → Fro F c v) : Fro F (.agg cs) (.agg vs.toArray)
  | sl0 (a : Option Addr) (c : Nat) : Fro F (.sl []) (.slice a 0 c)
  | sl (es : List D) (b o c s : Nat) (vf : Nat → Nat → Value) (hc : es.length ≤ c) (hs : ∀ e ∈ es, (cells e).length = s)
      (hF : ∀ (i j : Nat) e d, es[i]? = some e → (cells e)[j]? = some d → F b (o + i * s + j) = some (vf i j))
      (h1 : ∀ (i j : Nat) e d, es[i]? = some e → (cells e)[j]? = some d → (vf i j).oneCell' = true)
      (h : ∀ (i j : Nat) e d, es[i]? = some e → (cells e)[j]? = some d → Fro F d (vf i j)) : Fro F (.sl es) (.slice (some ⟨b, o, none⟩) es.length c)
  | fptr (e : D) (b o off : Nat) (vf : Nat → Value)
      (hF : ∀ (j : Nat) d, (cells e)[j]? = some d → F b (o + j) = some (vf j))
      (h1 : ∀ (j : Nat) d, (cells e)[j]? = some d → (vf j).oneCell' = true)
      (h : ∀ (j : Nat) d, (cells e)[j]? = some d → Fro F d (vf j)) : Fro F (.fptr e off) (.pointer (some ⟨b, o + off, none⟩))
  | clo (f : Nat) (cs : List D) (vs : List Value) (hl : cs.length = vs.length)
      (h : ∀ (j : Nat) c v, cs[j]? = some c → vs[j]? = some v → Fro F c v) : Fro F (.clo f cs) (.func (.func f) #[] vs.toArray)
  | tup (cs : List D) (vs : List Value) (hl : cs.length = vs.length)
      (h : ∀ (j : Nat) c v, cs[j]? = some c → vs[j]? = some v → Fro F c v) : Fro F (.tup cs) (.tuple vs.toArray)

def Fsub (F F' : Fz) : Prop := ∀ b i x, F b i = some x → F' b i = some x
theorem Fsub.refl (F : Fz) : Fsub F F := fun _ _ _ h => h
theorem Fsub.trans {F F' F'' : Fz} (h : Fsub F F') (h' : Fsub F' F'') : Fsub F F'' := fun b i x hx => h' _ _ _ (h b i x hx)
def Bsub (β β' : Bt) : Prop := ∀ v L, β v = some L → β' v = some L
theorem Bsub.refl (β : Bt) : Bsub β β := fun _ _ h => h
theorem Bsub.trans {F F' F'' : Bt} (h : Bsub F F') (h' : Bsub F' F'') : Bsub F F'' := fun b i hx => h' _ _ (h b i hx)

theorem Fro.mono {F F' : Fz} (hF : Fsub F F') {d : D} {v : Value} (h : Fro F d v) : Fro F' d v := by
  induction h with
  | top v => exact .top v
  | int k n => exact .int k n
  | bool b => exact .bool b
  | str s => exact .str s
  | nils => exact .nils
  | nilf => exact .nilf
  | agg cs vs hl h1 _ ih => exact .agg cs vs hl h1 ih
  | sl0 a c => exact .sl0 a c
  | sl es b o c s vf hc hs hF' h1 _ ih => exact .sl es b o c s vf hc hs (fun i j e d h h' => hF _ _ _ (hF' i j e d h h')) h1 ih
  | fptr e b o off vf hF' h1 _ ih => exact .fptr e b o off vf (fun j d h => hF _ _ _ (hF' j d h)) h1 ih
  | clo f cs vs hl _ ih => exact .clo f cs vs hl ih
  | tup cs vs hl _ ih => exact .tup cs vs hl ih

theorem Fro.nrm {F : Fz} {d : D} {v : Value} (h : Fro F d v) : Fro F (nrm d) v := by
  induction h with
  | top v => exact .top v
  | int k n => exact .int k n
  | bool b => exact .bool b
  | str s => exact .str s
  | nils => exact .sl0 _ _
  | nilf => exact .nilf
  | agg cs vs hl h1 _ ih =>
    simp only [Dw.nrm]
    refine .agg _ vs (by simpa [nrms_map] using hl) h1 fun j c v hc hv => ?_
    simp only [nrms_map, List.getElem?_map, Option.map_eq_some_iff] at hc
    obtain ⟨c', hc', rfl⟩ := hc
    exact ih j c' v hc' hv
  | sl0 a c => simp only [Dw.nrm, nrms]; exact .sl0 a c
  | sl es b o c s vf hc hs hF h1 _ ih =>
    have key : ∀ (i j : Nat) e d, (nrms es)[i]? = some e → (cells e)[j]? = some d → ∃ e' d', es[i]? = some e' ∧ (cells e')[j]? = some d' ∧ Dw.nrm d' = d := by
      intro i j e d he hd
      simp only [nrms_map, List.getElem?_map, Option.map_eq_some_iff] at he
      obtain ⟨e', he', rfl⟩ := he
      simp only [cells_nrm, nrms_map, List.getElem?_map, Option.map_eq_some_iff] at hd
      obtain ⟨d', hd', rfl⟩ := hd
      exact ⟨e', d', he', hd', rfl⟩
    have hl : (nrms es).length = es.length := by simp [nrms_map]
    simp only [Dw.nrm]
    rw [← hl]
    refine .sl (nrms es) b o c s vf (by omega) (fun e he => ?_) (fun i j e d he hd => ?_) (fun i j e d he hd => ?_) fun i j e d he hd => ?_
    · simp only [nrms_map, List.mem_map] at he
      obtain ⟨e', he', rfl⟩ := he
      simpa [cells_nrm, nrms_map] using hs e' he'
    · obtain ⟨e', d', k1, k2, _⟩ := key i j e d he hd
      exact hF i j e' d' k1 k2
    · obtain ⟨e', d', k1, k2, _⟩ := key i j e d he hd
      exact h1 i j e' d' k1 k2
    · obtain ⟨e', d', k1, k2, rfl⟩ := key i j e d he hd
      exact ih i j e' d' k1 k2
  | fptr e b o off vf hF h1 h _ => exact .fptr e b o off vf hF h1 h
  | clo f cs vs hl h _ => exact .clo f cs vs hl h
  | tup cs vs hl h _ => exact .tup cs vs hl h

/-- a cell or a value that may be a reference to an own object -/
def Ref (F : Fz) (β : Bt) : D → Value → Prop
  | .osl _ v i n, x => ∃ L a, β v = some L ∧ x = .slice a n (L.cap - i) ∧ i + n ≤ L.cap ∧ (i = 0 → a = L.b.map fun b => ⟨b, 0, none⟩) ∧ (0 < n → ∃ b, L.b = some b ∧ a = some ⟨b, i * L.s, none⟩)
  | .optr _ v i off, x => ∃ L b, β v = some L ∧ L.b = some b ∧ x = .pointer (some ⟨b, i * L.s + off, none⟩)
  | d, x => Fro F d x
def Cel (F : Fz) (β : Bt) : D → Value → Prop
  | .clo f caps, x => ∃ vs : List Value, x = .func (.func f) #[] vs.toArray ∧ caps.length = vs.length ∧ ∀ (j : Nat) c v, caps[j]? = some c → vs[j]? = some v → Ref F β c v
  | d, x => Ref F β d x
def Val (F : Fz) (β : Bt) : D → Value → Prop
  | .agg cs, x => ∃ vs : List Value, x = .agg vs.toArray ∧ cs.length = vs.length ∧ (∀ v ∈ vs, v.oneCell' = true) ∧ ∀ (j : Nat) c v, cs[j]? = some c → vs[j]? = some v → Cel F β c v
  | .tup cs, x => ∃ vs : List Value, x = .tuple vs.toArray ∧ cs.length = vs.length ∧ ∀ (j : Nat) c v, cs[j]? = some c → vs[j]? = some v → Cel F β c v
  | d, x => Cel F β d x
def Env (F : Fz) (β : Bt) : D → Value → Prop
  | .when p d, x => (p = true → Val F β d x) ∧ (p = false → x = undef)
  | d, x => Val F β d x

section mono
variable {F F' : Fz} {β β' : Bt}
theorem Ref.of_fro {d : D} {x : Value} (h : Fro F d x) : Ref F β d x := by cases d <;> first | exact h | cases h
theorem Cel.of_ref {d : D} {x : Value} (h : Ref F β d x) : Cel F β d x := by
  cases d <;> try exact h
  cases h with
  | clo f cs vs hl h => exact ⟨vs, rfl, hl, fun j c v hc hv => Ref.of_fro (h j c v hc hv)⟩
theorem Cel.of_fro {d : D} {x : Value} (h : Fro F d x) : Cel F β d x := Cel.of_ref (Ref.of_fro h)
theorem Val.of_cel {d : D} {x : Value} (h : Cel F β d x) : Val F β d x := by
  cases d <;> try exact h
  · cases h with
    | agg cs vs hl h1 h => exact ⟨vs, rfl, hl, h1, fun j c v hc hv => Cel.of_fro (h j c v hc hv)⟩
  · cases h with
    | tup cs vs hl h => exact ⟨vs, rfl, hl, fun j c v hc hv => Cel.of_fro (h j c v hc hv)⟩
theorem Val.of_fro {d : D} {x : Value} (h : Fro F d x) : Val F β d x := Val.of_cel (Cel.of_fro h)
theorem Env.of_val {d : D} {x : Value} (h : Val F β d x) : Env F β d x := by
  cases d <;> try exact h
  cases h
theorem Env.of_fro {d : D} {x : Value} (h : Fro F d x) : Env F β d x := Env.of_val (Val.of_fro h)
theorem Ref.mono (hF : Fsub F F') (hB : Bsub β β') {d : D} {x : Value} (h : Ref F β d x) : Ref F' β' d x := by
  cases d <;> try exact Fro.mono hF h
  · obtain ⟨L, a, hL, r⟩ := h
    exact ⟨L, a, hB _ _ hL, r⟩
  · obtain ⟨L, b, hL, r⟩ := h
    exact ⟨L, b, hB _ _ hL, r⟩
theorem Cel.mono (hF : Fsub F F') (hB : Bsub β β') {d : D} {x : Value} (h : Cel F β d x) : Cel F' β' d x := by
  cases d <;> try (simp only [Cel] at h ⊢; exact Ref.mono hF hB h)
  obtain ⟨vs, r, hl, h⟩ := h
  exact ⟨vs, r, hl, fun j c v hc hv => (h j c v hc hv).mono hF hB⟩
theorem Val.mono (hF : Fsub F F') (hB : Bsub β β') {d : D} {x : Value} (h : Val F β d x) : Val F' β' d x := by
  cases d <;> try (simp only [Val] at h ⊢; exact Cel.mono hF hB h)
  · obtain ⟨vs, r, hl, h1, h⟩ := h
    exact ⟨vs, r, hl, h1, fun j c v hc hv => (h j c v hc hv).mono hF hB⟩
  · obtain ⟨vs, r, hl, h⟩ := h
    exact ⟨vs, r, hl, fun j c v hc hv => (h j c v hc hv).mono hF hB⟩
theorem Env.mono (hF : Fsub F F') (hB : Bsub β β') {d : D} {x : Value} (h : Env F β d x) : Env F' β' d x := by
  cases d <;> try (simp only [Env] at h ⊢; exact Val.mono hF hB h)
  exact ⟨fun hp => Val.mono hF hB (h.1 hp), h.2⟩
theorem Env.top (x : Value) : Env F β .top x := Env.of_fro (.top x)

/-- stripped of its guard -/
theorem Env.strip {d : D} {x : Value} (h : Env F β d x) (hp : (strip d).1 = true) : Val F β (Dw.strip d).2 x := by
  cases d <;> first | exact h | exact h.1 hp
end mono

def OwnOK (F : Fz) (β : Bt) (w : World) (L : Loc) (o : Own) : Prop :=
  L.s = o.s ∧ 0 < o.s ∧ o.es.length ≤ L.cap ∧ L.cap ≤ (if o.var then 1 else maxLen) ∧ (∀ e ∈ o.es, (cells e).length = o.s) ∧
  match L.b with
  | none => L.cap = 0 ∧ o.var = false
  | some b => ∃ C : Array Value, w.heap[b]? = some (.cells C o.ty (0, 0)) ∧ C.size = L.cap * o.s ∧
      ∀ (i j : Nat) e d, o.es[i]? = some e → (cells e)[j]? = some d → ∃ x, C[i * o.s + j]? = some x ∧ x.oneCell' = true ∧ (if o.var then Cel F β d x else Fro F d x)

def OwnFz (F : Fz) (L : Loc) (o : Own) : Prop :=
  o.var = false ∧ L.s = o.s ∧ 0 < o.s ∧ o.es.length ≤ L.cap ∧ (∀ e ∈ o.es, (cells e).length = o.s) ∧
  match L.b with
  | none => o.es = []
  | some b => ∀ (i j : Nat) e d, o.es[i]? = some e → (cells e)[j]? = some d → ∃ x, F b (i * o.s + j) = some x ∧ x.oneCell' = true ∧ Fro F d x

theorem OwnOK.keep {F F' : Fz} {β β' : Bt} {w w' : World} {L : Loc} {o : Own} (hF : Fsub F F') (hB : Bsub β β') (hw : ∀ b, L.b = some b → w'.heap[b]? = w.heap[b]?) (h : OwnOK F β w L o) : OwnOK F' β' w' L o := by
  obtain ⟨h1, h2, h3, h4, h5, h6⟩ := h
  refine ⟨h1, h2, h3, h4, h5, ?_⟩
  cases hb : L.b with
  | none => rw [hb] at h6; exact h6
  | some b =>
    rw [hb] at h6
    obtain ⟨C, hC, hsz, hx⟩ := h6
    refine ⟨C, (hw b hb).trans hC, hsz, fun i j e d he hd => ?_⟩
    obtain ⟨x, hx1, hx2, hx3⟩ := hx i j e d he hd
    refine ⟨x, hx1, hx2, ?_⟩
    split
    · rename_i hv; rw [if_pos hv] at hx3; exact hx3.mono hF hB
    · rename_i hv; rw [if_neg hv] at hx3; exact hx3.mono hF

theorem OwnFz.mono {F F' : Fz} {L : Loc} {o : Own} (hF : Fsub F F') (h : OwnFz F L o) : OwnFz F' L o := by
  obtain ⟨h0, h1, h2, h3, h4, h5⟩ := h
  refine ⟨h0, h1, h2, h3, h4, ?_⟩
  cases hb : L.b with
  | none => rw [hb] at h5; exact h5
  | some b =>
    rw [hb] at h5
    intro i j e d he hd
    obtain ⟨x, hx1, hx2, hx3⟩ := h5 i j e d he hd
    exact ⟨x, hF _ _ _ hx1, hx2, hx3.mono hF⟩

def Fok (F : Fz) (w : World) : Prop := ∀ b i x, F b i = some x → w.cell? ⟨b, i, none⟩ = some x

/-- from one world (and what is frozen in it) to a later one; the blocks M may have been written -/
structure Stp (M : List Nat) (w : World) (F : Fz) (w' : World) (F' : Fz) : Prop where
  os : w'.os = w.os
  tape : w'.tape = w.tape
  output : w'.output = w.output
  size : w.heap.size ≤ w'.heap.size
  block : ∀ b, b < w.heap.size → b ∉ M → w'.heap[b]? = w.heap[b]?
  sub : Fsub F F'
  old : ∀ b i, b < w.heap.size → F' b i = F b i

theorem Stp.refl (M : List Nat) (w : World) (F : Fz) : Stp M w F w F := ⟨rfl, rfl, rfl, Nat.le_refl _, fun _ _ _ => rfl, Fsub.refl F, fun _ _ _ => rfl⟩
theorem Stp.trans {M : List Nat} {B0 : Bt} {w w' w'' : World} {F F' F'' : Fz} (h : Stp M w F w' F') (k : Stp M w' F' w'' F'') : Stp M w F w'' F'' :=
  ⟨k.os.trans h.os, k.tape.trans h.tape, k.output.trans h.output, Nat.le_trans h.size k.size, fun b hb hM => (k.block b (Nat.lt_of_lt_of_le hb h.size) hM).trans (h.block b hb hM),
    h.sub.trans k.sub, fun b i hb => (k.old b i (Nat.lt_of_lt_of_le hb h.size)).trans (h.old b i hb)⟩

structure Sim (N : Nat) (w0 : World) (F0 : Fz) (M : List Nat) (B0 : Bt) (σ : S) (F : Fz) (β : Bt) (a : Act) (w : World) : Prop where
  size : a.tmps.size = N
  defers : a.defers = []
  env : ∀ t, Env F β (σ.ge t) (a.tmps.getD t undef)
  own : ∀ g v o, σ.go g = some (v, o) → ∃ L, β v = some L ∧ (o.fz = true → OwnFz F L o) ∧ (o.fz = false → OwnOK F β w L o)
  dist : ∀ g g' v v' o o' L L' b, σ.go g = some (v, o) → σ.go g' = some (v', o') → o.fz = false → o'.fz = false → β v = some L → β v' = some L' → L.b = some b → L'.b = some b → g = g'
  sep : ∀ g v o L b, σ.go g = some (v, o) → o.fz = false → β v = some L → L.b = some b → (∀ i, F b i = none) ∧ b < w.heap.size ∧ (w0.heap.size ≤ b ∨ (b ∈ M ∧ o.var = true))
  frz : Fok F w
  fin : ∀ b i x, F b i = some x → b < w.heap.size
  step : Stp M w0 F0 w F
  nam : Bsub B0 β

end Go.Dw
