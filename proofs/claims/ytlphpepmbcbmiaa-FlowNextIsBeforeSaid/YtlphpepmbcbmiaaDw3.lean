/-
  THE LAYER Dw, PART 3: how data, objects and states stand for values and worlds ('Sim'), and what keeps it.
-/
import Derived.Test.YtlphpepmbcbmiaaDw2
namespace Go.Dw

/-- cells that nobody writes any more -/
abbrev Fz := Nat → Nat → Option Value
/-- where an object lies: its block (none: a nil slice), how many elements it has room for, the cells of each -/
structure Loc where
  b : Option Nat
  cap : Nat
  s : Nat
abbrev Bt := Nat → Option Loc

inductive Fro (F : Fz) : D → Value → Prop
  | top (v : Value) : Fro F .top v
  | row (s ty : Nat) (es : List D) (v : Value) : Fro F (.row s ty es) v
  | hole (u n : Nat) (v : Value) : Fro F (.hole u n) v
  | int (k : IntKind) (n : Int) : Fro F (.int k n) (.int k n)
  | bool (b : Bool) : Fro F (.bool b) (.bool b)
  | str (s : List UInt8) : Fro F (.str s) (.string ⟨s.toArray⟩)
  | nils : Fro F .nils (.slice none 0 0)
  | nilf : Fro F .nilf .nilFunc
  | agg (cs : List D) (vs : List Value) (hl : cs.length = vs.length) (h1 : ∀ v ∈ vs, v.oneCell' = true)
      (h : ∀ (j : Nat) c v, cs[j]? = some c → vs[j]? = some v → Fro F c v) : Fro F (.agg cs) (.agg vs.toArray)
  | sl0 (a : Option Addr) (c : Nat) : Fro F (.sl []) (.slice a 0 c)
  | sl (es : List D) (b o c s : Nat) (vf : Nat → Nat → Value) (hc : es.length ≤ c) (hs : ∀ e ∈ es, (cells e).length = s)
      (hF : ∀ (i j : Nat) e d, es[i]? = some e → (cells e)[j]? = some d → F b (o + i * s + j) = some (vf i j))
      (h1 : ∀ (i j : Nat) e d, es[i]? = some e → (cells e)[j]? = some d → (vf i j).oneCell' = true)
      (h : ∀ (i j : Nat) e d, es[i]? = some e → (cells e)[j]? = some d → Fro F d (vf i j)) : Fro F (.sl es) (.slice (some ⟨b, o, none⟩) es.length c)
  | fptr (e : D) (b o off : Nat) (vf : Nat → Value)
      (hF : ∀ (j : Nat) d, (cells e)[j]? = some d → F b (o + j) = some (vf j))
      (h1 : ∀ (j : Nat) d, (cells e)[j]? = some d → (vf j).oneCell' = true)
      (h : ∀ (j : Nat) d, (cells e)[j]? = some d → Fro F d (vf j)) : Fro F (.fptr e off) (.pointer (some ⟨b, o + off, none⟩))
  | clo (f : Nat) (cs : List D) (vs : List Value) (hl : cs.length = vs.length)
      (h : ∀ (j : Nat) c v, cs[j]? = some c → vs[j]? = some v → Fro F c v) : Fro F (.clo f cs) (.func (.func f) #[] vs.toArray)
  | tup (cs : List D) (vs : List Value) (hl : cs.length = vs.length)
      (h : ∀ (j : Nat) c v, cs[j]? = some c → vs[j]? = some v → Fro F c v) : Fro F (.tup cs) (.tuple vs.toArray)

def Fsub (F F' : Fz) : Prop := ∀ b i x, F b i = some x → F' b i = some x
theorem Fsub.refl (F : Fz) : Fsub F F := fun _ _ _ h => h
theorem Fsub.trans {F F' F'' : Fz} (h : Fsub F F') (h' : Fsub F' F'') : Fsub F F'' := fun b i x hx => h' _ _ _ (h b i x hx)
def Bsub (β β' : Bt) : Prop := ∀ v L, β v = some L → β' v = some L
theorem Bsub.refl (β : Bt) : Bsub β β := fun _ _ h => h
theorem Bsub.trans {F F' F'' : Bt} (h : Bsub F F') (h' : Bsub F' F'') : Bsub F F'' := fun b i hx => h' _ _ (h b i hx)

theorem Fro.mono {F F' : Fz} (hF : Fsub F F') {d : D} {v : Value} (h : Fro F d v) : Fro F' d v := by
  induction h with
  | top v => exact .top v
  | row s ty es v => exact .row s ty es v
  | hole u n v => exact .hole u n v
  | int k n => exact .int k n
  | bool b => exact .bool b
  | str s => exact .str s
  | nils => exact .nils
  | nilf => exact .nilf
  | agg cs vs hl h1 _ ih => exact .agg cs vs hl h1 ih
  | sl0 a c => exact .sl0 a c
  | sl es b o c s vf hc hs hF' h1 _ ih => exact .sl es b o c s vf hc hs (fun i j e d h h' => hF _ _ _ (hF' i j e d h h')) h1 ih
  | fptr e b o off vf hF' h1 _ ih => exact .fptr e b o off vf (fun j d h => hF _ _ _ (hF' j d h)) h1 ih
  | clo f cs vs hl _ ih => exact .clo f cs vs hl ih
  | tup cs vs hl _ ih => exact .tup cs vs hl ih

theorem Fro.nrm {F : Fz} {d : D} {v : Value} (h : Fro F d v) : Fro F (nrm d) v := by
  induction h with
  | top v => exact .top v
  | row s ty es v => exact .row s ty es v
  | hole u n v => exact .hole u n v
  | int k n => exact .int k n
  | bool b => exact .bool b
  | str s => exact .str s
  | nils => exact .sl0 _ _
  | nilf => exact .nilf
  | agg cs vs hl h1 _ ih =>
    simp only [Dw.nrm]
    refine .agg _ vs (by simpa [nrms_map] using hl) h1 fun j c v hc hv => ?_
    simp only [nrms_map, List.getElem?_map, Option.map_eq_some_iff] at hc
    obtain ⟨c', hc', rfl⟩ := hc
    exact ih j c' v hc' hv
  | sl0 a c => simp only [Dw.nrm, nrms]; exact .sl0 a c
  | sl es b o c s vf hc hs hF h1 _ ih =>
    have key : ∀ (i j : Nat) e d, (nrms es)[i]? = some e → (cells e)[j]? = some d → ∃ e' d', es[i]? = some e' ∧ (cells e')[j]? = some d' ∧ Dw.nrm d' = d := by
      intro i j e d he hd
      simp only [nrms_map, List.getElem?_map, Option.map_eq_some_iff] at he
      obtain ⟨e', he', rfl⟩ := he
      simp only [cells_nrm, nrms_map, List.getElem?_map, Option.map_eq_some_iff] at hd
      obtain ⟨d', hd', rfl⟩ := hd
      exact ⟨e', d', he', hd', rfl⟩
    have hl : (nrms es).length = es.length := by simp [nrms_map]
    simp only [Dw.nrm]
    rw [← hl]
    refine .sl (nrms es) b o c s vf (by omega) (fun e he => ?_) (fun i j e d he hd => ?_) (fun i j e d he hd => ?_) fun i j e d he hd => ?_
    · simp only [nrms_map, List.mem_map] at he
      obtain ⟨e', he', rfl⟩ := he
      simpa [cells_nrm, nrms_map] using hs e' he'
    · obtain ⟨e', d', k1, k2, _⟩ := key i j e d he hd
      exact hF i j e' d' k1 k2
    · obtain ⟨e', d', k1, k2, _⟩ := key i j e d he hd
      exact h1 i j e' d' k1 k2
    · obtain ⟨e', d', k1, k2, rfl⟩ := key i j e d he hd
      exact ih i j e' d' k1 k2
  | fptr e b o off vf hF h1 h _ => exact .fptr e b o off vf hF h1 h
  | clo f cs vs hl h _ => exact .clo f cs vs hl h
  | tup cs vs hl h _ => exact .tup cs vs hl h

/-- a cell or a value that may be a reference to an own object -/
def Ref (F : Fz) (β : Bt) : D → Value → Prop
  | .osl _ v i n, x => ∃ L a, β v = some L ∧ x = .slice a n (L.cap - i) ∧ i + n ≤ L.cap ∧ (i = 0 → a = L.b.map fun b => ⟨b, 0, none⟩) ∧ (0 < n → ∃ b, L.b = some b ∧ a = some ⟨b, i * L.s, none⟩)
  | .optr _ v i off, x => ∃ L b, β v = some L ∧ L.b = some b ∧ x = .pointer (some ⟨b, i * L.s + off, none⟩)
  | d, x => Fro F d x
def Cel (F : Fz) (β : Bt) : D → Value → Prop
  | .clo f caps, x => ∃ vs : List Value, x = .func (.func f) #[] vs.toArray ∧ caps.length = vs.length ∧ ∀ (j : Nat) c v, caps[j]? = some c → vs[j]? = some v → Ref F β c v
  | d, x => Ref F β d x
def Val (F : Fz) (β : Bt) : D → Value → Prop
  | .agg cs, x => ∃ vs : List Value, x = .agg vs.toArray ∧ cs.length = vs.length ∧ (∀ v ∈ vs, v.oneCell' = true) ∧ ∀ (j : Nat) c v, cs[j]? = some c → vs[j]? = some v → Cel F β c v
  | .tup cs, x => ∃ vs : List Value, x = .tuple vs.toArray ∧ cs.length = vs.length ∧ ∀ (j : Nat) c v, cs[j]? = some c → vs[j]? = some v → Cel F β c v
  | d, x => Cel F β d x
def Env (F : Fz) (β : Bt) : D → Value → Prop
  | .when p d, x => (p = true → Val F β d x) ∧ (p = false → x = undef)
  | d, x => Val F β d x

section mono
variable {F F' : Fz} {β β' : Bt}
theorem Ref.of_fro {d : D} {x : Value} (h : Fro F d x) : Ref F β d x := by cases d <;> first | exact h | cases h
theorem Cel.of_ref {d : D} {x : Value} (h : Ref F β d x) : Cel F β d x := by
  cases d <;> try exact h
  cases h with
  | clo f cs vs hl h => exact ⟨vs, rfl, hl, fun j c v hc hv => Ref.of_fro (h j c v hc hv)⟩
theorem Cel.of_fro {d : D} {x : Value} (h : Fro F d x) : Cel F β d x := Cel.of_ref (Ref.of_fro h)
theorem Val.of_cel {d : D} {x : Value} (h : Cel F β d x) : Val F β d x := by
  cases d <;> try exact h
  · cases h with
    | agg cs vs hl h1 h => exact ⟨vs, rfl, hl, h1, fun j c v hc hv => Cel.of_fro (h j c v hc hv)⟩
  · cases h with
    | tup cs vs hl h => exact ⟨vs, rfl, hl, fun j c v hc hv => Cel.of_fro (h j c v hc hv)⟩
theorem Val.of_fro {d : D} {x : Value} (h : Fro F d x) : Val F β d x := Val.of_cel (Cel.of_fro h)
theorem Env.of_val {d : D} {x : Value} (h : Val F β d x) : Env F β d x := by
  cases d <;> try exact h
  cases h
theorem Env.of_fro {d : D} {x : Value} (h : Fro F d x) : Env F β d x := Env.of_val (Val.of_fro h)
theorem Ref.mono (hF : Fsub F F') (hB : Bsub β β') {d : D} {x : Value} (h : Ref F β d x) : Ref F' β' d x := by
  cases d <;> try exact Fro.mono hF h
  · obtain ⟨L, a, hL, r⟩ := h
    exact ⟨L, a, hB _ _ hL, r⟩
  · obtain ⟨L, b, hL, r⟩ := h
    exact ⟨L, b, hB _ _ hL, r⟩
theorem Cel.mono (hF : Fsub F F') (hB : Bsub β β') {d : D} {x : Value} (h : Cel F β d x) : Cel F' β' d x := by
  cases d <;> try (simp only [Cel] at h ⊢; exact Ref.mono hF hB h)
  obtain ⟨vs, r, hl, h⟩ := h
  exact ⟨vs, r, hl, fun j c v hc hv => (h j c v hc hv).mono hF hB⟩
theorem Val.mono (hF : Fsub F F') (hB : Bsub β β') {d : D} {x : Value} (h : Val F β d x) : Val F' β' d x := by
  cases d <;> try (simp only [Val] at h ⊢; exact Cel.mono hF hB h)
  · obtain ⟨vs, r, hl, h1, h⟩ := h
    exact ⟨vs, r, hl, h1, fun j c v hc hv => (h j c v hc hv).mono hF hB⟩
  · obtain ⟨vs, r, hl, h⟩ := h
    exact ⟨vs, r, hl, fun j c v hc hv => (h j c v hc hv).mono hF hB⟩
theorem Env.mono (hF : Fsub F F') (hB : Bsub β β') {d : D} {x : Value} (h : Env F β d x) : Env F' β' d x := by
  cases d <;> try (simp only [Env] at h ⊢; exact Val.mono hF hB h)
  exact ⟨fun hp => Val.mono hF hB (h.1 hp), h.2⟩
theorem Env.top (x : Value) : Env F β .top x := Env.of_fro (.top x)

/-- stripped of its guard -/
theorem Env.strip {d : D} {x : Value} (h : Env F β d x) (hp : (strip d).1 = true) : Val F β (Dw.strip d).2 x := by
  cases d <;> first | exact h | exact h.1 hp
end mono

def OwnOK (F : Fz) (β : Bt) (w : World) (L : Loc) (o : Own) : Prop :=
  L.s = o.s ∧ 0 < o.s ∧ o.es.length ≤ L.cap ∧ L.cap ≤ (if o.var then 1 else maxLen) ∧ (∀ e ∈ o.es, (cells e).length = o.s) ∧
  match L.b with
  | none => L.cap = 0 ∧ o.var = false
  | some b => ∃ C : Array Value, w.heap[b]? = some (.cells C o.ty (0, 0)) ∧ C.size = L.cap * o.s ∧
      ∀ (i j : Nat) e d, o.es[i]? = some e → (cells e)[j]? = some d → ∃ x, C[i * o.s + j]? = some x ∧ x.oneCell' = true ∧ (if o.var then Cel F β d x else Fro F d x)

def OwnFz (F : Fz) (L : Loc) (o : Own) : Prop :=
  o.var = false ∧ L.s = o.s ∧ 0 < o.s ∧ o.es.length ≤ L.cap ∧ (∀ e ∈ o.es, (cells e).length = o.s) ∧
  match L.b with
  | none => o.es = []
  | some b => ∀ (i j : Nat) e d, o.es[i]? = some e → (cells e)[j]? = some d → ∃ x, F b (i * o.s + j) = some x ∧ x.oneCell' = true ∧ Fro F d x

theorem OwnOK.keep {F F' : Fz} {β β' : Bt} {w w' : World} {L : Loc} {o : Own} (hF : Fsub F F') (hB : Bsub β β') (hw : ∀ b, L.b = some b → w'.heap[b]? = w.heap[b]?) (h : OwnOK F β w L o) : OwnOK F' β' w' L o := by
  obtain ⟨h1, h2, h3, h4, h5, h6⟩ := h
  refine ⟨h1, h2, h3, h4, h5, ?_⟩
  cases hb : L.b with
  | none => rw [hb] at h6; exact h6
  | some b =>
    rw [hb] at h6
    obtain ⟨C, hC, hsz, hx⟩ := h6
    refine ⟨C, (hw b hb).trans hC, hsz, fun i j e d he hd => ?_⟩
    obtain ⟨x, hx1, hx2, hx3⟩ := hx i j e d he hd
    refine ⟨x, hx1, hx2, ?_⟩
    split
    · rename_i hv; rw [if_pos hv] at hx3; exact hx3.mono hF hB
    · rename_i hv; rw [if_neg hv] at hx3; exact hx3.mono hF

theorem OwnFz.mono {F F' : Fz} {L : Loc} {o : Own} (hF : Fsub F F') (h : OwnFz F L o) : OwnFz F' L o := by
  obtain ⟨h0, h1, h2, h3, h4, h5⟩ := h
  refine ⟨h0, h1, h2, h3, h4, ?_⟩
  cases hb : L.b with
  | none => rw [hb] at h5; exact h5
  | some b =>
    rw [hb] at h5
    intro i j e d he hd
    obtain ⟨x, hx1, hx2, hx3⟩ := h5 i j e d he hd
    exact ⟨x, hF _ _ _ hx1, hx2, hx3.mono hF⟩

def Fok (F : Fz) (w : World) : Prop := ∀ b i x, F b i = some x → w.cell? ⟨b, i, none⟩ = some x

/-- from one world (and what is frozen in it) to a later one; the blocks M may have been written -/
structure Stp (M : Nat → Prop) (w : World) (F : Fz) (w' : World) (F' : Fz) : Prop where
  os : w'.os = w.os
  tape : w'.tape = w.tape
  output : w'.output = w.output
  size : w.heap.size ≤ w'.heap.size
  block : ∀ b, b < w.heap.size → ¬ M b → w'.heap[b]? = w.heap[b]?
  sub : Fsub F F'
  old : ∀ b i, b < w.heap.size → ¬ M b → F' b i = F b i

theorem Stp.refl (M : Nat → Prop) (w : World) (F : Fz) : Stp M w F w F := ⟨rfl, rfl, rfl, Nat.le_refl _, fun _ _ _ => rfl, Fsub.refl F, fun _ _ _ _ => rfl⟩
theorem Stp.trans {M : Nat → Prop} {B0 : Bt} {w w' w'' : World} {F F' F'' : Fz} (h : Stp M w F w' F') (k : Stp M w' F' w'' F'') : Stp M w F w'' F'' :=
  ⟨k.os.trans h.os, k.tape.trans h.tape, k.output.trans h.output, Nat.le_trans h.size k.size, fun b hb hM => (k.block b (Nat.lt_of_lt_of_le hb h.size) hM).trans (h.block b hb hM),
    h.sub.trans k.sub, fun b i hb hM => (k.old b i (Nat.lt_of_lt_of_le hb h.size) hM).trans (h.old b i hb hM)⟩

/-- a slice that its holder alone holds: its value; 'φ' are the blocks that belong to it -/
inductive RowAt (F : Fz) (w : World) : (Nat → Prop) → Nat → Nat → List D → Value → Prop
  | nil (φ : Nat → Prop) (s ty : Nat) (hs : 0 < s) : RowAt F w φ s ty [] (.slice none 0 0)
  | row (φ : Nat → Prop) (s ty : Nat) (es : List D) (b cap : Nat) (C : Array Value) (fp : Nat → Nat → Nat → Prop) (xf : Nat → Nat → Value) (hs : 0 < s) (hc : es.length ≤ cap) (hm : cap ≤ maxLen) (hl : ∀ e ∈ es, (cells e).length = s)
      (hC : w.heap[b]? = some (.cells C ty (0, 0))) (hCs : C.size = cap * s) (hb : φ b)
      (hx : ∀ (i j : Nat) e d, es[i]? = some e → (cells e)[j]? = some d → C[i * s + j]? = some (xf i j) ∧ (xf i j).oneCell' = true ∧ Fro F d (xf i j))
      (hr : ∀ (i j : Nat) e s' ty' es', es[i]? = some e → (cells e)[j]? = some (.row s' ty' es') → RowAt F w (fp i j) s' ty' es' (xf i j))
      (hh : ∀ (i j : Nat) e u n, es[i]? = some e → (cells e)[j]? ≠ some (.hole u n))
      (hfp : ∀ i j b', fp i j b' → φ b' ∧ b' ≠ b) (hd : ∀ i j i' j' b', fp i j b' → fp i' j' b' → i = i' ∧ j = j') : RowAt F w φ s ty es (.slice (some ⟨b, 0, none⟩) es.length cap)

theorem RowAt.keep {F F' : Fz} {w w' : World} (hF : Fsub F F') {φ ψ : Nat → Prop} {s ty : Nat} {es : List D} {x : Value} (h : RowAt F w φ s ty es x) (hw : ∀ b, φ b → w'.heap[b]? = w.heap[b]?) (hφ : ∀ b, φ b → ψ b) : RowAt F' w' ψ s ty es x := by
  induction h generalizing ψ with
  | nil φ s ty hs => exact .nil _ s ty hs
  | row φ s ty es b cap C fp xf hs hc hm hl hC hCs hb hx hr hh hfp hd ih =>
    refine .row _ s ty es b cap C fp xf hs hc hm hl ((hw b hb).trans hC) hCs (hφ b hb) (fun i j e d he hd' => ?_) (fun i j e s' ty' es' he hj => ?_) hh (fun i j b' h => ⟨hφ _ (hfp i j b' h).1, (hfp i j b' h).2⟩) hd
    · obtain ⟨h1, h2, h3⟩ := hx i j e d he hd'
      exact ⟨h1, h2, h3.mono hF⟩
    · exact ih i j e s' ty' es' he hj (fun b' hb' => hw b' (hfp i j b' hb').1) (fun b' hb' => hb')

/-- the cells of rich objects: own slices, and those that were taken out. φ g i j: the blocks that belong to cell (i, j) of object g -/
structure RichOK (F : Fz) (β : Bt) (n0 : Nat) (M : Nat → Prop) (σ : S) (w : World) (φ : Nat → Nat → Nat → Nat → Prop) : Prop where
  row : ∀ g v o L b C (i j : Nat) e x s ty es, rich g = true → σ.go g = some (v, o) → o.fz = false → β v = some L → L.b = some b → w.heap[b]? = some (.cells C o.ty (0, 0)) → o.es[i]? = some e → (cells e)[j]? = some (.row s ty es) → C[i * o.s + j]? = some x → RowAt F w (φ g i j) s ty es x
  hole : ∀ g v o L b C (i j : Nat) e x u n, rich g = true → σ.go g = some (v, o) → o.fz = false → β v = some L → L.b = some b → w.heap[b]? = some (.cells C o.ty (0, 0)) → o.es[i]? = some e → (cells e)[j]? = some (.hole u n) → C[i * o.s + j]? = some x → Ref F β (.osl 0 u 0 n) x
  none_ : ∀ g i j b, φ g i j b → ∀ k, F b k = none
  lt : ∀ g i j b, φ g i j b → b < w.heap.size
  new : ∀ g i j b, φ g i j b → n0 ≤ b ∨ M b
  sep : ∀ g i j b g' v' o' L', φ g i j b → σ.go g' = some (v', o') → o'.fz = false → β v' = some L' → L'.b ≠ some b
  dis : ∀ g i j g' i' j' b, φ g i j b → φ g' i' j' b → g = g' ∧ i = i' ∧ j = j'

structure Sim (N : Nat) (w0 : World) (F0 : Fz) (M : Nat → Prop) (B0 : Bt) (σ : S) (F : Fz) (β : Bt) (a : Act) (w : World) : Prop where
  size : a.tmps.size = N
  defers : a.defers = []
  env : ∀ t, Env F β (σ.ge t) (a.tmps.getD t undef)
  own : ∀ g v o, σ.go g = some (v, o) → ∃ L, β v = some L ∧ (o.fz = true → OwnFz F L o) ∧ (o.fz = false → OwnOK F β w L o)
  dist : ∀ g g' v v' o o' L L' b, σ.go g = some (v, o) → σ.go g' = some (v', o') → o.fz = false → o'.fz = false → β v = some L → β v' = some L' → L.b = some b → L'.b = some b → g = g'
  sep : ∀ g v o L b, σ.go g = some (v, o) → o.fz = false → β v = some L → L.b = some b → (∀ i, F b i = none) ∧ b < w.heap.size ∧ (w0.heap.size ≤ b ∨ (M b ∧ (o.var = true ∨ rich g = true)))
  rich : ∃ φ, RichOK F β w0.heap.size M σ w φ
  frz : Fok F w
  fin : ∀ b i x, F b i = some x → b < w.heap.size
  step : Stp M w0 F0 w F
  nam : Bsub B0 β

/-- rich objects stay as they are, or have plain cells; what belongs to their cells is not written -/
theorem RichOK.keep {F F' : Fz} {β β' : Bt} {n0 : Nat} {M : Nat → Prop} {σ σ' : S} {w w' : World} {φ : Nat → Nat → Nat → Nat → Prop} (h : RichOK F β n0 M σ w φ) (hF : Fsub F F') (hβ : Bsub β β') (hsz : w.heap.size ≤ w'.heap.size)
    (hFφ : ∀ g i j b, φ g i j b → ∀ k, F' b k = F b k) (hwφ : ∀ g i j b, φ g i j b → w'.heap[b]? = w.heap[b]?)
    (hown : ∀ g v o, σ.go g = some (v, o) → ∃ L, β v = some L)
    (hrich : ∀ g v o, rich g = true → σ'.go g = some (v, o) → o.fz = false → (∃ o1, σ.go g = some (v, o1) ∧ o1.fz = false ∧ o1.ty = o.ty ∧ o1.s = o.s ∧
        ∀ (i j : Nat) e c, o.es[i]? = some e → (cells e)[j]? = some c → plain c = false → (∃ e1, o1.es[i]? = some e1 ∧ (cells e1)[j]? = some c) ∧ ∀ L b C' x, β v = some L → L.b = some b → w'.heap[b]? = some (.cells C' o.ty (0, 0)) → C'[i * o.s + j]? = some x → ∃ C, w.heap[b]? = some (.cells C o.ty (0, 0)) ∧ C[i * o.s + j]? = some x) ∨ (∀ e ∈ o.es, plainE e = true))
    (hsep : ∀ g i j b g' v' o' L', φ g i j b → σ'.go g' = some (v', o') → o'.fz = false → β' v' = some L' → L'.b ≠ some b) : RichOK F' β' n0 M σ' w' φ := by
  have pl : ∀ (es : List D) (i j : Nat) e c, (∀ e ∈ es, plainE e = true) → es[i]? = some e → (cells e)[j]? = some c → plain c = true := by
    intro es i j e c h1 he hj
    exact List.all_eq_true.1 (h1 e (List.mem_of_getElem? he)) c (List.mem_of_getElem? hj)
  refine ⟨?_, ?_, fun g i j b hb k => (hFφ g i j b hb k).trans (h.none_ g i j b hb k), fun g i j b hb => Nat.lt_of_lt_of_le (h.lt g i j b hb) hsz, h.new, hsep, h.dis⟩
  · intro g v o L b C' i j e x s ty es hr hg hf hL hb hC he hj hx
    rcases hrich g v o hr hg hf with ⟨o1, k1, k2, k3, k4, k5⟩ | k
    · obtain ⟨⟨e1, q1, q2⟩, q3⟩ := k5 i j e _ he hj rfl
      obtain ⟨L1, hL1⟩ := hown g v o1 k1
      have := hβ _ _ hL1; rw [hL] at this; cases this
      obtain ⟨C, z1, z2⟩ := q3 L b C' x hL1 hb hC hx
      exact (h.row g v o1 L b C i j e1 x s ty es hr k1 k2 hL1 hb (by rw [k3]; exact z1) q1 q2 (by rw [k4]; exact z2)).keep hF (hwφ g i j) (fun _ h => h)
    · have := pl _ i j e _ k he hj; cases this
  · intro g v o L b C' i j e x u n hr hg hf hL hb hC he hj hx
    rcases hrich g v o hr hg hf with ⟨o1, k1, k2, k3, k4, k5⟩ | k
    · obtain ⟨⟨e1, q1, q2⟩, q3⟩ := k5 i j e _ he hj rfl
      obtain ⟨L1, hL1⟩ := hown g v o1 k1
      have := hβ _ _ hL1; rw [hL] at this; cases this
      obtain ⟨C, z1, z2⟩ := q3 L b C' x hL1 hb hC hx
      exact (h.hole g v o1 L b C i j e1 x u n hr k1 k2 hL1 hb (by rw [k3]; exact z1) q1 q2 (by rw [k4]; exact z2)).mono hF hβ
    · have := pl _ i j e _ k he hj; cases this

theorem RichOK.congr {F : Fz} {β : Bt} {n0 : Nat} {M : Nat → Prop} {σ σ' : S} {w : World} {φ : Nat → Nat → Nat → Nat → Prop} (h : RichOK F β n0 M σ w φ) (hg : ∀ g, σ'.go g = σ.go g) : RichOK F β n0 M σ' w φ :=
  ⟨fun g v o L b C i j e x s ty es hr h1 => h.row g v o L b C i j e x s ty es hr ((hg g).symm.trans h1), fun g v o L b C i j e x u n hr h1 => h.hole g v o L b C i j e x u n hr ((hg g).symm.trans h1), h.none_, h.lt, h.new,
    fun g i j b g' v' o' L' hb h1 => h.sep g i j b g' v' o' L' hb ((hg g').symm.trans h1), h.dis⟩

end Go.Dw
