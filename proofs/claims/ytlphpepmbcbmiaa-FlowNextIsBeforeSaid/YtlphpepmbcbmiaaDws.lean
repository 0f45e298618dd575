/-
  THE LAYER Dw, PART 19s: steps that only change how a state is described.
-/
import Derived.Test.YtlphpepmbcbmiaaDw19
namespace Go.Dw

theorem rens_map (g g' : Nat) : ∀ l : List D, rens g g' l = l.map (ren g g')
  | [] => rfl
  | d :: r => by simp [rens, rens_map g g' r]
theorem frps_map (g v : Nat) (z : D) : ∀ l : List D, frps g v z l = l.map (frp g v z)
  | [] => rfl
  | d :: r => by simp [frps, frps_map g v z r]

section
variable {N : Nat} {w0 : World} {F0 : Fz} {M : Nat → Prop} {B0 : Bt} {σ : S} {F : Fz} {β : Bt} {a : Act} {w : World}

theorem fro_ren (g g' : Nat) {d : D} {x : Value} (h : Fro F d x) : Fro F (ren g g' d) x := by
  have key : ∀ (cs : List D) (vs : List Value), (∀ (j : Nat) c v, cs[j]? = some c → vs[j]? = some v → Fro F (ren g g' c) v) → ∀ (j : Nat) c v, (rens g g' cs)[j]? = some c → vs[j]? = some v → Fro F c v := by
    intro cs vs h j c v hc hv
    rw [rens_map, List.getElem?_map, Option.map_eq_some_iff] at hc
    obtain ⟨c', hc', rfl⟩ := hc
    exact h j c' v hc' hv
  induction h with
  | agg cs vs hl h1 _ ih => exact .agg _ vs (by simpa [rens_map] using hl) h1 (key cs vs ih)
  | clo f cs vs hl _ ih => exact .clo f _ vs (by simpa [rens_map] using hl) (key cs vs ih)
  | tup cs vs hl _ ih => exact .tup _ vs (by simpa [rens_map] using hl) (key cs vs ih)
  | top v => exact .top v
  | row s ty es v => exact .row s ty es v
  | hole u n v => exact .hole u n v
  | int k n => exact .int k n
  | bool b => exact .bool b
  | str s => exact .str s
  | nils => exact .nils
  | nilf => exact .nilf
  | sl0 a c => exact .sl0 a c
  | sl es b o c s vf hc hs hF h1 h _ => exact .sl es b o c s vf hc hs hF h1 h
  | fptr e b o off vf hF h1 h _ => exact .fptr e b o off vf hF h1 h
theorem ref_ren (g g' : Nat) {d : D} {x : Value} (h : Ref F β d x) : Ref F β (ren g g' d) x := by
  cases d <;> first | exact h | exact Ref.of_fro (fro_ren g g' h)
theorem cel_ren (g g' : Nat) {d : D} {x : Value} (h : Cel F β d x) : Cel F β (ren g g' d) x := by
  by_cases hcl : ∃ f cs, d = .clo f cs
  case neg =>
    have h' : Ref F β d x := by cases d <;> first | exact h | exact (hcl ⟨_, _, rfl⟩).elim
    exact Cel.of_ref (ref_ren g g' h')
  obtain ⟨f, cs, rfl⟩ := hcl
  obtain ⟨vs, rfl, hl, hv⟩ := h
  refine ⟨vs, rfl, by simpa [rens_map] using hl, fun j c v hc hv' => ?_⟩
  rw [rens_map, List.getElem?_map, Option.map_eq_some_iff] at hc
  obtain ⟨c', hc', rfl⟩ := hc
  exact ref_ren g g' (hv j c' v hc' hv')
theorem val_ren (g g' : Nat) {d : D} {x : Value} (h : Val F β d x) : Val F β (ren g g' d) x := by
  cases d with
  | agg cs =>
    obtain ⟨vs, rfl, hl, h1, hv⟩ := h
    refine ⟨vs, rfl, by simpa [rens_map] using hl, h1, fun j c v' hc hv' => ?_⟩
    rw [rens_map, List.getElem?_map, Option.map_eq_some_iff] at hc
    obtain ⟨c', hc', rfl⟩ := hc
    exact cel_ren g g' (hv j c' v' hc' hv')
  | tup cs =>
    obtain ⟨vs, rfl, hl, hv⟩ := h
    refine ⟨vs, rfl, by simpa [rens_map] using hl, fun j c v' hc hv' => ?_⟩
    rw [rens_map, List.getElem?_map, Option.map_eq_some_iff] at hc
    obtain ⟨c', hc', rfl⟩ := hc
    exact cel_ren g g' (hv j c' v' hc' hv')
  | top  => exact Val.of_cel (cel_ren g g' (show Cel F β (.top ) x from h))
  | int x0 x1 => exact Val.of_cel (cel_ren g g' (show Cel F β (.int x0 x1) x from h))
  | bool x0 => exact Val.of_cel (cel_ren g g' (show Cel F β (.bool x0) x from h))
  | str x0 => exact Val.of_cel (cel_ren g g' (show Cel F β (.str x0) x from h))
  | sl x0 => exact Val.of_cel (cel_ren g g' (show Cel F β (.sl x0) x from h))
  | nils  => exact Val.of_cel (cel_ren g g' (show Cel F β (.nils ) x from h))
  | osl x0 x1 x2 x3 => exact Val.of_cel (cel_ren g g' (show Cel F β (.osl x0 x1 x2 x3) x from h))
  | optr x0 x1 x2 x3 => exact Val.of_cel (cel_ren g g' (show Cel F β (.optr x0 x1 x2 x3) x from h))
  | fptr x0 x1 => exact Val.of_cel (cel_ren g g' (show Cel F β (.fptr x0 x1) x from h))
  | clo x0 x1 => exact Val.of_cel (cel_ren g g' (show Cel F β (.clo x0 x1) x from h))
  | nilf  => exact Val.of_cel (cel_ren g g' (show Cel F β (.nilf ) x from h))
  | when x0 x1 => exact Val.of_cel (cel_ren g g' (show Cel F β (.when x0 x1) x from h))
  | row x0 x1 x2 => exact Val.of_cel (cel_ren g g' (show Cel F β (.row x0 x1 x2) x from h))
  | hole x0 x1 => exact Val.of_cel (cel_ren g g' (show Cel F β (.hole x0 x1) x from h))
theorem env_ren (g g' : Nat) {d : D} {x : Value} (h : Env F β d x) : Env F β (ren g g' d) x := by
  cases d with
  | top  => exact Env.of_val (val_ren g g' (show Val F β (.top ) x from h))
  | int x0 x1 => exact Env.of_val (val_ren g g' (show Val F β (.int x0 x1) x from h))
  | bool x0 => exact Env.of_val (val_ren g g' (show Val F β (.bool x0) x from h))
  | str x0 => exact Env.of_val (val_ren g g' (show Val F β (.str x0) x from h))
  | agg x0 => exact Env.of_val (val_ren g g' (show Val F β (.agg x0) x from h))
  | sl x0 => exact Env.of_val (val_ren g g' (show Val F β (.sl x0) x from h))
  | nils  => exact Env.of_val (val_ren g g' (show Val F β (.nils ) x from h))
  | osl x0 x1 x2 x3 => exact Env.of_val (val_ren g g' (show Val F β (.osl x0 x1 x2 x3) x from h))
  | optr x0 x1 x2 x3 => exact Env.of_val (val_ren g g' (show Val F β (.optr x0 x1 x2 x3) x from h))
  | fptr x0 x1 => exact Env.of_val (val_ren g g' (show Val F β (.fptr x0 x1) x from h))
  | clo x0 x1 => exact Env.of_val (val_ren g g' (show Val F β (.clo x0 x1) x from h))
  | nilf  => exact Env.of_val (val_ren g g' (show Val F β (.nilf ) x from h))
  | tup x0 => exact Env.of_val (val_ren g g' (show Val F β (.tup x0) x from h))
  | row x0 x1 x2 => exact Env.of_val (val_ren g g' (show Val F β (.row x0 x1 x2) x from h))
  | hole x0 x1 => exact Env.of_val (val_ren g g' (show Val F β (.hole x0 x1) x from h))
  | when p d => exact h

/-- pointers to variable g (version v) at block b: it holds z, frozen -/
structure FrAt (F' : Fz) (β : Bt) (v : Nat) (z : D) : Prop where
  at_ : ∀ L b off, β v = some L → L.b = some b → Fro F' (.fptr z off) (.pointer (some ⟨b, off, none⟩))
theorem fro_frp {g v : Nat} {z : D} {d : D} {x : Value} (h : Fro F d x) : Fro F (frp g v z d) x := by
  have key : ∀ (cs : List D) (vs : List Value), (∀ (j : Nat) c v', cs[j]? = some c → vs[j]? = some v' → Fro F (frp g v z c) v') → ∀ (j : Nat) c v', (frps g v z cs)[j]? = some c → vs[j]? = some v' → Fro F c v' := by
    intro cs vs h j c v' hc hv
    rw [frps_map, List.getElem?_map, Option.map_eq_some_iff] at hc
    obtain ⟨c', hc', rfl⟩ := hc
    exact h j c' v' hc' hv
  induction h with
  | agg cs vs hl h1 _ ih => exact .agg _ vs (by simpa [frps_map] using hl) h1 (key cs vs ih)
  | clo f cs vs hl _ ih => exact .clo f _ vs (by simpa [frps_map] using hl) (key cs vs ih)
  | tup cs vs hl _ ih => exact .tup _ vs (by simpa [frps_map] using hl) (key cs vs ih)
  | top v => exact .top v
  | row s ty es v => exact .row s ty es v
  | hole u n v => exact .hole u n v
  | int k n => exact .int k n
  | bool b => exact .bool b
  | str s => exact .str s
  | nils => exact .nils
  | nilf => exact .nilf
  | sl0 a c => exact .sl0 a c
  | sl es b o c s vf hc hs hF h1 h _ => exact .sl es b o c s vf hc hs hF h1 h
  | fptr e b o off vf hF h1 h _ => exact .fptr e b o off vf hF h1 h
theorem ref_frp {g v : Nat} {z : D} (hz : FrAt F β v z) {d : D} {x : Value} (h : Ref F β d x) : Ref F β (frp g v z d) x := by
  cases d <;> first | exact h | exact Ref.of_fro (fro_frp h) | skip
  rename_i k u i off
  simp only [frp]
  cases hb : (Nat.beq k g && Nat.beq u v && Nat.beq i 0) with
  | false => exact h
  | true =>
    simp only [Bool.and_eq_true] at hb
    obtain ⟨⟨_, h2⟩, h3⟩ := hb
    have h2 := Nat.eq_of_beq_eq_true h2
    have h3 := Nat.eq_of_beq_eq_true h3
    subst h2; subst h3
    obtain ⟨L, b, hL, hb, rfl⟩ := h
    have := hz.at_ L b off hL hb
    simp only [cond_true]
    exact Ref.of_fro (by simpa using this)
theorem cel_frp {g v : Nat} {z : D} (hz : FrAt F β v z) {d : D} {x : Value} (h : Cel F β d x) : Cel F β (frp g v z d) x := by
  by_cases hcl : ∃ f cs, d = .clo f cs
  case neg =>
    have h' : Ref F β d x := by cases d <;> first | exact h | exact (hcl ⟨_, _, rfl⟩).elim
    exact Cel.of_ref (ref_frp hz h')
  obtain ⟨f, cs, rfl⟩ := hcl
  obtain ⟨vs, rfl, hl, hv⟩ := h
  refine ⟨vs, rfl, by simpa [frps_map] using hl, fun j c v' hc hv' => ?_⟩
  rw [frps_map, List.getElem?_map, Option.map_eq_some_iff] at hc
  obtain ⟨c', hc', rfl⟩ := hc
  exact ref_frp hz (hv j c' v' hc' hv')
theorem val_frp {g v : Nat} {z : D} (hz : FrAt F β v z) {d : D} {x : Value} (h : Val F β d x) : Val F β (frp g v z d) x := by
  cases d with
  | agg cs =>
    obtain ⟨vs, rfl, hl, h1, hv⟩ := h
    refine ⟨vs, rfl, by simpa [frps_map] using hl, h1, fun j c v' hc hv' => ?_⟩
    rw [frps_map, List.getElem?_map, Option.map_eq_some_iff] at hc
    obtain ⟨c', hc', rfl⟩ := hc
    exact cel_frp hz (hv j c' v' hc' hv')
  | tup cs =>
    obtain ⟨vs, rfl, hl, hv⟩ := h
    refine ⟨vs, rfl, by simpa [frps_map] using hl, fun j c v' hc hv' => ?_⟩
    rw [frps_map, List.getElem?_map, Option.map_eq_some_iff] at hc
    obtain ⟨c', hc', rfl⟩ := hc
    exact cel_frp hz (hv j c' v' hc' hv')
  | top  => exact Val.of_cel (cel_frp hz (show Cel F β (.top ) x from h))
  | int x0 x1 => exact Val.of_cel (cel_frp hz (show Cel F β (.int x0 x1) x from h))
  | bool x0 => exact Val.of_cel (cel_frp hz (show Cel F β (.bool x0) x from h))
  | str x0 => exact Val.of_cel (cel_frp hz (show Cel F β (.str x0) x from h))
  | sl x0 => exact Val.of_cel (cel_frp hz (show Cel F β (.sl x0) x from h))
  | nils  => exact Val.of_cel (cel_frp hz (show Cel F β (.nils ) x from h))
  | osl x0 x1 x2 x3 => exact Val.of_cel (cel_frp hz (show Cel F β (.osl x0 x1 x2 x3) x from h))
  | optr x0 x1 x2 x3 =>
    exact Val.of_cel (cel_frp (g := g) hz (show Cel F β (.optr x0 x1 x2 x3) x from h))
  | fptr x0 x1 => exact Val.of_cel (cel_frp hz (show Cel F β (.fptr x0 x1) x from h))
  | clo x0 x1 => exact Val.of_cel (cel_frp hz (show Cel F β (.clo x0 x1) x from h))
  | nilf  => exact Val.of_cel (cel_frp hz (show Cel F β (.nilf ) x from h))
  | when x0 x1 => exact Val.of_cel (cel_frp hz (show Cel F β (.when x0 x1) x from h))
  | row x0 x1 x2 => exact Val.of_cel (cel_frp hz (show Cel F β (.row x0 x1 x2) x from h))
  | hole x0 x1 => exact Val.of_cel (cel_frp hz (show Cel F β (.hole x0 x1) x from h))
theorem env_frp {g v : Nat} {z : D} (hz : FrAt F β v z) {d : D} {x : Value} (h : Env F β d x) : Env F β (frp g v z d) x := by
  cases d with
  | top  => exact Env.of_val (val_frp hz (show Val F β (.top ) x from h))
  | int x0 x1 => exact Env.of_val (val_frp hz (show Val F β (.int x0 x1) x from h))
  | bool x0 => exact Env.of_val (val_frp hz (show Val F β (.bool x0) x from h))
  | str x0 => exact Env.of_val (val_frp hz (show Val F β (.str x0) x from h))
  | agg x0 => exact Env.of_val (val_frp hz (show Val F β (.agg x0) x from h))
  | sl x0 => exact Env.of_val (val_frp hz (show Val F β (.sl x0) x from h))
  | nils  => exact Env.of_val (val_frp hz (show Val F β (.nils ) x from h))
  | osl x0 x1 x2 x3 => exact Env.of_val (val_frp hz (show Val F β (.osl x0 x1 x2 x3) x from h))
  | optr x0 x1 x2 x3 => exact Env.of_val (val_frp hz (show Val F β (.optr x0 x1 x2 x3) x from h))
  | fptr x0 x1 => exact Env.of_val (val_frp hz (show Val F β (.fptr x0 x1) x from h))
  | clo x0 x1 => exact Env.of_val (val_frp hz (show Val F β (.clo x0 x1) x from h))
  | nilf  => exact Env.of_val (val_frp hz (show Val F β (.nilf ) x from h))
  | tup x0 => exact Env.of_val (val_frp hz (show Val F β (.tup x0) x from h))
  | row x0 x1 x2 => exact Env.of_val (val_frp hz (show Val F β (.row x0 x1 x2) x from h))
  | hole x0 x1 => exact Env.of_val (val_frp hz (show Val F β (.hole x0 x1) x from h))
  | when p d => exact h

theorem ge_map (f : D → D) (hf : f .top = .top) (e : List (Nat × D)) (o : List (Nat × Obj?)) (n t : Nat) : (S.mk (e.map fun p => (p.1, f p.2)) o n).ge t = f ((S.mk e o n).ge t) := by
  simp only [S.ge]
  induction e with
  | nil => simp [look, hf]
  | cons p e ih =>
    simp only [List.map_cons, look]
    split
    · rfl
    · exact ih

/-- an own slice (its cells may hold slices of their own) as one that a cell alone holds -/
theorem rowAt_own' {φ : Nat → Nat → Nat → Nat → Prop} (hφ : RichOK F β w0.heap.size M σ w φ) {L : Loc} {o : Own} (hok : OwnOK F β w L o) (hvar : o.var = false) (hfz : o.fz = false) {g v n : Nat} {x : Value} (hg : σ.go g = some (v, o)) (hx : Ref F β (.osl g v 0 n) x) (hL : β v = some L) (hn : n ≤ o.es.length)
    (hp : (rich g = true ∧ ∀ e ∈ o.es, ∀ c ∈ cells e, ∀ u n, c ≠ .hole u n) ∨ ∀ e ∈ o.es, plainE e = true) : RowAt F w (fun b => L.b = some b ∨ ∃ i j, φ g i j b) o.s o.ty (o.es.take n) x := by
  obtain ⟨L', A, hL', rfl, hcap, hA, _⟩ := hx
  rw [hL] at hL'; cases hL'
  obtain ⟨e1, e2, e3, e4, e5, e6⟩ := hok
  have hA := hA rfl
  subst hA
  cases hb : L.b with
  | none =>
    rw [hb] at e6
    have hn0 : n = 0 := by omega
    subst hn0
    have hc0 : L.cap - 0 = 0 := by omega
    rw [hc0]
    simp only [Option.map_none, List.take_zero]
    exact .nil _ _ _ e2
  | some b =>
    rw [hb] at e6
    obtain ⟨C, hC, hCs, hcell⟩ := e6
    have hlen : (o.es.take n).length = n := by simp; omega
    have hidx : ∀ (k : Nat) e, (o.es.take n)[k]? = some e → o.es[k]? = some e := by
      intro k e he
      rw [List.getElem?_take] at he
      split at he
      · exact he
      · cases he
    have hx' : ∀ (i j : Nat) e d, (o.es.take n)[i]? = some e → (cells e)[j]? = some d → C[i * o.s + j]? = some ((C[i * o.s + j]?).getD undef) ∧ ((C[i * o.s + j]?).getD undef).oneCell' = true ∧ Fro F d ((C[i * o.s + j]?).getD undef) := by
      intro i j e d he hd
      obtain ⟨y, y1, y2, y3⟩ := hcell i j e d (hidx i e he) hd
      rw [hvar] at y3
      rw [y1]
      exact ⟨rfl, y2, by simpa using y3⟩
    have := RowAt.row (F := F) (w := w) (fun b' => some b = some b' ∨ ∃ i j, φ g i j b') o.s o.ty (o.es.take n) b L.cap C (fun i j => φ g i j) (fun i j => (C[i * o.s + j]?).getD undef) e2 (by rw [hlen]; omega) (by simpa [hvar] using e4) (fun e he => e5 e (List.mem_of_mem_take he)) hC hCs (.inl rfl)
      hx'
      (fun i j e s' ty' es' he hj => by
        rcases hp with ⟨hr, _⟩ | hp
        · exact hφ.row g v o L b C i j e _ s' ty' es' hr hg hfz hL hb hC (hidx i e he) hj (hx' i j e _ he hj).1
        · have := List.all_eq_true.1 (hp e (List.mem_of_getElem? (hidx i e he))) _ (List.mem_of_getElem? hj)
          cases this)
      (fun i j e u n' he hj => by
        rcases hp with ⟨_, hp⟩ | hp
        · exact hp e (List.mem_of_getElem? (hidx i e he)) _ (List.mem_of_getElem? hj) u n' rfl
        · have := List.all_eq_true.1 (hp e (List.mem_of_getElem? (hidx i e he))) _ (List.mem_of_getElem? hj)
          cases this)
      (fun i j b' hb' => ⟨.inr ⟨i, j, hb'⟩, fun e => by subst e; exact hφ.sep g i j _ g v o L hb' hg hfz hL hb⟩) (fun i j i' j' b' h1 h2 => (hφ.dis _ _ _ _ _ _ _ h1 h2).2)
    rw [hlen] at this
    simpa using this

theorem rw_close (h : Sim N w0 F0 M B0 σ F β a w) {g v i off g' v' m : Nat} {og o' : Own} {c : D} (hg : σ.go g = some (v, og)) (hr : rich g = true) (hfz : og.fz = false) (hi : i < og.es.length) (hc : (cells (og.es.getD i .top))[off]? = some c)
    (hh : c = .hole v' m ∨ (c = .osl g' v' 0 m ∧ og.var = true)) (hg' : σ.go g' = some (v', o')) (hfz' : o'.fz = false) (hvar : o'.var = false) (hm : m ≤ o'.es.length) (hp : (rich g' = true ∧ ∀ e ∈ o'.es, ∀ c ∈ cells e, ∀ u n, c ≠ .hole u n) ∨ ∀ e ∈ o'.es, plainE e = true) (hne : g ≠ g') :
    Sim N w0 F0 M B0 ⟨σ.e, (g, some (v, { og with es := og.es.set i (setE (og.es.getD i .top) off [.row o'.s o'.ty (o'.es.take m)]) })) :: (g', none) :: σ.o, σ.n⟩ F β a w := by
  obtain ⟨φ, hφ⟩ := h.rich
  obtain ⟨L, hL, _, hk⟩ := h.own g v og hg
  obtain ⟨e1, e2, e3, e4, e5, e6⟩ := hk hfz
  have hget : og.es[i]? = some (og.es.getD i .top) := by simp [hi]
  have hoff : off < (cells (og.es.getD i .top)).length := (List.getElem?_eq_some_iff.1 hc).1
  cases hb : L.b with
  | none =>
    rw [hb] at e6
    have : og.es.length ≤ L.cap := e3
    omega
  | some b =>
  rw [hb] at e6
  obtain ⟨C, hC, hCs, hcell⟩ := e6
  obtain ⟨x, x1, x2, x3⟩ := hcell i off _ _ hget hc
  obtain ⟨L', hL', _, hk'⟩ := h.own g' v' o' hg'
  have hok' := hk' hfz'
  have hx : Ref F β (.osl g' v' 0 m) x := by
    rcases hh with rfl | ⟨rfl, hv⟩
    · exact hφ.hole g v og L b C i off _ x v' m hr hg hfz hL hb hC hget hc x1
    · rw [if_pos hv] at x3; exact x3
  have hrat := rowAt_own' hφ hok' hvar hfz' hg' hx hL' hm hp
  obtain ⟨on, hon⟩ : ∃ on : Own, on = { og with es := og.es.set i (setE (og.es.getD i .top) off [.row o'.s o'.ty (o'.es.take m)]) } := ⟨_, rfl⟩
  obtain ⟨og1, og2, og3, og4⟩ : on.fz = false ∧ on.var = og.var ∧ on.s = og.s ∧ on.ty = og.ty := by subst hon; exact ⟨hfz, rfl, rfl, rfl⟩
  have hogc : ∀ (i' j' : Nat) e d, on.es[i']? = some e → (cells e)[j']? = some d → (i' = i ∧ j' = off ∧ d = .row o'.s o'.ty (o'.es.take m)) ∨ (¬ (i' = i ∧ j' = off) ∧ ∃ e', og.es[i']? = some e' ∧ (cells e')[j']? = some d) := by
    intro i' j' e d he hd
    subst hon
    simp only at he
    by_cases hii : i' = i
    · subst hii
      rw [List.getElem?_set_self hi] at he
      cases he
      obtain ⟨_, q2⟩ := setE_one (d := .row o'.s o'.ty (o'.es.take m)) hoff rfl j'
      rw [q2] at hd
      by_cases hj : j' = off
      · rw [if_pos hj] at hd; cases hd
        exact .inl ⟨rfl, hj, rfl⟩
      · rw [if_neg hj] at hd
        exact .inr ⟨fun e => hj e.2, _, hget, hd⟩
    · rw [List.getElem?_set_ne (fun e => hii e.symm)] at he
      exact .inr ⟨fun e => hii e.1, e, he, hd⟩
  have honok : OwnOK F β w L on := by
    refine ⟨by rw [og3]; exact e1, by rw [og3]; exact e2, by subst hon; simpa using e3, by rw [og2]; exact e4, fun e he => ?_, ?_⟩
    · subst hon
      simp only at he ⊢
      rcases List.mem_or_eq_of_mem_set he with hm' | hm'
      · exact e5 e hm'
      · subst hm'
        rw [(setE_one (d := .row o'.s o'.ty (o'.es.take m)) hoff rfl 0).1]
        exact e5 _ (List.mem_of_getElem? hget)
    · rw [hb]
      refine ⟨C, by rw [og4]; exact hC, by rw [og3]; exact hCs, fun i' j' e d he hd => ?_⟩
      rw [og3, og2]
      rcases hogc i' j' e d he hd with ⟨rfl, rfl, rfl⟩ | ⟨_, e', k1, k2⟩
      · refine ⟨x, x1, x2, ?_⟩
        split
        · exact Cel.of_fro (.row _ _ _ _)
        · exact .row _ _ _ _
      · exact hcell i' j' e' d k1 k2
  rw [← hon]
  have hgo : ∀ k u q, (S.mk σ.e ((g, some (v, on)) :: (g', none) :: σ.o) σ.n).go k = some (u, q) → (k = g ∧ u = v ∧ q = on) ∨ (k ≠ g ∧ k ≠ g' ∧ σ.go k = some (u, q)) := by
    intro k u q hk
    rw [go_cons] at hk
    split at hk
    · rename_i e; cases hk; exact .inl ⟨e, rfl, rfl⟩
    · rename_i n1
      rw [go_cons] at hk
      split at hk
      · cases hk
      · rename_i n2; exact .inr ⟨n1, n2, hk⟩
  refine h.change (row := fun x => x = b) rfl rfl rfl (Nat.le_refl _) (fun _ _ _ => rfl) ?_ (Fsub.refl _) (fun _ _ _ _ => rfl) h.frz h.fin (Bsub.refl _) h.size h.defers h.env ?_ ?_ ?_
  · rintro b' rfl
    exact (h.sep g v og L b' hg hfz hL hb).2.2.imp id And.left
  · intro k u q hk
    rcases hgo k u q hk with ⟨rfl, rfl, rfl⟩ | ⟨n1, n2, hk⟩
    · refine .inr ⟨L, hL, og1, honok, fun b' hb' => ?_⟩
      obtain ⟨s1, s2, s3⟩ := h.sep k u og L b' hg hfz hL hb'
      rw [og2]
      rw [hb] at hb'; cases hb'
      exact ⟨s1, s2, s3, .inl rfl⟩
    · refine .inl ⟨hk, fun L1 b1 hf hL1 hb1 e => ?_⟩
      subst e
      exact n1 (h.dist k g u v q og L1 L b1 hk hg hf hfz hL1 hL hb1 hb)
  · intro g1 g2 v1 v2 o1 o2 L1 L2 b' hg1 hg2 hf1 hf2 hL1 hL2 hb1 hb2 _
    have key : ∀ k u q, (S.mk σ.e ((g, some (v, on)) :: (g', none) :: σ.o) σ.n).go k = some (u, q) → ∃ q', σ.go k = some (u, q') ∧ q'.fz = q.fz := by
      intro k u q hk
      rcases hgo k u q hk with ⟨rfl, rfl, rfl⟩ | ⟨_, _, hk⟩
      · exact ⟨og, hg, by rw [og1, hfz]⟩
      · exact ⟨q, hk, rfl⟩
    obtain ⟨p1, q1, r1⟩ := key _ _ _ hg1
    obtain ⟨p2, q2, r2⟩ := key _ _ _ hg2
    exact h.dist g1 g2 v1 v2 p1 p2 L1 L2 b' q1 q2 (r1.trans hf1) (r2.trans hf2) hL1 hL2 hb1 hb2
  · intro _ _
    let K : Nat → Prop := fun b' => L'.b = some b' ∨ ∃ i j, φ g' i j b'
    let φ' : Nat → Nat → Nat → Nat → Prop := fun g1 i1 j1 b' => (g1 = g ∧ i1 = i ∧ j1 = off ∧ K b') ∨ (¬ (g1 = g ∧ i1 = i ∧ j1 = off) ∧ g1 ≠ g' ∧ φ g1 i1 j1 b')
    have hKs : ∀ b' k u q L1, K b' → k ≠ g' → σ.go k = some (u, q) → q.fz = false → β u = some L1 → L1.b ≠ some b' := by
      rintro b' k u q L1 (hK | ⟨i1, j1, hK⟩) hk hgk hf hL1 hb1
      · exact hk (h.dist k g' u v' q o' L1 L' b' hgk hg' hf hfz' hL1 hL' hb1 hK)
      · exact hφ.sep g' i1 j1 b' k u q L1 hK hgk hf hL1 hb1
    have hKφ : ∀ b' g1 i1 j1, K b' → g1 ≠ g' → ¬ φ g1 i1 j1 b' := by
      rintro b' g1 i1 j1 (hK | ⟨i2, j2, hK⟩) hk h1
      · exact hφ.sep g1 i1 j1 b' g' v' o' L' h1 hg' hfz' hL' hK
      · exact hk (hφ.dis _ _ _ _ _ _ _ h1 hK).1
    refine ⟨φ', ?_, ?_, ?_, ?_, ?_, ?_, ?_⟩
    · intro k u q L1 b1 C1 i' j' e y s ty es hr' hk hf' hL1 hb1 hC1 he hj hy
      rcases hgo k u q hk with ⟨rfl, rfl, rfl⟩ | ⟨n1, n2, hk⟩
      · rw [hL] at hL1; cases hL1
        rw [hb] at hb1; cases hb1
        rw [og4] at hC1; rw [og3] at hy
        rcases hogc i' j' e _ he hj with ⟨rfl, rfl, z⟩ | ⟨z0, e', z1, z2⟩
        · cases z
          rw [hC] at hC1; cases hC1
          rw [x1] at hy; cases hy
          exact hrat.keep (Fsub.refl _) (fun _ _ => rfl) (fun b' hb' => .inl ⟨rfl, rfl, rfl, hb'⟩)
        · exact (hφ.row k u og _ b C1 i' j' e' y s ty es hr' hg hfz hL hb hC1 z1 z2 hy).keep (Fsub.refl _) (fun _ _ => rfl) (fun b' hb' => .inr ⟨fun e => z0 e.2, hne, hb'⟩)
      · exact (hφ.row k u q L1 b1 C1 i' j' e y s ty es hr' hk hf' hL1 hb1 hC1 he hj hy).keep (Fsub.refl _) (fun _ _ => rfl) (fun b' hb' => .inr ⟨fun e => n1 e.1, n2, hb'⟩)
    · intro k u q L1 b1 C1 i' j' e y u' n' hr' hk hf' hL1 hb1 hC1 he hj hy
      rcases hgo k u q hk with ⟨rfl, rfl, rfl⟩ | ⟨n1, n2, hk⟩
      · rw [hL] at hL1; cases hL1
        rw [hb] at hb1; cases hb1
        rw [og4] at hC1; rw [og3] at hy
        rcases hogc i' j' e _ he hj with ⟨rfl, rfl, z⟩ | ⟨z0, e', z1, z2⟩
        · cases z
        · exact hφ.hole k u og _ b C1 i' j' e' y u' n' hr' hg hfz hL hb hC1 z1 z2 hy
      · exact hφ.hole k u q L1 b1 C1 i' j' e y u' n' hr' hk hf' hL1 hb1 hC1 he hj hy
    · rintro g1 i1 j1 b' (⟨_, _, _, hK | ⟨i2, j2, hK⟩⟩ | ⟨_, _, hb'⟩)
      · exact (h.sep g' v' o' L' b' hg' hfz' hL' hK).1
      · exact hφ.none_ _ _ _ _ hK
      · exact hφ.none_ _ _ _ _ hb'
    · rintro g1 i1 j1 b' (⟨_, _, _, hK | ⟨i2, j2, hK⟩⟩ | ⟨_, _, hb'⟩)
      · exact (h.sep g' v' o' L' b' hg' hfz' hL' hK).2.1
      · exact hφ.lt _ _ _ _ hK
      · exact hφ.lt _ _ _ _ hb'
    · rintro g1 i1 j1 b' (⟨_, _, _, hK | ⟨i2, j2, hK⟩⟩ | ⟨_, _, hb'⟩)
      · exact (h.sep g' v' o' L' b' hg' hfz' hL' hK).2.2.imp id And.left
      · exact hφ.new _ _ _ _ hK
      · exact hφ.new _ _ _ _ hb'
    · intro g1 i1 j1 b' k u q L1 hb' hk hf hL1 hb1
      rcases hgo k u q hk with ⟨rfl, rfl, rfl⟩ | ⟨n1, n2, hk⟩
      · rcases hb' with ⟨_, _, _, hK⟩ | ⟨_, _, hb'⟩
        · exact hKs b' k u og L1 hK hne hg hfz hL1 hb1
        · exact hφ.sep g1 i1 j1 b' k u og L1 hb' hg hfz hL1 hb1
      · rcases hb' with ⟨_, _, _, hK⟩ | ⟨_, _, hb'⟩
        · exact hKs b' k u q L1 hK n2 hk hf hL1 hb1
        · exact hφ.sep g1 i1 j1 b' k u q L1 hb' hk hf hL1 hb1
    · rintro g1 i1 j1 g2 i2 j2 b' (⟨rfl, rfl, rfl, hK⟩ | ⟨n1, m1, h1⟩) (⟨rfl, rfl, rfl, hK'⟩ | ⟨n2, m2, h2⟩)
      · exact ⟨rfl, rfl, rfl⟩
      · exact (hKφ b' g2 i2 j2 hK m2 h2).elim
      · exact (hKφ b' g1 i1 j1 hK' m1 h1).elim
      · exact hφ.dis _ _ _ _ _ _ _ h1 h2

end
end Go.Dw
