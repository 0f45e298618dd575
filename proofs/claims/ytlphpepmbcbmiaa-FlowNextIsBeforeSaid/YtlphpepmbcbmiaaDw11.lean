/-
  THE LAYER Dw, PART 11: what is meant by a function's 'Spec' ('SpecOk'); calls.
-/
import Derived.Test.YtlphpepmbcbmiaaDw10
namespace Go.Dw

def noB : Bt := fun _ => none

/-- a variable of the caller's own, by its block -/
def varAt (F : Fz) (w : World) (b s ty : Nat) (d : D) : Prop := OwnOK F noB w ⟨some b, 1, s⟩ ⟨false, true, s, ty, [d]⟩

/-- a variable that is handed over: its block, cells, type, and the blocks that belong to each of its cells -/
structure Hd where
  b : Nat
  s : Nat
  ty : Nat
  φ : Nat → Nat → Prop
def Hd.own (m : Hd) (b : Nat) : Prop := b = m.b ∨ ∃ j, m.φ j b
def Apart (m m' : Hd) : Prop := ∀ b, m.own b → ¬ m'.own b
structure HdOk (F : Fz) (w : World) (m : Hd) (d : D) : Prop where
  var : varAt F w m.b m.s m.ty d
  none_ : ∀ i, F m.b i = none
  lt : m.b < w.heap.size
  fno : ∀ j b, m.φ j b → ∀ k, F b k = none
  flt : ∀ j b, m.φ j b → b < w.heap.size
  fne : ∀ j b, m.φ j b → b ≠ m.b
  dis : ∀ j j' b, m.φ j b → m.φ j' b → j = j'
  row : ∀ C (j : Nat) x s ty es, w.heap[m.b]? = some (.cells C m.ty (0, 0)) → (cells d)[j]? = some (.row s ty es) → C[j]? = some x → RowAt F w (m.φ j) s ty es x
  hole : ∀ (j u n : Nat), (cells d)[j]? ≠ some (.hole u n)

/-- arguments: data, and pointers to variables that are handed over -/
inductive CapsOk (F : Fz) (w : World) (ptr : List (Nat × (Nat × Nat))) : Nat → List D → List Value → List Hd → Prop
  | nil (j : Nat) : CapsOk F w ptr j [] [] []
  | val (j : Nat) (d : D) (ds : List D) (x : Value) (xs : List Value) (M : List Hd) (hp : look ptr j = none) (h : Fro F d x) (hr : CapsOk F w ptr (j + 1) ds xs M) : CapsOk F w ptr j (d :: ds) (x :: xs) M
  | ptr (j : Nat) (d : D) (ds : List D) (xs : List Value) (M : List Hd) (m : Hd) (hp : look ptr j = some (m.s, m.ty)) (h : HdOk F w m d)
      (hM : ∀ m' ∈ M, Apart m m') (hr : CapsOk F w ptr (j + 1) ds xs M) : CapsOk F w ptr j (d :: ds) (.pointer (some ⟨m.b, 0, none⟩) :: xs) (m :: M)
inductive ArgsOk (F : Fz) (w : World) (ptr : List (Nat × (Nat × Nat))) : Nat → List D → List Value → List Hd → Prop
  | nil (j : Nat) : ArgsOk F w ptr j [] [] []
  | val (j : Nat) (d : D) (ds : List D) (x : Value) (xs : List Value) (M : List Hd) (hp : look ptr j = none) (hn : ∀ f caps, d ≠ .clo f caps) (h : Fro F d x) (hr : ArgsOk F w ptr (j + 1) ds xs M) : ArgsOk F w ptr j (d :: ds) (x :: xs) M
  | ptr (j : Nat) (d : D) (ds : List D) (xs : List Value) (M : List Hd) (m : Hd) (hp : look ptr j = some (m.s, m.ty)) (h : HdOk F w m d)
      (hM : ∀ m' ∈ M, Apart m m') (hr : ArgsOk F w ptr (j + 1) ds xs M) : ArgsOk F w ptr j (d :: ds) (.pointer (some ⟨m.b, 0, none⟩) :: xs) (m :: M)
  | clo (j f : Nat) (caps : List D) (vs : List Value) (ds : List D) (xs : List Value) (M1 M2 : List Hd) (hp : look ptr j = none) (hc : CapsOk F w ptr (64 * (j + 1)) caps vs M1)
      (hM : ∀ m ∈ M1, ∀ m' ∈ M2, Apart m m') (hr : ArgsOk F w ptr (j + 1) ds xs M2) : ArgsOk F w ptr j (.clo f caps :: ds) (.func (.func f) #[] vs.toArray :: xs) (M1 ++ M2)

/-- what the variables that were handed over hold in the end. n0: the size of memory at the call -/
structure BackOk (F : Fz) (w : World) (n0 : Nat) (M : List Hd) (effs : List D) (ψ : Nat → Nat → Nat → Prop) : Prop where
  ok : ∀ (k : Nat) m, M[k]? = some m → HdOk F w ⟨m.b, m.s, m.ty, ψ k⟩ (effs.getD k .top)
  lt : ∀ k j b, ψ k j b → k < M.length
  from_ : ∀ k j b, ψ k j b → n0 ≤ b ∨ ∃ m ∈ M, m.own b
  dis : ∀ k j k' j' b, ψ k j b → ψ k' j' b → k = k'
  ne : ∀ k j b m, ψ k j b → m ∈ M → b ≠ m.b

def ResOk (w : World) (F' : Fz) (w' : World) (d : D) (v : Value) (ρ : Nat → Prop) : Kind → Prop
  | .val => Fro F' d v
  | .ground => Fro F' d v
  | .row s ty => ∃ es L, d = .sl es ∧ v = .slice (L.b.map fun b => ⟨b, 0, none⟩) es.length L.cap ∧ OwnOK F' noB w' L ⟨false, false, s, ty, es⟩ ∧ ∀ b, L.b = some b → w.heap.size ≤ b ∧ b < w'.heap.size ∧ (∀ i, F' b i = none) ∧ ρ b
  | .mat s ty => ∃ es L, ∃ φ : Nat → Nat → Nat → Prop, d = .sl es ∧ v = .slice (L.b.map fun b => ⟨b, 0, none⟩) es.length L.cap ∧ OwnOK F' noB w' L ⟨false, false, s, ty, es⟩ ∧ (∀ b, L.b = some b → w.heap.size ≤ b ∧ b < w'.heap.size ∧ (∀ i, F' b i = none) ∧ ρ b) ∧
      (∀ i j b, φ i j b → w.heap.size ≤ b ∧ b < w'.heap.size ∧ (∀ k, F' b k = none) ∧ ρ b ∧ L.b ≠ some b) ∧ (∀ i j i' j' b, φ i j b → φ i' j' b → i = i' ∧ j = j') ∧
      (∀ b C (i j : Nat) e x s' ty' es', L.b = some b → w'.heap[b]? = some (.cells C ty (0, 0)) → es[i]? = some e → (cells e)[j]? = some (.row s' ty' es') → C[i * s + j]? = some x → RowAt F' w' (φ i j) s' ty' es' x) ∧
      (∀ (i j : Nat) e u n, es[i]? = some e → (cells e)[j]? ≠ some (.hole u n))
  | .ptr s ty => ∃ b, v = .pointer (some ⟨b, 0, none⟩) ∧ varAt F' w' b s ty d ∧ w.heap.size ≤ b ∧ b < w'.heap.size ∧ (∀ i, F' b i = none) ∧ ρ b
  | .inpl .. => False
  | .tupPtr q s ty => ∃ (ds : List D) (vs : List Value) (b : Nat), d = .tup ds ∧ v = .tuple vs.toArray ∧ ds.length = vs.length ∧ (∀ (j : Nat) c x, j ≠ q → ds[j]? = some c → vs[j]? = some x → Fro F' c x) ∧
      vs[q]? = some (.pointer (some ⟨b, 0, none⟩)) ∧ varAt F' w' b s ty (ds.getD q .top) ∧ w.heap.size ≤ b ∧ b < w'.heap.size ∧ (∀ i, F' b i = none) ∧ ρ b

/-- the blocks that a call may write -/
def Wr (M : List Hd) (b : Nat) : Prop := ∃ m ∈ M, m.own b
def SpecPost (sp : Spec) (w : World) (F : Fz) (ds : List D) (M : List Hd) (e : Ending) (w' : World) : Prop :=
  ∃ v F' ψ ρ, e = .returned v ∧ Fok F' w' ∧ (∀ b i x, F' b i = some x → b < w'.heap.size) ∧ Stp (Wr M) w F w' F' ∧ ResOk w F' w' (sp.res ds) v ρ sp.kind ∧ BackOk F' w' w.heap.size M (sp.eff ds) ψ ∧ ∀ k j b, ψ k j b → ¬ ρ b

/-- a function with a body of its own -/
def Entered (P : Program) (f : Nat) : Prop := ∃ fn, P.funcs[f]? = some fn ∧ (fn.name == "runtime.NumGoroutine") = false ∧ fn.body.isNone = false

/-- what is meant by a function that writes a slice of ints in place -/
def InplOk (P : Program) (f : Nat) (q : Bool × (List Int → List Int) × (List Int → Nat)) : Prop :=
  (∀ zs, (q.2.1 zs).length = zs.length ∧ q.2.2 zs ≤ zs.length) ∧
  (∀ (w : World) (a : Option Addr) (cap : Nat), Calls P f #[.slice a 0 cap] w fun e w' => e = .returned (if q.1 then .slice a 0 cap else .tuple #[]) ∧ w' = w) ∧
  ∀ (w : World) (b off cap ty : Nat) (C : Array Value) (zs : List Int), 0 < zs.length → zs.length < 4611686018427387904 → zs.length ≤ cap → w.heap[b]? = some (.cells C ty (0, 0)) → (∀ (j : Nat) x, zs[j]? = some x → C[off + j]? = some (.int .i64 x)) →
    Calls P f #[.slice (some ⟨b, off, none⟩) zs.length cap] w fun e w' => e = .returned (if q.1 then .slice (some ⟨b, off, none⟩) (q.2.2 zs) cap else .tuple #[]) ∧ w'.os = w.os ∧ w'.tape = w.tape ∧ w'.output = w.output ∧
      w.heap.size ≤ w'.heap.size ∧ (∀ b', b' < w.heap.size → b' ≠ b → w'.heap[b']? = w.heap[b']?) ∧ ∃ C', w'.heap[b]? = some (.cells C' ty (0, 0)) ∧ C'.size = C.size ∧ (∀ k, (k < off ∨ off + zs.length ≤ k) → C'[k]? = C[k]?) ∧
      ∀ (j : Nat) x, (q.2.1 zs)[j]? = some x → C'[off + j]? = some (.int .i64 x)

/-- WHAT A SPEC SAYS OF A FUNCTION. -/
def SpecOk (P : Program) (f : Nat) (sp : Spec) : Prop :=
  Entered P f ∧ (∀ q, inplOf sp.kind = some q → InplOk P f q) ∧ (inplOf sp.kind = none → ∀ (w : World) (F : Fz) (ds : List D) (vs : List Value) (M : List Hd), Fok F w → (∀ b i x, F b i = some x → b < w.heap.size) → ArgsOk F w sp.ptr 0 ds vs M → sp.pre ds →
    Calls P f vs.toArray w (SpecPost sp w F ds M))

section
variable {N : Nat} {w0 : World} {F0 : Fz} {M : Nat → Prop} {B0 : Bt} {σ : S} {F : Fz} {β : Bt} {a : Act} {w : World}

/-- the contents of a variable made free of references -/
theorem res_cells (h : Sim N w0 F0 M B0 σ F β a w) (e : D) (X : Nat → Option Value) (hX : ∀ (j : Nat) c, (cells e)[j]? = some c → ∃ x, X j = some x ∧ x.oneCell' = true ∧ Cel F β c x) (hc : ((res e).run σ).1) :
    FzList σ ((res e).run σ).2.2 ∧ (cells ((res e).run σ).2.1).length = (cells e).length ∧ ∀ (ws : List (Nat × Obj?)) F', FzList σ ws → (∀ p ∈ ((res e).run σ).2.2, p ∈ ws) → Fsub F F' → Sim N w0 F0 M B0 ⟨σ.e, ws ++ σ.o, σ.n⟩ F' β a w →
      ∀ (j : Nat) c, (cells ((res e).run σ).2.1)[j]? = some c → ∃ x, X j = some x ∧ x.oneCell' = true ∧ Fro F' c x := by
  have one : ∀ d : D, cells d = [d] → res d = resC d → cells e = [d] → e = d → FzList σ ((res e).run σ).2.2 ∧ (cells ((res e).run σ).2.1).length = (cells e).length ∧ ∀ (ws : List (Nat × Obj?)) F', FzList σ ws → (∀ p ∈ ((res e).run σ).2.2, p ∈ ws) → Fsub F F' → Sim N w0 F0 M B0 ⟨σ.e, ws ++ σ.o, σ.n⟩ F' β a w →
      ∀ (j : Nat) c, (cells ((res e).run σ).2.1)[j]? = some c → ∃ x, X j = some x ∧ x.oneCell' = true ∧ Fro F' c x := by
    rintro d h1 h2 h3 rfl
    rw [h2] at hc ⊢
    obtain ⟨x, x1, x2, x3⟩ := hX 0 e (by rw [h3]; rfl)
    obtain ⟨r1, r2⟩ := resC_ok h e x3 hc
    have h4 : cells ((resC e).run σ).2.1 = [((resC e).run σ).2.1] := by
      have : ∀ d : D, ((resC d).run σ).1 → cells ((resC d).run σ).2.1 = [((resC d).run σ).2.1] := by
        intro d hd
        cases d <;> first | exact hd.elim | rfl | skip
        simp only [resC, R.run] at hd ⊢
        split <;> simp_all <;> rfl
      exact this e hc
    refine ⟨r1, by rw [h4, h3]; rfl, fun ws F' q1 q2 q3 q4 j c hj => ?_⟩
    rw [h4] at hj
    rcases j with _ | j
    · simp only [List.getElem?_cons_zero, Option.some.injEq] at hj
      subst hj
      exact ⟨x, x1, x2, r2 ws F' q1 q2 q3 q4⟩
    · simp at hj
  cases e with
  | agg cs =>
    simp only [res, R.run_bind, R.run_pure] at hc ⊢
    simp only [cells] at hX ⊢
    let vs : List Value := (List.range cs.length).map fun j => (X j).getD undef
    have hvs : ∀ (j : Nat) c, cs[j]? = some c → ∃ x, X j = some x ∧ vs[j]? = some x ∧ x.oneCell' = true ∧ Cel F β c x := by
      intro j c hj
      obtain ⟨x, x1, x2, x3⟩ := hX j c hj
      have hlt := (List.getElem?_eq_some_iff.1 hj).1
      exact ⟨x, x1, by simp [vs, hlt, x1], x2, x3⟩
    obtain ⟨r1, r2, r3⟩ := resCs_ok h cs vs (by simp [vs]) (fun j c v hc' hv' => by
      obtain ⟨x, _, x1, _, x3⟩ := hvs j c hc'
      rw [hv'] at x1; cases x1; exact x3) hc
    refine ⟨r1, by rw [r2]; simp [vs], fun ws F' q1 q2 q3 q4 j c hj => ?_⟩
    have hlt : j < cs.length := by have := (List.getElem?_eq_some_iff.1 hj).1; rw [r2] at this; simpa [vs] using this
    obtain ⟨x, x0, x1, x2, _⟩ := hvs j _ (List.getElem?_eq_getElem hlt)
    exact ⟨x, x0, x2, r3 ws F' q1 q2 q3 q4 j c x hj x1⟩
  | _ => exact one _ rfl rfl rfl rfl

/-- what is handed over is as it is made free of references, but for slices of one's own -/
theorem pasC_res {r : Bool} {d : D} (hc : ((pasC r d).run σ).1) : ((resC d).run σ).1 ∧ ((pasC r d).run σ).2 = ((resC d).run σ).2 ∧ (∀ s ty es, d = .row s ty es → r = true) ∧ ∀ u n, d ≠ .hole u n := by
  cases d <;> first | exact ⟨hc, rfl, fun _ _ _ e => (by cases e), fun _ _ e => (by cases e)⟩ | exact hc.elim | skip
  exact ⟨trivial, rfl, fun _ _ _ _ => hc, fun _ _ e => (by cases e)⟩
theorem resC_row {d : D} (hc : ((resC d).run σ).1) : (∀ s ty es, ((resC d).run σ).2.1 = .row s ty es → d = .row s ty es) ∧ ∀ u n, ((resC d).run σ).2.1 = .hole u n → d = .hole u n := by
  cases d <;> first | exact hc.elim | exact ⟨fun _ _ _ e => e, fun _ _ e => e⟩ | exact ⟨fun _ _ _ e => (by cases e), fun _ _ e => (by cases e)⟩ | skip
  simp only [resC, R.run] at hc ⊢
  split at hc
  · exact ⟨fun _ _ _ e => (by cases e), fun _ _ e => (by cases e)⟩
  · exact hc.elim
theorem pasCs_res {r : Bool} : ∀ {cs : List D}, ((pasCs r cs).run σ).1 → ((resCs cs).run σ).1 ∧ ((pasCs r cs).run σ).2 = ((resCs cs).run σ).2 ∧
    ∀ (j : Nat) c, ((resCs cs).run σ).2.1[j]? = some c → (∀ s ty es, c = .row s ty es → r = true ∧ cs[j]? = some c) ∧ ∀ u n, c ≠ .hole u n
  | [], _ => ⟨trivial, rfl, fun j c h => by simp [resCs, R.run] at h⟩
  | d :: cs, hc => by
    simp only [pasCs, R.run_bind, R.run_pure] at hc
    obtain ⟨p1, p2, p3, p4⟩ := pasC_res hc.1
    obtain ⟨q1, q2, q3⟩ := pasCs_res hc.2
    obtain ⟨r1, r2⟩ := resC_row p1
    simp only [pasCs, resCs, R.run_bind, R.run_pure, p2, q2]
    refine ⟨⟨p1, q1⟩, trivial, fun j c h => ?_⟩
    rcases j with _ | j
    · simp only [List.getElem?_cons_zero, Option.some.injEq] at h ⊢
      subst h
      exact ⟨fun s ty es e => ⟨p3 s ty es (r1 s ty es e), by rw [e]; exact r1 s ty es e⟩, fun u n e => p4 u n (r2 u n e)⟩
    · simp only [List.getElem?_cons_succ] at h ⊢
      exact q3 j c h
theorem pas_res {r : Bool} {e : D} (hc : ((pas r e).run σ).1) : ((res e).run σ).1 ∧ ((pas r e).run σ).2 = ((res e).run σ).2 ∧
    ∀ (j : Nat) c, (cells ((res e).run σ).2.1)[j]? = some c → (∀ s ty es, c = .row s ty es → r = true ∧ (cells e)[j]? = some c) ∧ ∀ u n, c ≠ .hole u n := by
  have one : pas r e = pasC r e → res e = resC e → cells e = [e] → (((resC e).run σ).1 → cells ((resC e).run σ).2.1 = [((resC e).run σ).2.1]) → ((res e).run σ).1 ∧ ((pas r e).run σ).2 = ((res e).run σ).2 ∧
    ∀ (j : Nat) c, (cells ((res e).run σ).2.1)[j]? = some c → (∀ s ty es, c = .row s ty es → r = true ∧ (cells e)[j]? = some c) ∧ ∀ u n, c ≠ .hole u n := by
    intro h1 h2 h3 h4
    rw [h1] at hc
    obtain ⟨p1, p2, p3, p4⟩ := pasC_res hc
    obtain ⟨r1, r2⟩ := resC_row p1
    rw [h1, h2, h3, h4 p1]
    refine ⟨p1, p2, fun j c h => ?_⟩
    rcases j with _ | j
    · simp only [List.getElem?_cons_zero, Option.some.injEq] at h ⊢
      subst h
      exact ⟨fun s ty es e => ⟨p3 s ty es (r1 s ty es e), by rw [e]; exact r1 s ty es e⟩, fun u n e => p4 u n (r2 u n e)⟩
    · simp at h
  cases e with
  | agg cs =>
    simp only [pas, R.run_bind, R.run_pure] at hc
    obtain ⟨q1, q2, q3⟩ := pasCs_res hc
    simp only [pas, res, R.run_bind, R.run_pure, q2]
    exact ⟨q1, trivial, q3⟩
  | osl g v i n =>
    refine one rfl rfl rfl fun h => ?_
    simp only [resC, R.run] at h ⊢
    split at h
    · rfl
    · exact h.elim
  | optr => exact hc.elim
  | when => exact hc.elim
  | tup => exact hc.elim
  | _ => exact one rfl rfl rfl fun _ => rfl

/-- the objects that are handed over -/
def PsOk (σ : S) (β : Bt) (φ : Nat → Nat → Nat → Nat → Prop) (ps : List (Nat × Nat × Own)) (Mb : List Hd) : Prop :=
  ps.length = Mb.length ∧ (∀ (k : Nat) g v o, ps[k]? = some (g, v, o) → σ.go g = some (v, o) ∧ o.fz = false ∧ o.var = true ∧ o.es.length = 1 ∧ ∃ L m, β v = some L ∧ L.b = some m.b ∧ L.cap = 1 ∧ Mb[k]? = some m ∧ m.s = o.s ∧ m.ty = o.ty ∧ m.φ = φ g 0) ∧
    (ps.map Prod.fst).Nodup

theorem PsOk.apart (h : Sim N w0 F0 M B0 σ F β a w) {φ : Nat → Nat → Nat → Nat → Prop} (hφ : RichOK F β w0.heap.size M σ w φ) {ps ps' : List (Nat × Nat × Own)} {M1 M2 : List Hd} (h1 : PsOk σ β φ ps M1) (h2 : PsOk σ β φ ps' M2)
    (hd : ps'.all (fun x => ps.all fun y => x.1 != y.1) = true) : (∀ m ∈ M1, ∀ m' ∈ M2, Apart m m') ∧ PsOk σ β φ (ps ++ ps') (M1 ++ M2) := by
  obtain ⟨a1, a2, a3⟩ := h1
  obtain ⟨b1, b2, b3⟩ := h2
  have hne : ∀ p ∈ ps, ∀ q ∈ ps', q.1 ≠ p.1 := by
    intro p hp q hq
    have := List.all_eq_true.1 (List.all_eq_true.1 hd q hq) p hp
    simpa using this
  have at1 : ∀ m ∈ M1, ∃ p ∈ ps, ∃ L, σ.go p.1 = some p.2 ∧ p.2.2.fz = false ∧ β p.2.1 = some L ∧ L.b = some m.b ∧ m.φ = φ p.1 0 := by
    intro m hm
    obtain ⟨k, hk⟩ := List.mem_iff_getElem?.1 hm
    have hlt : k < ps.length := by rw [a1]; exact (List.getElem?_eq_some_iff.1 hk).1
    obtain ⟨⟨g, v, o⟩, hg⟩ : ∃ p, ps[k]? = some p := ⟨_, List.getElem?_eq_getElem hlt⟩
    obtain ⟨q1, q2, _, _, L, m', q4, q5, _, q7, _, _, q8⟩ := a2 k g v o hg
    rw [hk] at q7; cases q7
    exact ⟨_, List.mem_of_getElem? hg, L, q1, q2, q4, q5, q8⟩
  have at2 : ∀ m ∈ M2, ∃ p ∈ ps', ∃ L, σ.go p.1 = some p.2 ∧ p.2.2.fz = false ∧ β p.2.1 = some L ∧ L.b = some m.b ∧ m.φ = φ p.1 0 := by
    intro m hm
    obtain ⟨k, hk⟩ := List.mem_iff_getElem?.1 hm
    have hlt : k < ps'.length := by rw [b1]; exact (List.getElem?_eq_some_iff.1 hk).1
    obtain ⟨⟨g, v, o⟩, hg⟩ : ∃ p, ps'[k]? = some p := ⟨_, List.getElem?_eq_getElem hlt⟩
    obtain ⟨q1, q2, _, _, L, m', q4, q5, _, q7, _, _, q8⟩ := b2 k g v o hg
    rw [hk] at q7; cases q7
    exact ⟨_, List.mem_of_getElem? hg, L, q1, q2, q4, q5, q8⟩
  refine ⟨fun m hm m' hm' b hb hb' => ?_, by simp [a1, b1], fun k g v o hk => ?_, ?_⟩
  · obtain ⟨⟨g, v, o⟩, hp, L, q1, q2, q3, q4, q5⟩ := at1 m hm
    obtain ⟨⟨g', v', o'⟩, hp', L', q1', q2', q3', q4', q5'⟩ := at2 m' hm'
    have hgg : g' ≠ g := hne _ hp _ hp'
    rcases hb with rfl | ⟨j, hj⟩
    · rcases hb' with hb' | ⟨j', hj'⟩
      · rw [← hb'] at q4'
        exact hgg (h.dist g' g v' v o' o L' L _ q1' q1 q2' q2 q3' q3 q4' q4)
      · rw [q5'] at hj'
        exact hφ.sep _ _ _ _ g v o L hj' q1 q2 q3 q4
    · rw [q5] at hj
      rcases hb' with rfl | ⟨j', hj'⟩
      · exact hφ.sep _ _ _ _ g' v' o' L' hj q1' q2' q3' q4'
      · rw [q5'] at hj'
        exact hgg (hφ.dis _ _ _ _ _ _ _ hj' hj).1
  · by_cases hlt : k < ps.length
    · rw [List.getElem?_append_left hlt] at hk
      rw [List.getElem?_append_left (by omega)]
      exact a2 k g v o hk
    · rw [List.getElem?_append_right (by omega)] at hk
      rw [List.getElem?_append_right (by omega), ← a1]
      exact b2 _ g v o hk
  · rw [List.map_append, List.nodup_append]
    refine ⟨a3, b3, fun x hx y hy e => ?_⟩
    obtain ⟨p, hp, rfl⟩ := List.mem_map.1 hx
    obtain ⟨q, hq, rfl⟩ := List.mem_map.1 hy
    exact hne p hp q hq e.symm

/-- a pointer to an own variable as an argument -/
theorem ptrArg_ok (h : Sim N w0 F0 M B0 σ F β a w) {φ : Nat → Nat → Nat → Nat → Prop} {s ty : Nat} {d : D} {x : Value} (hx : Val F β d x) (hc : ((ptrArg s ty d).run σ).1) :
    FzList σ ((ptrArg s ty d).run σ).2.2.1 ∧ ∃ m : Hd, m.s = s ∧ m.ty = ty ∧ x = .pointer (some ⟨m.b, 0, none⟩) ∧ PsOk σ β φ ((ptrArg s ty d).run σ).2.2.2 [m] ∧
      ∀ (ws : List (Nat × Obj?)) F', FzList σ ws → (∀ p ∈ ((ptrArg s ty d).run σ).2.2.1, p ∈ ws) → Fsub F F' → Sim N w0 F0 M B0 ⟨σ.e, ws ++ σ.o, σ.n⟩ F' β a w → RichOK F' β w0.heap.size M ⟨σ.e, ws ++ σ.o, σ.n⟩ w φ → HdOk F' w m ((ptrArg s ty d).run σ).2.1 := by
  cases d <;> try exact hc.elim
  case optr g v i off =>
    simp only [ptrArg, R.run] at hc ⊢
    cases hg : σ.go g with
    | none => rw [hg] at hc; exact hc.elim
    | some p =>
      obtain ⟨v', o⟩ := p
      rw [hg] at hc
      simp only [R.run_bind, R.run_pure] at hc ⊢
      obtain ⟨⟨rfl, rfl, rfl, hfz, hvar, hlen, rfl, rfl⟩, hc1⟩ := hc
      obtain ⟨L, b, hL, hb, rfl⟩ := hx
      obtain ⟨L', hL', _, hk⟩ := h.own g v o hg
      rw [hL] at hL'; cases hL'
      obtain ⟨e1, e2, e3, e4, e5, e6⟩ := hk hfz
      rw [hb] at e6
      obtain ⟨C, hC, hCs, hcell⟩ := e6
      obtain ⟨e, he⟩ : ∃ e, o.es = [e] := List.length_eq_one_iff.1 hlen
      have hge : o.es.getD 0 .top = e := by simp [he]
      rw [hge] at hc1 ⊢
      obtain ⟨hc1, hpe, hpr⟩ := pas_res hc1
      have hpe' : (pas (rich g) e).run σ = (((pas (rich g) e).run σ).1, ((res e).run σ).2) := Prod.ext rfl hpe
      rw [hpe']
      dsimp only
      have hX : ∀ (j : Nat) c, (cells e)[j]? = some c → ∃ x, C[j]? = some x ∧ x.oneCell' = true ∧ Cel F β c x := by
        intro j c hj
        obtain ⟨x, x1, x2, x3⟩ := hcell 0 j e c (by simp [he]) hj
        rw [hvar] at x3
        exact ⟨x, by simpa using x1, x2, by simpa using x3⟩
      obtain ⟨f1, l1, r1⟩ := res_cells h e (fun j => C[j]?) hX hc1
      have hcap : L.cap = 1 := by
        rw [hvar] at e4
        simp only [if_true] at e4
        omega
      refine ⟨f1, ⟨b, o.s, o.ty, φ g 0⟩, rfl, rfl, by simp, ⟨rfl, fun k g' v' o' hk' => ?_, by simp⟩, fun ws F' q1 q2 q3 q4 hφ => ?_⟩
      · rcases k with _ | k
        · simp only [List.getElem?_cons_zero, Option.some.injEq, Prod.mk.injEq] at hk'
          obtain ⟨rfl, rfl, rfl⟩ := hk'
          exact ⟨hg, hfz, hvar, hlen, L, _, hL, hb, hcap, rfl, rfl, rfl, rfl⟩
        · simp at hk'
      · obtain ⟨s1, s2, _⟩ := h.sep g v o L b hg hfz hL hb
        -- after the freeze the object is as it was
        have hgo : (S.mk σ.e (ws ++ σ.o) σ.n).go g = some (v, o) := by
          rcases q1.go g with ⟨v2, o2, k1, k2, _, _⟩ | ⟨_, k2⟩
          · rw [hg] at k1; cases k1; rw [hvar] at k2; cases k2
          · rw [k2]; exact hg
        obtain ⟨s1', _, _⟩ := q4.sep g v o L b hgo hfz hL hb
        refine ⟨⟨rfl, e2, by simp, by simp, fun q hq => ?_, C, hC, by rw [hCs, hcap], fun i j c' c hc' hj => ?_⟩, s1', s2, hφ.none_ g 0, hφ.lt g 0, fun j b' hb' e' => ?_, fun j j' b' h1 h2 => (hφ.dis _ _ _ _ _ _ _ h1 h2).2.2, fun C' j x s ty es hC' hj hx => ?_, fun j u n hj => (hpr j _ hj).2 u n rfl⟩
        · simp only [List.mem_singleton] at hq
          subst hq
          rw [l1]
          exact e5 e (by simp [he])
        · rcases i with _ | i
          · simp only [List.getElem?_cons_zero, Option.some.injEq] at hc'
            subst hc'
            obtain ⟨x, x1, x2, x3⟩ := r1 ws F' q1 q2 q3 q4 j c hj
            exact ⟨x, by simpa using x1, x2, by simpa using Cel.of_fro x3⟩
          · simp at hc'
        · simp only at e'
          subst e'
          exact hφ.sep g 0 j _ g v o L hb' hgo hfz hL hb
        · obtain ⟨z1, z2⟩ := (hpr j _ hj).1 s ty es rfl
          exact hφ.row g v o L b C' 0 j e x s ty es z1 hgo hfz hL hb hC' (by simp [he]) z2 (by simpa using hx)

/-- an argument that is no closure -/
theorem plainArg_ok (h : Sim N w0 F0 M B0 σ F β a w) {φ : Nat → Nat → Nat → Nat → Prop} {ptr : List (Nat × (Nat × Nat))} {d : D} {x : Value} {j : Nat} (hx : Val F β d x) (hc : ((plainArg ptr j d).run σ).1) :
    FzList σ ((plainArg ptr j d).run σ).2.2.1 ∧ ((look ptr j = none ∧ ((plainArg ptr j d).run σ).2.2.2 = [] ∧ ((∀ f caps, d ≠ .clo f caps) → ∀ f caps, ((plainArg ptr j d).run σ).2.1 ≠ .clo f caps) ∧
        ∀ (ws : List (Nat × Obj?)) F', FzList σ ws → (∀ p ∈ ((plainArg ptr j d).run σ).2.2.1, p ∈ ws) → Fsub F F' → Sim N w0 F0 M B0 ⟨σ.e, ws ++ σ.o, σ.n⟩ F' β a w → Fro F' ((plainArg ptr j d).run σ).2.1 x) ∨
      ∃ m : Hd, look ptr j = some (m.s, m.ty) ∧ x = .pointer (some ⟨m.b, 0, none⟩) ∧ PsOk σ β φ ((plainArg ptr j d).run σ).2.2.2 [m] ∧
        ∀ (ws : List (Nat × Obj?)) F', FzList σ ws → (∀ p ∈ ((plainArg ptr j d).run σ).2.2.1, p ∈ ws) → Fsub F F' → Sim N w0 F0 M B0 ⟨σ.e, ws ++ σ.o, σ.n⟩ F' β a w → RichOK F' β w0.heap.size M ⟨σ.e, ws ++ σ.o, σ.n⟩ w φ → HdOk F' w m ((plainArg ptr j d).run σ).2.1) := by
  unfold plainArg at hc ⊢
  cases hp : look ptr j with
  | none =>
    simp only [hp, R.run_bind, R.run_pure] at hc ⊢
    obtain ⟨f1, r1⟩ := res_ok h d hx hc
    refine ⟨f1, .inl ⟨trivial, trivial, fun hn f caps => ?_, r1⟩⟩
    cases d with
    | agg cs => simp only [res, R.run_bind, R.run_pure]; exact fun e => (by cases e)
    | osl g v i n =>
      simp only [res, resC, R.run] at hc ⊢
      split at hc
      · exact fun e => (by cases e)
      · exact hc.elim
    | clo f caps => exact absurd rfl (hn _ _)
    | optr => exact hc.elim
    | when => exact hc.elim
    | tup => exact hc.elim
    | _ => exact fun e => (by cases e)
  | some st =>
    obtain ⟨s, ty⟩ := st
    simp only [hp] at hc ⊢
    obtain ⟨f1, m, rfl, rfl, rfl, p1, r1⟩ := ptrArg_ok (φ := φ) h hx hc
    exact ⟨f1, .inr ⟨m, rfl, rfl, p1, r1⟩⟩

/-- what a closure holds -/
theorem callCaps_ok (h : Sim N w0 F0 M B0 σ F β a w) {φ : Nat → Nat → Nat → Nat → Prop} (hφ0 : RichOK F β w0.heap.size M σ w φ) {ptr : List (Nat × (Nat × Nat))} : ∀ (ds : List D) (xs : List Value) (j : Nat), ds.length = xs.length → (∀ (q : Nat) d x, ds[q]? = some d → xs[q]? = some x → Val F β d x) →
    ((callCaps ptr j ds).run σ).1 →
    FzList σ ((callCaps ptr j ds).run σ).2.2.1 ∧ ∃ Mb, PsOk σ β φ ((callCaps ptr j ds).run σ).2.2.2 Mb ∧
      ∀ (ws : List (Nat × Obj?)) F', FzList σ ws → (∀ p ∈ ((callCaps ptr j ds).run σ).2.2.1, p ∈ ws) → Fsub F F' → Sim N w0 F0 M B0 ⟨σ.e, ws ++ σ.o, σ.n⟩ F' β a w → RichOK F' β w0.heap.size M ⟨σ.e, ws ++ σ.o, σ.n⟩ w φ →
        CapsOk F' w ptr j ((callCaps ptr j ds).run σ).2.1 xs Mb
  | [], [], j, _, _, _ => ⟨FzList.nil σ, [], ⟨rfl, fun k g v o hk => by simp [callCaps, R.run] at hk, by simp [callCaps, R.run]⟩, fun _ _ _ _ _ _ _ => .nil j⟩
  | [], _ :: _, _, hl, _, _ => by simp at hl
  | _ :: _, [], _, hl, _, _ => by simp at hl
  | d :: ds, x :: xs, j, hl, hv, hc => by
    have hd := hv 0 d x rfl rfl
    have hv' : ∀ (q : Nat) d x, ds[q]? = some d → xs[q]? = some x → Val F β d x := fun q d x h1 h2 => hv (q + 1) d x (by simpa using h1) (by simpa using h2)
    have hl' : ds.length = xs.length := by simpa using hl
    unfold callCaps at hc ⊢
    simp only [R.run_bind, R.run_pure] at hc ⊢
    obtain ⟨c1, c2, c3⟩ := hc
    obtain ⟨f1, k1⟩ := plainArg_ok (φ := φ) h hd c1
    obtain ⟨f2, M2, p2, r2⟩ := callCaps_ok h hφ0 ds xs (j + 1) hl' hv' c2
    rcases k1 with ⟨hp, k1, _, r1⟩ | ⟨m, hp, rfl, p1, r1⟩
    · rw [k1]
      refine ⟨f1.append f2, M2, by simpa using p2, fun ws F' q1 q2 q3 q4 q5 => .val j _ _ x xs M2 hp (r1 ws F' q1 (fun p hp => q2 p (by simp [hp])) q3 q4) (r2 ws F' q1 (fun p hp => q2 p (by simp [hp])) q3 q4 q5)⟩
    · obtain ⟨ap, pp⟩ := PsOk.apart h hφ0 p1 p2 c3
      exact ⟨f1.append f2, [m] ++ M2, pp, fun ws F' q1 q2 q3 q4 q5 => .ptr j _ _ xs M2 m hp (r1 ws F' q1 (fun p hp => q2 p (by simp [hp])) q3 q4 q5) (fun m' hm' => ap m (by simp) m' hm') (r2 ws F' q1 (fun p hp => q2 p (by simp [hp])) q3 q4 q5)⟩

/-- the arguments of a call -/
theorem callArgs_ok (h : Sim N w0 F0 M B0 σ F β a w) {φ : Nat → Nat → Nat → Nat → Prop} (hφ0 : RichOK F β w0.heap.size M σ w φ) {ptr : List (Nat × (Nat × Nat))} : ∀ (ds : List D) (xs : List Value) (j : Nat), ds.length = xs.length → (∀ (q : Nat) d x, ds[q]? = some d → xs[q]? = some x → Val F β d x) →
    ((callArgs ptr j ds).run σ).1 →
    FzList σ ((callArgs ptr j ds).run σ).2.2.1 ∧ ∃ Mb, PsOk σ β φ ((callArgs ptr j ds).run σ).2.2.2 Mb ∧
      ∀ (ws : List (Nat × Obj?)) F', FzList σ ws → (∀ p ∈ ((callArgs ptr j ds).run σ).2.2.1, p ∈ ws) → Fsub F F' → Sim N w0 F0 M B0 ⟨σ.e, ws ++ σ.o, σ.n⟩ F' β a w → RichOK F' β w0.heap.size M ⟨σ.e, ws ++ σ.o, σ.n⟩ w φ →
        ArgsOk F' w ptr j ((callArgs ptr j ds).run σ).2.1 xs Mb
  | [], [], j, _, _, _ => ⟨FzList.nil σ, [], ⟨rfl, fun k g v o hk => by simp [callArgs, R.run] at hk, by simp [callArgs, R.run]⟩, fun _ _ _ _ _ _ _ => .nil j⟩
  | [], _ :: _, _, hl, _, _ => by simp at hl
  | _ :: _, [], _, hl, _, _ => by simp at hl
  | d :: ds, x :: xs, j, hl, hv, hc => by
    have hd := hv 0 d x rfl rfl
    have hv' : ∀ (q : Nat) d x, ds[q]? = some d → xs[q]? = some x → Val F β d x := fun q d x h1 h2 => hv (q + 1) d x (by simpa using h1) (by simpa using h2)
    have hl' : ds.length = xs.length := by simpa using hl
    unfold callArgs at hc ⊢
    simp only [R.run_bind, R.run_pure] at hc ⊢
    obtain ⟨c1, c2, c3⟩ := hc
    obtain ⟨f2, M2, p2, r2⟩ := callArgs_ok h hφ0 ds xs (j + 1) hl' hv' c2
    by_cases hcl : ∃ f caps, d = .clo f caps
    · obtain ⟨f, caps, rfl⟩ := hcl
      simp only [callArg] at c1 c3 ⊢
      cases hp : look ptr j with
      | some _ => rw [hp] at c1; exact c1.elim
      | none =>
        simp only [hp, R.run_bind, R.run_pure] at c1 c3 ⊢
        obtain ⟨vs, rfl, hl, hv⟩ := hd
        obtain ⟨f1, M1, p1, r1⟩ := callCaps_ok h hφ0 caps vs (64 * (j + 1)) hl (fun q d x h1 h2 => Val.of_cel (Cel.of_ref (hv q d x h1 h2))) c1
        obtain ⟨ap, pp⟩ := PsOk.apart h hφ0 p1 p2 c3
        exact ⟨f1.append f2, M1 ++ M2, pp, fun ws F' q1 q2 q3 q4 q5 => .clo j f _ vs _ xs M1 M2 hp (r1 ws F' q1 (fun p hp => q2 p (by simp [hp])) q3 q4 q5) ap (r2 ws F' q1 (fun p hp => q2 p (by simp [hp])) q3 q4 q5)⟩
    · have hn : ∀ f caps, d ≠ .clo f caps := fun f caps e => hcl ⟨f, caps, e⟩
      have he : callArg ptr j d = plainArg ptr j d := by
        unfold callArg
        split
        · exact absurd rfl (hn _ _)
        · rfl
      rw [he] at c1 c3 ⊢
      obtain ⟨f1, k1⟩ := plainArg_ok (φ := φ) h hd c1
      rcases k1 with ⟨hp, k1, k2, r1⟩ | ⟨m, hp, rfl, p1, r1⟩
      · rw [k1]
        refine ⟨f1.append f2, M2, by simpa using p2, fun ws F' q1 q2 q3 q4 q5 => .val j _ _ x xs M2 hp (k2 hn) (r1 ws F' q1 (fun p hp => q2 p (by simp [hp])) q3 q4) (r2 ws F' q1 (fun p hp => q2 p (by simp [hp])) q3 q4 q5)⟩
      · obtain ⟨ap, pp⟩ := PsOk.apart h hφ0 p1 p2 c3
        exact ⟨f1.append f2, [m] ++ M2, pp, fun ws F' q1 q2 q3 q4 q5 => .ptr j _ _ xs M2 m hp (r1 ws F' q1 (fun p hp => q2 p (by simp [hp])) q3 q4 q5) (fun m' hm' => ap m (by simp) m' hm') (r2 ws F' q1 (fun p hp => q2 p (by simp [hp])) q3 q4 q5)⟩

theorem handBack_look : ∀ (ps : List (Nat × Nat × Own)) (effs : List D) (g : Nat) (y : Obj?), look (handBack ps effs) g = some y → ∃ (k v : Nat) (o : Own), ps[k]? = some (g, v, o) ∧ y = some (v, { o with es := [effs.getD k .top] })
  | [], _, _, _, h => by simp [handBack, look] at h
  | (g', v, o) :: ps, effs, g, y, h => by
    simp only [handBack, look] at h
    split at h
    · rename_i e
      subst e
      cases h
      exact ⟨0, v, o, rfl, by cases effs <;> rfl⟩
    · obtain ⟨k, v', o', h1, h2⟩ := handBack_look ps effs.tail g y h
      refine ⟨k + 1, v', o', by simpa using h1, ?_⟩
      rw [h2]
      cases effs <;> simp

theorem handBack_none : ∀ (ps : List (Nat × Nat × Own)) (effs : List D) (g : Nat), look (handBack ps effs) g = none → ∀ (k v : Nat) (o : Own), ps[k]? ≠ some (g, v, o)
  | [], _, _, _, k, v, o => by simp
  | (g', v, o) :: ps, effs, g, h, k, v', o' => by
    simp only [handBack, look] at h
    split at h
    · cases h
    · rename_i e
      rcases k with _ | k
      · simp only [List.getElem?_cons_zero, ne_eq, Option.some.injEq, Prod.mk.injEq, not_and]
        intro e'; exact absurd e'.symm e
      · simp only [List.getElem?_cons_succ]
        exact handBack_none ps effs.tail g h k v' o'

theorem noB_sub (β : Bt) : Bsub noB β := fun v L h => by cases h

/-- behind a call. 'E': the object that the call made, 'φm': the blocks of its cells -/
theorem call_change (h : Sim N w0 F0 M B0 σ F β a w) {φ : Nat → Nat → Nat → Nat → Prop} (hφ : RichOK F β w0.heap.size M σ w φ) {nv : Nat} (hnv : β nv = none) {ps : List (Nat × Nat × Own)} {Mb : List Hd} (hps : PsOk σ β φ ps Mb) {effs : List D} {w' : World} {F' : Fz}
    (hok : Fok F' w') (hfin : ∀ b i x, F' b i = some x → b < w'.heap.size) (hst : Stp (Wr Mb) w F w' F') {ψ : Nat → Nat → Nat → Prop} (hback : BackOk F' w' w.heap.size Mb effs ψ)
    {E : List (Nat × Obj?)} {β' : Bt} {φm : Nat → Nat → Nat → Prop} (hE : (E = [] ∧ β' = β ∧ ∀ i j b, ¬ φm i j b) ∨ (∃ t o L, E = [(t, some (nv, o))] ∧ β' = upB β nv L ∧ o.fz = false ∧ OwnOK F' noB w' L o ∧ (∀ b, L.b = some b → w.heap.size ≤ b ∧ b < w'.heap.size ∧ (∀ i, F' b i = none) ∧ ∀ k j, ¬ ψ k j b) ∧
      (∀ i j b, φm i j b → w.heap.size ≤ b ∧ b < w'.heap.size ∧ (∀ k, F' b k = none) ∧ (∀ k j, ¬ ψ k j b) ∧ L.b ≠ some b) ∧ (∀ i j i' j' b, φm i j b → φm i' j' b → i = i' ∧ j = j') ∧
      (rich t = true → (∀ b C (i j : Nat) e x s' ty' es', L.b = some b → w'.heap[b]? = some (.cells C o.ty (0, 0)) → o.es[i]? = some e → (cells e)[j]? = some (.row s' ty' es') → C[i * o.s + j]? = some x → RowAt F' w' (φm i j) s' ty' es' x) ∧ ∀ (i j : Nat) e u n, o.es[i]? = some e → (cells e)[j]? ≠ some (.hole u n))))
    {dst : Option Nat} (hd : ∀ t, dst = some t → t < N) {d : D} {v : Value} (hv : Env F' β' d v) (c : Prop) :
    Bsub β β' ∧ (∀ x, x ≠ nv → β' x = β x) ∧ Sim N w0 F0 M B0 (σ.app ⟨c, put1 dst d, E ++ handBack ps effs⟩) F' β' (a.put dst v) w' := by
  have hβ : Bsub β β' := by
    rcases hE with ⟨_, rfl, _⟩ | ⟨t, o, L, _, rfl, _⟩
    · exact Bsub.refl _
    · exact upB_sub L hnv
  have hβ' : ∀ x, x ≠ nv → β' x = β x := by
    rcases hE with ⟨_, rfl, _⟩ | ⟨t, o, L, _, rfl, _⟩
    · exact fun _ _ => rfl
    · exact fun x hx => upB_ne _ _ hx
  obtain ⟨p1, p2, p3⟩ := hps
  have hmem : ∀ m ∈ Mb, ∃ (k g v : Nat) (o : Own) (L : Loc), Mb[k]? = some m ∧ ps[k]? = some (g, v, o) ∧ σ.go g = some (v, o) ∧ o.fz = false ∧ o.var = true ∧ β v = some L ∧ L.b = some m.b ∧ L.cap = 1 ∧ m.s = o.s ∧ m.ty = o.ty ∧ m.φ = φ g 0 := by
    intro m hm
    obtain ⟨k, hk⟩ := List.mem_iff_getElem?.1 hm
    have hlt : k < ps.length := by rw [p1]; exact (List.getElem?_eq_some_iff.1 hk).1
    obtain ⟨⟨g, v, o⟩, hg⟩ : ∃ p, ps[k]? = some p := ⟨_, List.getElem?_eq_getElem hlt⟩
    obtain ⟨q1, q2, q3, _, L, m', q4, q5, q6, q7, q8, q9, q10⟩ := p2 k g v o hg
    rw [hk] at q7
    cases q7
    exact ⟨k, g, v, o, L, hk, hg, q1, q2, q3, q4, q5, q6, q8, q9, q10⟩
  -- the blocks that may have been written
  have hWr : ∀ b, Wr Mb b → b < w.heap.size ∧ (w0.heap.size ≤ b ∨ M b) ∧ (∀ k, F b k = none) := by
    rintro b ⟨m, hm, rfl | ⟨j, hj⟩⟩
    · obtain ⟨k, g, v, o, L, _, _, q1, q2, q3, q4, q5, _⟩ := hmem m hm
      obtain ⟨s1, s2, s3⟩ := h.sep g v o L _ q1 q2 q4 q5
      exact ⟨s2, s3.imp id And.left, s1⟩
    · obtain ⟨k, g, v, o, L, _, _, _, _, _, _, _, _, _, _, q10⟩ := hmem m hm
      rw [q10] at hj
      exact ⟨hφ.lt _ _ _ _ hj, hφ.new _ _ _ _ hj, hφ.none_ _ _ _ _ hj⟩
  have hWrown : ∀ g v o L b, σ.go g = some (v, o) → o.fz = false → β v = some L → L.b = some b → Wr Mb b → ∃ (k : Nat) (v : Nat) (o : Own), ps[k]? = some (g, v, o) := by
    rintro g v o L b hg hf hL hb ⟨m, hm, rfl | ⟨j, hj⟩⟩
    · obtain ⟨k, g2, v2, o2, L2, _, y0, y1, y2, y3, y4, y5, _⟩ := hmem m hm
      have := h.dist g g2 v v2 o o2 L L2 _ hg y1 hf y2 hL y4 hb y5
      subst this
      exact ⟨k, v2, o2, y0⟩
    · obtain ⟨k, g2, v2, o2, L2, _, _, _, _, _, _, _, _, _, _, q10⟩ := hmem m hm
      rw [q10] at hj
      exact (hφ.sep _ _ _ _ g v o L hj hg hf hL hb).elim
  -- what each name holds behind the call
  have hgo : ∀ g v' o', (σ.app ⟨c, put1 dst d, E ++ handBack ps effs⟩).go g = some (v', o') →
      (∃ t o L, E = [(t, some (nv, o))] ∧ β' = upB β nv L ∧ g = t ∧ v' = nv ∧ o' = o ∧ o.fz = false ∧ OwnOK F' noB w' L o ∧ ∀ b, L.b = some b → w.heap.size ≤ b ∧ b < w'.heap.size ∧ (∀ i, F' b i = none) ∧ ∀ k j, ¬ ψ k j b) ∨
      (look E g = none ∧ ∃ (k : Nat) (o : Own) (L : Loc) (m : Hd), ps[k]? = some (g, v', o) ∧ o' = { o with es := [effs.getD k .top] } ∧ σ.go g = some (v', o) ∧ o.fz = false ∧ o.var = true ∧ β v' = some L ∧ L.b = some m.b ∧ L.cap = 1 ∧ Mb[k]? = some m ∧ m.s = o.s ∧ m.ty = o.ty ∧ m.φ = φ g 0) ∨
      (look E g = none ∧ σ.go g = some (v', o') ∧ ∀ (k v : Nat) (o : Own), ps[k]? ≠ some (g, v, o)) := by
    intro g v' o' hg
    rw [S.go_app] at hg
    simp only [look_append] at hg
    cases hEl : look E g with
    | some y =>
      rw [hEl] at hg
      simp only [Option.some_or] at hg
      rcases hE with ⟨rfl, _⟩ | ⟨t, o, L, rfl, k2, k3, k4, k5, _⟩
      · simp [look] at hEl
      · simp only [look] at hEl
        split at hEl
        · cases hEl; cases hg
          exact .inl ⟨_, _, L, rfl, k2, by assumption, rfl, rfl, k3, k4, k5⟩
        · cases hEl
    | none =>
      rw [hEl] at hg
      simp only [Option.none_or] at hg
      cases hH : look (handBack ps effs) g with
      | some y =>
        rw [hH] at hg
        obtain ⟨k, v, o, k1, k2⟩ := handBack_look ps effs g y hH
        subst k2
        simp only [Option.some.injEq, Prod.mk.injEq] at hg
        obtain ⟨rfl, rfl⟩ := hg
        obtain ⟨q1, q2, q3, _, L, m, q4, q5, q6, q7, q8, q9, q10⟩ := p2 k g v o k1
        exact .inr (.inl ⟨rfl, k, o, L, m, k1, rfl, q1, q2, q3, q4, q5, q6, q7, q8, q9, q10⟩)
      | none =>
        rw [hH] at hg
        exact .inr (.inr ⟨rfl, hg, handBack_none ps effs g hH⟩)
  refine ⟨hβ, hβ', ?_⟩
  refine h.change (row := Wr Mb) hst.os hst.tape hst.output hst.size hst.block (fun b hb => (hWr b hb).2.1) hst.sub hst.old hok hfin hβ (by rw [act_size]; exact h.size) (by rw [act_defers]; exact h.defers) (h.env_put hst.sub hβ hd hv) ?_ ?_ ?_
  · intro g v' o' hg
    rcases hgo g v' o' hg with ⟨t, o, L, hE', hβe, rfl, rfl, rfl, k3, k4, k5⟩ | ⟨_, k, o, L, m, k1, rfl, q1, q2, q3, q4, q5, q6, q7, q8, q9, _⟩ | ⟨_, q1, q2⟩
    · refine .inr ⟨L, by rw [hβe]; exact upB_self _ _ _, k3, k4.keep (Fsub.refl _) (noB_sub _) (fun _ _ => rfl), fun b hb => ?_⟩
      obtain ⟨z1, z2, z3, _⟩ := k5 b hb
      exact ⟨z3, z2, .inl (Nat.le_trans h.step.size z1), .inr z1⟩
    · have hz := hback.ok k m q7
      obtain ⟨s1, s2, s3⟩ := h.sep g v' o L m.b q1 q2 q4 q5
      refine .inr ⟨L, hβ _ _ q4, q2, ?_, fun b' hb' => ?_⟩
      · have hLs : L.s = o.s := by
          obtain ⟨L2, e2, _, e3⟩ := h.own g v' o q1
          rw [q4] at e2; cases e2
          exact (e3 q2).1
        have hL : L = ⟨some m.b, 1, m.s⟩ := by cases L; simp_all
        have ho : ({ o with es := [effs.getD k .top] } : Own) = ⟨false, true, m.s, m.ty, [effs.getD k .top]⟩ := by cases o; simp_all
        rw [hL, ho]
        exact OwnOK.keep (Fsub.refl _) (noB_sub _) (fun _ _ => rfl) hz.var
      · rw [q5] at hb'; cases hb'
        exact ⟨hz.none_, Nat.lt_of_lt_of_le s2 hst.size, s3.imp id (fun z => ⟨z.1, .inl q3⟩), .inl ⟨m, List.mem_of_getElem? q7, .inl rfl⟩⟩
    · refine .inl ⟨q1, fun L b hf hL hb hr => ?_⟩
      obtain ⟨k, v2, o2, y0⟩ := hWrown g v' o' L b q1 hf hL hb hr
      exact q2 k v2 o2 y0
  · intro g1 g2 v1 v2 o1 o2 L1 L2 b hg1 hg2 hf1 hf2 hL1 hL2 hb1 hb2 hr
    -- an elder object that holds block b
    have old : ∀ g v o' L, (σ.app ⟨c, put1 dst d, E ++ handBack ps effs⟩).go g = some (v, o') → o'.fz = false → β' v = some L → L.b = some b →
        (∃ t o, E = [(t, some (nv, o))] ∧ g = t ∧ w.heap.size ≤ b) ∨ (b < w.heap.size ∧ ∃ o'' L'', σ.go g = some (v, o'') ∧ o''.fz = false ∧ β v = some L'' ∧ L''.b = some b) := by
      intro g v o' L hg hf hL hb
      rcases hgo g v o' hg with ⟨t, o, L', hE', hβe, rfl, rfl, rfl, k3, k4, k5⟩ | ⟨_, k, o, L', m, k1, rfl, q1, q2, q3, q4, q5, q6, q7, _⟩ | ⟨_, q1, q2⟩
      · rw [hβe, upB_self] at hL; cases hL
        exact .inl ⟨_, _, hE', rfl, (k5 b hb).1⟩
      · have := hβ _ _ q4
        rw [hL] at this; cases this
        exact .inr ⟨(h.sep g v o L b q1 q2 q4 hb).2.1, o, L, q1, q2, q4, hb⟩
      · obtain ⟨L0, e0, _⟩ := h.own g v o' q1
        have := hβ _ _ e0
        rw [hL] at this; cases this
        exact .inr ⟨(h.sep g v o' L b q1 hf e0 hb).2.1, o', L, q1, hf, e0, hb⟩
    rcases old g1 v1 o1 L1 hg1 hf1 hL1 hb1 with ⟨t, o, k1, k2, k3⟩ | ⟨k0, p1', L1', z1, z2, z3, z4⟩
    · rcases old g2 v2 o2 L2 hg2 hf2 hL2 hb2 with ⟨t', o', k1', k2', _⟩ | ⟨k0', _⟩
      · rw [k1] at k1'
        cases k1'
        rw [k2, k2']
      · omega
    · rcases old g2 v2 o2 L2 hg2 hf2 hL2 hb2 with ⟨t', o', k1', k2', k3'⟩ | ⟨_, p2', L2', y1, y2, y3, y4⟩
      · omega
      · exact h.dist g1 g2 v1 v2 p1' p2' L1' L2' b z1 y1 z2 y2 z3 y3 z4 y4
  · intro _ _
    let φ' : Nat → Nat → Nat → Nat → Prop := fun g i j b => (look E g ≠ none ∧ φm i j b) ∨ (look E g = none ∧ ∃ (k v : Nat) (o : Own), ps[k]? = some (g, v, o) ∧ i = 0 ∧ ψ k j b) ∨ (look E g = none ∧ (∀ (k v : Nat) (o : Own), ps[k]? ≠ some (g, v, o)) ∧ φ g i j b)
    have hEne : ∀ g, look E g ≠ none → ∃ o L, E = [(g, some (nv, o))] ∧ β' = upB β nv L ∧ o.fz = false ∧ OwnOK F' noB w' L o ∧ (∀ b, L.b = some b → w.heap.size ≤ b ∧ b < w'.heap.size ∧ (∀ i, F' b i = none) ∧ ∀ k j, ¬ ψ k j b) ∧
        (∀ i j b, φm i j b → w.heap.size ≤ b ∧ b < w'.heap.size ∧ (∀ k, F' b k = none) ∧ (∀ k j, ¬ ψ k j b) ∧ L.b ≠ some b) ∧ (∀ i j i' j' b, φm i j b → φm i' j' b → i = i' ∧ j = j') ∧
        (rich g = true → (∀ b C (i j : Nat) e x s' ty' es', L.b = some b → w'.heap[b]? = some (.cells C o.ty (0, 0)) → o.es[i]? = some e → (cells e)[j]? = some (.row s' ty' es') → C[i * o.s + j]? = some x → RowAt F' w' (φm i j) s' ty' es' x) ∧ ∀ (i j : Nat) e u n, o.es[i]? = some e → (cells e)[j]? ≠ some (.hole u n)) := by
      intro g hg
      rcases hE with ⟨rfl, _⟩ | ⟨t, o, L, rfl, r⟩
      · simp [look] at hg
      · simp only [look] at hg
        split at hg
        · rename_i e; subst e
          exact ⟨o, L, rfl, r⟩
        · exact (hg rfl).elim
    have hold : ∀ g i j b, (∀ (k v : Nat) (o : Own), ps[k]? ≠ some (g, v, o)) → φ g i j b → ¬ Wr Mb b := by
      rintro g i j b hn hb ⟨m, hm, rfl | ⟨j', hj'⟩⟩
      · obtain ⟨k, g2, v2, o2, L2, _, _, y1, y2, y3, y4, y5, _⟩ := hmem m hm
        exact hφ.sep _ _ _ _ g2 v2 o2 L2 hb y1 y2 y4 y5
      · obtain ⟨k, g2, v2, o2, L2, _, y0, _, _, _, _, _, _, _, _, q10⟩ := hmem m hm
        rw [q10] at hj'
        have := (hφ.dis _ _ _ _ _ _ _ hb hj').1
        subst this
        exact hn k v2 o2 y0
    have hkm : ∀ (k g v : Nat) (o : Own), ps[k]? = some (g, v, o) → ∃ m, Mb[k]? = some m := by
      intro k g v o hk
      obtain ⟨_, _, _, _, _, m, _, _, _, q7, _⟩ := p2 k g v o hk
      exact ⟨m, q7⟩
    have hbase : ∀ g i j b, φ' g i j b → (∀ k, F' b k = none) ∧ b < w'.heap.size ∧ (w0.heap.size ≤ b ∨ M b) := by
      rintro g i j b (⟨he, hb⟩ | ⟨_, k, v, o, hk, rfl, hb⟩ | ⟨_, hn, hb⟩)
      · obtain ⟨o, L, _, _, _, _, _, z, _⟩ := hEne g he
        obtain ⟨z1, z2, z3, _⟩ := z i j b hb
        exact ⟨z3, z2, .inl (Nat.le_trans h.step.size z1)⟩
      · obtain ⟨m, hm⟩ := hkm k g v o hk
        have hz := hback.ok k m hm
        refine ⟨hz.fno j b hb, hz.flt j b hb, ?_⟩
        rcases hback.from_ k j b hb with h1 | h1
        · exact .inl (Nat.le_trans h.step.size h1)
        · exact (hWr b h1).2.1
      · refine ⟨fun k => ?_, Nat.lt_of_lt_of_le (hφ.lt g i j b hb) hst.size, hφ.new g i j b hb⟩
        rw [hst.old b k (hφ.lt g i j b hb) (hold g i j b hn hb)]
        exact hφ.none_ g i j b hb k
    refine ⟨φ', ?_, ?_, fun g i j b hb => (hbase g i j b hb).1, fun g i j b hb => (hbase g i j b hb).2.1, fun g i j b hb => (hbase g i j b hb).2.2, ?_, ?_⟩
    · intro g v o' L b C i j e x s ty es hr hg hf hL hb hC he hj hx
      rcases hgo g v o' hg with ⟨t, o, L', hE', hβe, rfl, rfl, rfl, _⟩ | ⟨hEn, k, o, L', m, k1, rfl, q1, q2, q3, q4, q5, q6, q7, q8, q9, _⟩ | ⟨hEn, q1, q2⟩
      · have hne : look E g ≠ none := by rw [hE']; simp [look]
        obtain ⟨o2, L2, e1, e2, _, _, _, _, _, e3⟩ := hEne g hne
        rw [hE'] at e1; cases e1
        rw [e2, upB_self] at hL; cases hL
        exact ((e3 hr).1 b C i j e x s ty es hb hC he hj hx).keep (Fsub.refl _) (fun _ _ => rfl) (fun b hb => .inl ⟨hne, hb⟩)
      · have hz := hback.ok k m q7
        have := hβ _ _ q4
        rw [hL] at this; cases this
        rw [q5] at hb; cases hb
        rcases i with _ | i
        · simp only [List.getElem?_cons_zero, Option.some.injEq] at he
          subst he
          refine (hz.row C j x s ty es (by rw [q9]; exact hC) hj (by simpa using hx)).keep (Fsub.refl _) (fun _ _ => rfl) (fun b hb => .inr (.inl ⟨hEn, k, v, o, k1, rfl, hb⟩))
        · simp at he
      · obtain ⟨L0, e0, _⟩ := h.own g v o' q1
        have := hβ _ _ e0
        rw [hL] at this; cases this
        have hnw : ¬ Wr Mb b := fun hw => by
          obtain ⟨k, v2, o2, y0⟩ := hWrown g v o' L b q1 hf e0 hb hw
          exact q2 k v2 o2 y0
        rw [hst.block b (h.sep g v o' L b q1 hf e0 hb).2.1 hnw] at hC
        refine (hφ.row g v o' L b C i j e x s ty es hr q1 hf e0 hb hC he hj hx).keep hst.sub (fun b' hb' => hst.block b' (hφ.lt _ _ _ _ hb') (hold g i j b' q2 hb')) (fun b hb => .inr (.inr ⟨hEn, q2, hb⟩))
    · intro g v o' L b C i j e x u n hr hg hf hL hb hC he hj hx
      rcases hgo g v o' hg with ⟨t, o, L', hE', hβe, rfl, rfl, rfl, _⟩ | ⟨hEn, k, o, L', m, k1, rfl, q1, q2, q3, q4, q5, q6, q7, q8, q9, _⟩ | ⟨hEn, q1, q2⟩
      · have hne : look E g ≠ none := by rw [hE']; simp [look]
        obtain ⟨o2, L2, e1, e2, _, _, _, _, _, e3⟩ := hEne g hne
        rw [hE'] at e1; cases e1
        exact ((e3 hr).2 i j e u n he hj).elim
      · have hz := hback.ok k m q7
        rcases i with _ | i
        · simp only [List.getElem?_cons_zero, Option.some.injEq] at he
          subst he
          exact (hz.hole j u n hj).elim
        · simp at he
      · obtain ⟨L0, e0, _⟩ := h.own g v o' q1
        have := hβ _ _ e0
        rw [hL] at this; cases this
        have hnw : ¬ Wr Mb b := fun hw => by
          obtain ⟨k, v2, o2, y0⟩ := hWrown g v o' L b q1 hf e0 hb hw
          exact q2 k v2 o2 y0
        rw [hst.block b (h.sep g v o' L b q1 hf e0 hb).2.1 hnw] at hC
        exact (hφ.hole g v o' L b C i j e x u n hr q1 hf e0 hb hC he hj hx).mono hst.sub hβ
    · intro g i j b g' v' o' L' hb hg hf hL hLb
      -- where the named object lies
      rcases hgo g' v' o' hg with ⟨t, o, L2, hE', hβe, rfl, rfl, rfl, _, _, k5⟩ | ⟨hEn, k, o, L2, m, k1, rfl, q1, q2, q3, q4, q5, q6, q7, q8, q9, _⟩ | ⟨hEn, q1, q2⟩
      · rw [hβe, upB_self] at hL; cases hL
        obtain ⟨z1, _, _, z4⟩ := k5 b hLb
        rcases hb with ⟨he, hb⟩ | ⟨_, k, v, o, hk, rfl, hb⟩ | ⟨_, hn, hb⟩
        · obtain ⟨o2, L3, e1, e2, _, _, _, e3, _⟩ := hEne g he
          rw [hβe] at e2
          have e2 := congrFun e2 v'
          rw [upB_self, upB_self] at e2
          cases e2
          exact (e3 i j b hb).2.2.2.2 hLb
        · exact z4 k j hb
        · have := hφ.lt g i j b hb; omega
      · have := hβ _ _ q4
        rw [hL] at this; cases this
        have hmb : m.b = b := by rw [q5] at hLb; exact Option.some.inj hLb
        have hlt := (h.sep g' v' o L' b q1 q2 q4 hLb).2.1
        rcases hb with ⟨he, hb⟩ | ⟨_, k', v, o2, hk, rfl, hb⟩ | ⟨_, hn, hb⟩
        · obtain ⟨o2, L3, e1, e2, _, _, _, e3, _⟩ := hEne g he
          have := (e3 i j b hb).1
          omega
        · exact hback.ne k' j b m hb (List.mem_of_getElem? q7) hmb.symm
        · exact hφ.sep g i j b g' v' o L' hb q1 q2 q4 hLb
      · obtain ⟨L0, e0, _⟩ := h.own g' v' o' q1
        have := hβ _ _ e0
        rw [hL] at this; cases this
        have hlt := (h.sep g' v' o' L' b q1 hf e0 hLb).2.1
        rcases hb with ⟨he, hb⟩ | ⟨_, k', v, o2, hk, rfl, hb⟩ | ⟨_, hn, hb⟩
        · obtain ⟨o2, L3, e1, e2, _, _, _, e3, _⟩ := hEne g he
          have := (e3 i j b hb).1
          omega
        · rcases hback.from_ k' j b hb with h1 | h1
          · omega
          · obtain ⟨k, v2, o3, y0⟩ := hWrown g' v' o' L' b q1 hf e0 hLb h1
            exact q2 k v2 o3 y0
        · exact hφ.sep g i j b g' v' o' L' hb q1 hf e0 hLb
    · intro g i j g' i' j' b h1 h2
      rcases h1 with ⟨he, hb⟩ | ⟨hEn, k, v, o, hk, rfl, hb⟩ | ⟨hEn, hn, hb⟩
      · obtain ⟨o2, L3, e1, e2, _, _, _, e3, e4, _⟩ := hEne g he
        obtain ⟨z1, _, _, z4, _⟩ := e3 i j b hb
        rcases h2 with ⟨he', hb'⟩ | ⟨_, k', v', o', hk', rfl, hb'⟩ | ⟨_, _, hb'⟩
        · obtain ⟨o3, L4, e1', _⟩ := hEne g' he'
          rw [e1] at e1'
          cases e1'
          exact ⟨rfl, e4 i j i' j' b hb hb'⟩
        · exact (z4 k' j' hb').elim
        · have := hφ.lt g' i' j' b hb'; omega
      · rcases h2 with ⟨he', hb'⟩ | ⟨_, k', v', o', hk', rfl, hb'⟩ | ⟨_, hn', hb'⟩
        · obtain ⟨o3, L4, e1', _, _, _, _, e3, _⟩ := hEne g' he'
          exact ((e3 i' j' b hb').2.2.2.1 k j hb).elim
        · have hkk := hback.dis k j k' j' b hb hb'
          subst hkk
          rw [hk] at hk'; cases hk'
          obtain ⟨m, hm⟩ := hkm k g v o hk
          exact ⟨rfl, rfl, (hback.ok k m hm).dis j j' b hb hb'⟩
        · rcases hback.from_ k j b hb with h1 | h1
          · have := hφ.lt g' i' j' b hb'; omega
          · exact (hold g' i' j' b hn' hb' h1).elim
      · rcases h2 with ⟨he', hb'⟩ | ⟨_, k', v', o', hk', rfl, hb'⟩ | ⟨_, hn', hb'⟩
        · obtain ⟨o3, L4, e1', _, _, _, _, e3, _⟩ := hEne g' he'
          have := (e3 i' j' b hb').1
          have := hφ.lt g i j b hb; omega
        · rcases hback.from_ k' j' b hb' with h1 | h1
          · have := hφ.lt g i j b hb; omega
          · exact (hold g i j b hn hb h1).elim
        · exact hφ.dis g i j g' i' j' b hb hb'

theorem fro_ground1 {F F' : Fz} {d : D} {v : Value} (hg : isGround1 d = true) (h : Fro F d v) : Fro F' d v := by
  cases h <;> first | cases hg | skip
  · exact .int _ _
  · exact .bool _
  · exact .str _
theorem fro_ground {F F' : Fz} {d : D} {v : Value} (hg : isGround d = true) (h : Fro F d v) : Fro F' d v := by
  cases h <;> first | (cases hg; done) | skip
  · exact .int _ _
  · exact .bool _
  · exact .str _
  · rename_i cs vs hl h1 hh
    simp only [isGround, List.all_eq_true] at hg
    exact .agg cs vs hl h1 fun j c v hc hv => fro_ground1 (hg c (List.mem_of_getElem? hc)) (hh j c v hc hv)
  · rename_i cs vs hl hh
    simp only [isGround, List.all_eq_true] at hg
    exact .tup cs vs hl fun j c v hc hv => fro_ground1 (hg c (List.mem_of_getElem? hc)) (hh j c v hc hv)

theorem caps_noptr {F : Fz} {w : World} {ptr : List (Nat × (Nat × Nat))} (hp : ptr = []) {j : Nat} {ds : List D} {xs : List Value} {Mb : List Hd} (h : CapsOk F w ptr j ds xs Mb) : Mb = [] := by
  induction h with
  | nil => rfl
  | val _ _ _ _ _ _ _ _ _ ih => exact ih
  | ptr j d ds xs M m hl => subst hp; simp [look] at hl
theorem args_noptr {F : Fz} {w : World} {ptr : List (Nat × (Nat × Nat))} (hp : ptr = []) {j : Nat} {ds : List D} {xs : List Value} {Mb : List Hd} (h : ArgsOk F w ptr j ds xs Mb) : Mb = [] := by
  induction h with
  | nil => rfl
  | val _ _ _ _ _ _ _ _ _ _ ih => exact ih
  | ptr j d ds xs M m hl => subst hp; simp [look] at hl
  | clo _ _ _ _ _ _ _ _ _ hc _ _ ih2 => rw [caps_noptr hp hc, ih2]; rfl

end
end Go.Dw
