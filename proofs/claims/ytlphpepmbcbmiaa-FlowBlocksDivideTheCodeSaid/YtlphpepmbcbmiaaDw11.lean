/-
  THE LAYER Dw, PART 11: what is meant by a function's 'Spec' ('SpecOk'); calls.
-/
import Derived.Test.YtlphpepmbcbmiaaDw10
namespace Go.Dw

def noB : Bt := fun _ => none

/-- a variable of the caller's own, by its block -/
def varAt (F : Fz) (w : World) (b s ty : Nat) (d : D) : Prop := OwnOK F noB w ⟨some b, 1, s⟩ ⟨false, true, s, ty, [d]⟩

/-- arguments: data, and pointers to variables that are handed over ('M': their blocks, cells, types) -/
inductive ArgsOk (F : Fz) (w : World) (ptr : List (Nat × (Nat × Nat))) : Nat → List D → List Value → List (Nat × Nat × Nat) → Prop
  | nil (j : Nat) : ArgsOk F w ptr j [] [] []
  | val (j : Nat) (d : D) (ds : List D) (x : Value) (xs : List Value) (M : List (Nat × Nat × Nat)) (hp : look ptr j = none) (h : Fro F d x) (hr : ArgsOk F w ptr (j + 1) ds xs M) : ArgsOk F w ptr j (d :: ds) (x :: xs) M
  | ptr (j : Nat) (d : D) (ds : List D) (xs : List Value) (M : List (Nat × Nat × Nat)) (b s ty : Nat) (hp : look ptr j = some (s, ty)) (h : varAt F w b s ty d) (hF : ∀ i, F b i = none) (hb : b < w.heap.size)
      (hM : ∀ m ∈ M, m.1 ≠ b) (hr : ArgsOk F w ptr (j + 1) ds xs M) : ArgsOk F w ptr j (d :: ds) (.pointer (some ⟨b, 0, none⟩) :: xs) ((b, s, ty) :: M)

def BackOk (F : Fz) (w : World) (M : List (Nat × Nat × Nat)) (effs : List D) : Prop :=
  ∀ (k : Nat) b s ty, M[k]? = some (b, s, ty) → varAt F w b s ty (effs.getD k .top) ∧ ∀ i, F b i = none

def ResOk (w : World) (F' : Fz) (w' : World) (d : D) (v : Value) : Kind → Prop
  | .val => Fro F' d v
  | .ground => Fro F' d v
  | .row s ty => ∃ es L, d = .sl es ∧ v = .slice (L.b.map fun b => ⟨b, 0, none⟩) es.length L.cap ∧ OwnOK F' noB w' L ⟨false, false, s, ty, es⟩ ∧ ∀ b, L.b = some b → w.heap.size ≤ b ∧ b < w'.heap.size ∧ ∀ i, F' b i = none
  | .ptr s ty => ∃ b, v = .pointer (some ⟨b, 0, none⟩) ∧ varAt F' w' b s ty d ∧ w.heap.size ≤ b ∧ b < w'.heap.size ∧ ∀ i, F' b i = none
  | .inpl .. => False
  | .tupPtr q s ty => ∃ (ds : List D) (vs : List Value) (b : Nat), d = .tup ds ∧ v = .tuple vs.toArray ∧ ds.length = vs.length ∧ (∀ (j : Nat) c x, j ≠ q → ds[j]? = some c → vs[j]? = some x → Fro F' c x) ∧
      vs[q]? = some (.pointer (some ⟨b, 0, none⟩)) ∧ varAt F' w' b s ty (ds.getD q .top) ∧ w.heap.size ≤ b ∧ b < w'.heap.size ∧ ∀ i, F' b i = none

def SpecPost (sp : Spec) (w : World) (F : Fz) (ds : List D) (M : List (Nat × Nat × Nat)) (e : Ending) (w' : World) : Prop :=
  ∃ v F', e = .returned v ∧ Fok F' w' ∧ (∀ b i x, F' b i = some x → b < w'.heap.size) ∧ Stp (M.map Prod.fst) w F w' F' ∧ ResOk w F' w' (sp.res ds) v sp.kind ∧ BackOk F' w' M (sp.eff ds)

/-- a function with a body of its own -/
def Entered (P : Program) (f : Nat) : Prop := ∃ fn, P.funcs[f]? = some fn ∧ (fn.name == "runtime.NumGoroutine") = false ∧ fn.body.isNone = false

/-- what is meant by a function that writes a slice of ints in place -/
def InplOk (P : Program) (f : Nat) (q : Bool × (List Int → List Int) × (List Int → Nat)) : Prop :=
  (∀ zs, (q.2.1 zs).length = zs.length ∧ q.2.2 zs ≤ zs.length) ∧
  (∀ (w : World) (a : Option Addr) (cap : Nat), Calls P f #[.slice a 0 cap] w fun e w' => e = .returned (if q.1 then .slice a 0 cap else .tuple #[]) ∧ w' = w) ∧
  ∀ (w : World) (b off cap ty : Nat) (C : Array Value) (zs : List Int), 0 < zs.length → zs.length < 4611686018427387904 → zs.length ≤ cap → w.heap[b]? = some (.cells C ty (0, 0)) → (∀ (j : Nat) x, zs[j]? = some x → C[off + j]? = some (.int .i64 x)) →
    Calls P f #[.slice (some ⟨b, off, none⟩) zs.length cap] w fun e w' => e = .returned (if q.1 then .slice (some ⟨b, off, none⟩) (q.2.2 zs) cap else .tuple #[]) ∧ w'.os = w.os ∧ w'.tape = w.tape ∧ w'.output = w.output ∧
      w.heap.size ≤ w'.heap.size ∧ (∀ b', b' < w.heap.size → b' ≠ b → w'.heap[b']? = w.heap[b']?) ∧ ∃ C', w'.heap[b]? = some (.cells C' ty (0, 0)) ∧ C'.size = C.size ∧ (∀ k, (k < off ∨ off + zs.length ≤ k) → C'[k]? = C[k]?) ∧
      ∀ (j : Nat) x, (q.2.1 zs)[j]? = some x → C'[off + j]? = some (.int .i64 x)

/-- WHAT A SPEC SAYS OF A FUNCTION. -/
def SpecOk (P : Program) (f : Nat) (sp : Spec) : Prop :=
  Entered P f ∧ (∀ q, inplOf sp.kind = some q → InplOk P f q) ∧ (inplOf sp.kind = none → ∀ (w : World) (F : Fz) (ds : List D) (vs : List Value) (M : List (Nat × Nat × Nat)), Fok F w → (∀ b i x, F b i = some x → b < w.heap.size) → ArgsOk F w sp.ptr 0 ds vs M → sp.pre ds →
    Calls P f vs.toArray w (SpecPost sp w F ds M))

section
variable {N : Nat} {w0 : World} {F0 : Fz} {M : List Nat} {B0 : Bt} {σ : S} {F : Fz} {β : Bt} {a : Act} {w : World}

/-- the contents of a variable made free of references -/
theorem res_cells (h : Sim N w0 F0 M B0 σ F β a w) (e : D) (X : Nat → Option Value) (hX : ∀ (j : Nat) c, (cells e)[j]? = some c → ∃ x, X j = some x ∧ x.oneCell' = true ∧ Cel F β c x) (hc : ((res e).run σ).1) :
    FzList σ ((res e).run σ).2.2 ∧ (cells ((res e).run σ).2.1).length = (cells e).length ∧ ∀ (ws : List (Nat × Obj?)) F', FzList σ ws → (∀ p ∈ ((res e).run σ).2.2, p ∈ ws) → Fsub F F' → Sim N w0 F0 M B0 ⟨σ.e, ws ++ σ.o, σ.n⟩ F' β a w →
      ∀ (j : Nat) c, (cells ((res e).run σ).2.1)[j]? = some c → ∃ x, X j = some x ∧ x.oneCell' = true ∧ Fro F' c x := by
  have one : ∀ d : D, cells d = [d] → res d = resC d → cells e = [d] → e = d → FzList σ ((res e).run σ).2.2 ∧ (cells ((res e).run σ).2.1).length = (cells e).length ∧ ∀ (ws : List (Nat × Obj?)) F', FzList σ ws → (∀ p ∈ ((res e).run σ).2.2, p ∈ ws) → Fsub F F' → Sim N w0 F0 M B0 ⟨σ.e, ws ++ σ.o, σ.n⟩ F' β a w →
      ∀ (j : Nat) c, (cells ((res e).run σ).2.1)[j]? = some c → ∃ x, X j = some x ∧ x.oneCell' = true ∧ Fro F' c x := by
    rintro d h1 h2 h3 rfl
    rw [h2] at hc ⊢
    obtain ⟨x, x1, x2, x3⟩ := hX 0 e (by rw [h3]; rfl)
    obtain ⟨r1, r2⟩ := resC_ok h e x3 hc
    have h4 : cells ((resC e).run σ).2.1 = [((resC e).run σ).2.1] := by
      have : ∀ d : D, ((resC d).run σ).1 → cells ((resC d).run σ).2.1 = [((resC d).run σ).2.1] := by
        intro d hd
        cases d <;> first | exact hd.elim | rfl | skip
        simp only [resC, R.run] at hd ⊢
        split <;> simp_all <;> rfl
      exact this e hc
    refine ⟨r1, by rw [h4, h3]; rfl, fun ws F' q1 q2 q3 q4 j c hj => ?_⟩
    rw [h4] at hj
    rcases j with _ | j
    · simp only [List.getElem?_cons_zero, Option.some.injEq] at hj
      subst hj
      exact ⟨x, x1, x2, r2 ws F' q1 q2 q3 q4⟩
    · simp at hj
  cases e with
  | agg cs =>
    simp only [res, R.run_bind, R.run_pure] at hc ⊢
    simp only [cells] at hX ⊢
    let vs : List Value := (List.range cs.length).map fun j => (X j).getD undef
    have hvs : ∀ (j : Nat) c, cs[j]? = some c → ∃ x, X j = some x ∧ vs[j]? = some x ∧ x.oneCell' = true ∧ Cel F β c x := by
      intro j c hj
      obtain ⟨x, x1, x2, x3⟩ := hX j c hj
      have hlt := (List.getElem?_eq_some_iff.1 hj).1
      exact ⟨x, x1, by simp [vs, hlt, x1], x2, x3⟩
    obtain ⟨r1, r2, r3⟩ := resCs_ok h cs vs (by simp [vs]) (fun j c v hc' hv' => by
      obtain ⟨x, _, x1, _, x3⟩ := hvs j c hc'
      rw [hv'] at x1; cases x1; exact x3) hc
    refine ⟨r1, by rw [r2]; simp [vs], fun ws F' q1 q2 q3 q4 j c hj => ?_⟩
    have hlt : j < cs.length := by have := (List.getElem?_eq_some_iff.1 hj).1; rw [r2] at this; simpa [vs] using this
    obtain ⟨x, x0, x1, x2, _⟩ := hvs j _ (List.getElem?_eq_getElem hlt)
    exact ⟨x, x0, x2, r3 ws F' q1 q2 q3 q4 j c x hj x1⟩
  | _ => exact one _ rfl rfl rfl rfl

/-- the objects that are handed over -/
def PsOk (σ : S) (β : Bt) (ps : List (Nat × Nat × Own)) (Mb : List (Nat × Nat × Nat)) : Prop :=
  ps.length = Mb.length ∧ (∀ (k : Nat) g v o, ps[k]? = some (g, v, o) → σ.go g = some (v, o) ∧ o.fz = false ∧ o.var = true ∧ o.es.length = 1 ∧ ∃ L b, β v = some L ∧ L.b = some b ∧ L.cap = 1 ∧ Mb[k]? = some (b, o.s, o.ty)) ∧
    (ps.map Prod.fst).Nodup

/-- the arguments of a call -/
theorem callArgs_ok (h : Sim N w0 F0 M B0 σ F β a w) {ptr : List (Nat × (Nat × Nat))} : ∀ (ds : List D) (xs : List Value) (j : Nat), ds.length = xs.length → (∀ (q : Nat) d x, ds[q]? = some d → xs[q]? = some x → Val F β d x) →
    ((callArgs ptr j ds).run σ).1 →
    FzList σ ((callArgs ptr j ds).run σ).2.2.1 ∧ ∃ Mb, PsOk σ β ((callArgs ptr j ds).run σ).2.2.2 Mb ∧
      ∀ (ws : List (Nat × Obj?)) F', FzList σ ws → (∀ p ∈ ((callArgs ptr j ds).run σ).2.2.1, p ∈ ws) → Fsub F F' → Sim N w0 F0 M B0 ⟨σ.e, ws ++ σ.o, σ.n⟩ F' β a w →
        ArgsOk F' w ptr j ((callArgs ptr j ds).run σ).2.1 xs Mb
  | [], [], j, _, _, _ => ⟨FzList.nil σ, [], ⟨rfl, fun k g v o hk => by simp [callArgs, R.run] at hk, by simp [callArgs, R.run]⟩, fun _ _ _ _ _ _ => .nil j⟩
  | [], _ :: _, _, hl, _, _ => by simp at hl
  | _ :: _, [], _, hl, _, _ => by simp at hl
  | d :: ds, x :: xs, j, hl, hv, hc => by
    have hd := hv 0 d x rfl rfl
    have hv' : ∀ (q : Nat) d x, ds[q]? = some d → xs[q]? = some x → Val F β d x := fun q d x h1 h2 => hv (q + 1) d x (by simpa using h1) (by simpa using h2)
    have hl' : ds.length = xs.length := by simpa using hl
    unfold callArgs at hc ⊢
    cases hp : look ptr j with
    | none =>
      simp only [hp, R.run_bind, R.run_pure] at hc ⊢
      obtain ⟨hc1, hc2⟩ := hc
      obtain ⟨f1, r1⟩ := res_ok h d hd hc1
      obtain ⟨f2, Mb, p2, r2⟩ := callArgs_ok h ds xs (j + 1) hl' hv' hc2
      refine ⟨f1.append f2, Mb, p2, fun ws F' q1 q2 q3 q4 => .val j _ _ x xs Mb hp (r1 ws F' q1 (fun p hp => q2 p (by simp [hp])) q3 q4) (r2 ws F' q1 (fun p hp => q2 p (by simp [hp])) q3 q4)⟩
    | some st =>
      obtain ⟨s, ty⟩ := st
      simp only [hp] at hc ⊢
      cases d <;> try exact hc.elim
      case optr g v i off =>
        simp only [R.run] at hc ⊢
        cases hg : σ.go g with
        | none => rw [hg] at hc; exact hc.elim
        | some p =>
          obtain ⟨v', o⟩ := p
          rw [hg] at hc
          simp only [R.run_bind, R.run_pure] at hc ⊢
          obtain ⟨⟨rfl, rfl, rfl, hfz, hvar, hlen, rfl, rfl⟩, hc1, hc2, hdist⟩ := hc
          obtain ⟨L, b, hL, hb, rfl⟩ := hd
          obtain ⟨L', hL', _, hk⟩ := h.own g v o hg
          rw [hL] at hL'; cases hL'
          obtain ⟨e1, e2, e3, e4, e5, e6⟩ := hk hfz
          rw [hb] at e6
          obtain ⟨C, hC, hCs, hcell⟩ := e6
          obtain ⟨e, he⟩ : ∃ e, o.es = [e] := List.length_eq_one_iff.1 hlen
          have hge : o.es.getD 0 .top = e := by simp [he]
          rw [hge] at hc1 ⊢
          have hX : ∀ (j : Nat) c, (cells e)[j]? = some c → ∃ x, C[j]? = some x ∧ x.oneCell' = true ∧ Cel F β c x := by
            intro j c hj
            obtain ⟨x, x1, x2, x3⟩ := hcell 0 j e c (by simp [he]) hj
            rw [hvar] at x3
            exact ⟨x, by simpa using x1, x2, by simpa using x3⟩
          obtain ⟨f1, l1, r1⟩ := res_cells h e (fun j => C[j]?) hX hc1
          obtain ⟨f2, Mb, p2, r2⟩ := callArgs_ok h ds xs (j + 1) hl' hv' hc2
          have hcap : L.cap = 1 := by
            rw [hvar] at e4
            simp only [if_true] at e4
            omega
          refine ⟨f1.append f2, (b, o.s, o.ty) :: Mb, ?_, ?_⟩
          · obtain ⟨q1, q2, q3⟩ := p2
            refine ⟨by simp [q1], ?_, ?_⟩
            · intro k g' v' o' hk'
              rcases k with _ | k
              · simp only [List.getElem?_cons_zero, Option.some.injEq, Prod.mk.injEq] at hk'
                obtain ⟨rfl, rfl, rfl⟩ := hk'
                exact ⟨hg, hfz, hvar, hlen, L, b, hL, hb, hcap, rfl⟩
              · simp only [List.getElem?_cons_succ] at hk' ⊢
                exact q2 k g' v' o' hk'
            · simp only [List.map_cons, List.nodup_cons]
              refine ⟨?_, q3⟩
              simp only [List.all_eq_true] at hdist
              intro hm
              obtain ⟨p, hp1, hp2⟩ := List.mem_map.1 hm
              have := hdist p hp1
              simp [hp2] at this
          · intro ws F' q1 q2 q3 q4
            have hes : ∀ q : Nat × Nat × Nat, q ∈ Mb → q.1 ≠ b := by
              intro q hq e'
              obtain ⟨k, hk'⟩ := List.mem_iff_getElem?.1 hq
              obtain ⟨z1, z2, z3⟩ := p2
              have hlt : k < ((callArgs ptr (j + 1) ds).run σ).2.2.2.length := by rw [z1]; exact (List.getElem?_eq_some_iff.1 hk').1
              obtain ⟨⟨g', v', o'⟩, hps⟩ : ∃ p, ((callArgs ptr (j + 1) ds).run σ).2.2.2[k]? = some p := ⟨_, List.getElem?_eq_getElem hlt⟩
              obtain ⟨y1, y2, _, _, L2, b2, y3, y4, _, y5⟩ := z2 k g' v' o' hps
              rw [hk'] at y5
              cases y5
              simp only at e'
              subst e'
              have hgg := h.dist g g' v v' o o' L L2 b2 hg y1 hfz y2 hL y3 hb y4
              subst hgg
              simp only [List.all_eq_true] at hdist
              have := hdist _ (List.mem_of_getElem? hps)
              simp at this
            obtain ⟨s1, s2, _⟩ := h.sep g v o L b hg hfz hL hb
            -- after the freeze the object is as it was
            have hgo : (S.mk σ.e (ws ++ σ.o) σ.n).go g = some (v, o) := by
              rcases q1.go g with ⟨v2, o2, k1, k2, _, _⟩ | ⟨_, k2⟩
              · rw [hg] at k1; cases k1; rw [hvar] at k2; cases k2
              · rw [k2]; exact hg
            obtain ⟨s1', _, _⟩ := q4.sep g v o L b hgo hfz hL hb
            have e0 : 0 * L.s + 0 = 0 := by simp
            rw [e0]
            refine .ptr j _ _ xs Mb b o.s o.ty hp ?_ s1' s2 hes (r2 ws F' q1 (fun p hp => q2 p (by simp [hp])) q3 q4)
            refine ⟨rfl, e2, by simp, by simp, fun q hq => ?_, C, hC, by rw [hCs, hcap], fun i j c' c hc' hj => ?_⟩
            · simp only [List.mem_singleton] at hq
              subst hq
              rw [l1]
              exact e5 e (by simp [he])
            · rcases i with _ | i
              · simp only [List.getElem?_cons_zero, Option.some.injEq] at hc'
                subst hc'
                obtain ⟨x, x1, x2, x3⟩ := r1 ws F' q1 (fun p hp => q2 p (by simp [hp])) q3 q4 j c hj
                exact ⟨x, by simpa using x1, x2, by simpa using Cel.of_fro x3⟩
              · simp at hc'

theorem handBack_look : ∀ (ps : List (Nat × Nat × Own)) (effs : List D) (g : Nat) (y : Obj?), look (handBack ps effs) g = some y → ∃ (k v : Nat) (o : Own), ps[k]? = some (g, v, o) ∧ y = some (v, { o with es := [effs.getD k .top] })
  | [], _, _, _, h => by simp [handBack, look] at h
  | (g', v, o) :: ps, effs, g, y, h => by
    simp only [handBack, look] at h
    split at h
    · rename_i e
      subst e
      cases h
      exact ⟨0, v, o, rfl, by cases effs <;> rfl⟩
    · obtain ⟨k, v', o', h1, h2⟩ := handBack_look ps effs.tail g y h
      refine ⟨k + 1, v', o', by simpa using h1, ?_⟩
      rw [h2]
      cases effs <;> simp

theorem handBack_none : ∀ (ps : List (Nat × Nat × Own)) (effs : List D) (g : Nat), look (handBack ps effs) g = none → ∀ (k v : Nat) (o : Own), ps[k]? ≠ some (g, v, o)
  | [], _, _, _, k, v, o => by simp
  | (g', v, o) :: ps, effs, g, h, k, v', o' => by
    simp only [handBack, look] at h
    split at h
    · cases h
    · rename_i e
      rcases k with _ | k
      · simp only [List.getElem?_cons_zero, ne_eq, Option.some.injEq, Prod.mk.injEq, not_and]
        intro e'; exact absurd e'.symm e
      · simp only [List.getElem?_cons_succ]
        exact handBack_none ps effs.tail g h k v' o'

theorem noB_sub (β : Bt) : Bsub noB β := fun v L h => by cases h

/-- behind a call -/
theorem call_change (h : Sim N w0 F0 M B0 σ F β a w) {nv : Nat} (hnv : β nv = none) {ps : List (Nat × Nat × Own)} {Mb : List (Nat × Nat × Nat)} (hps : PsOk σ β ps Mb) {effs : List D} {w' : World} {F' : Fz}
    (hok : Fok F' w') (hfin : ∀ b i x, F' b i = some x → b < w'.heap.size) (hst : Stp (Mb.map Prod.fst) w F w' F') (hback : BackOk F' w' Mb effs)
    {E : List (Nat × Obj?)} {β' : Bt} (hE : (E = [] ∧ β' = β) ∨ (∃ t o L, E = [(t, some (nv, o))] ∧ β' = upB β nv L ∧ o.fz = false ∧ OwnOK F' noB w' L o ∧ ∀ b, L.b = some b → w.heap.size ≤ b ∧ b < w'.heap.size ∧ ∀ i, F' b i = none))
    {dst : Option Nat} (hd : ∀ t, dst = some t → t < N) {d : D} {v : Value} (hv : Env F' β' d v) (c : Prop) :
    Bsub β β' ∧ (∀ x, x ≠ nv → β' x = β x) ∧ Sim N w0 F0 M B0 (σ.app ⟨c, put1 dst d, E ++ handBack ps effs⟩) F' β' (a.put dst v) w' := by
  have hβ : Bsub β β' := by
    rcases hE with ⟨_, rfl⟩ | ⟨t, o, L, _, rfl, _⟩
    · exact Bsub.refl _
    · exact upB_sub L hnv
  have hβ' : ∀ x, x ≠ nv → β' x = β x := by
    rcases hE with ⟨_, rfl⟩ | ⟨t, o, L, _, rfl, _⟩
    · exact fun _ _ => rfl
    · exact fun x hx => upB_ne _ _ hx
  obtain ⟨p1, p2, p3⟩ := hps
  have hmem : ∀ b, b ∈ Mb.map Prod.fst → ∃ (k g v : Nat) (o : Own) (L : Loc), ps[k]? = some (g, v, o) ∧ σ.go g = some (v, o) ∧ o.fz = false ∧ o.var = true ∧ β v = some L ∧ L.b = some b ∧ L.cap = 1 ∧ Mb[k]? = some (b, o.s, o.ty) := by
    intro b hb
    obtain ⟨m, hm, rfl⟩ := List.mem_map.1 hb
    obtain ⟨k, hk⟩ := List.mem_iff_getElem?.1 hm
    have hlt : k < ps.length := by rw [p1]; exact (List.getElem?_eq_some_iff.1 hk).1
    obtain ⟨⟨g, v, o⟩, hg⟩ : ∃ p, ps[k]? = some p := ⟨_, List.getElem?_eq_getElem hlt⟩
    obtain ⟨q1, q2, q3, _, L, b', q4, q5, q6, q7⟩ := p2 k g v o hg
    rw [hk] at q7
    cases q7
    exact ⟨k, g, v, o, L, hg, q1, q2, q3, q4, q5, q6, hk⟩
  -- what each name holds behind the call
  have hgo : ∀ g v' o', (σ.app ⟨c, put1 dst d, E ++ handBack ps effs⟩).go g = some (v', o') →
      (∃ t o L, E = [(t, some (nv, o))] ∧ β' = upB β nv L ∧ g = t ∧ v' = nv ∧ o' = o ∧ o.fz = false ∧ OwnOK F' noB w' L o ∧ ∀ b, L.b = some b → w.heap.size ≤ b ∧ b < w'.heap.size ∧ ∀ i, F' b i = none) ∨
      (∃ (k : Nat) (o : Own) (L : Loc) (b : Nat), ps[k]? = some (g, v', o) ∧ o' = { o with es := [effs.getD k .top] } ∧ σ.go g = some (v', o) ∧ o.fz = false ∧ o.var = true ∧ β v' = some L ∧ L.b = some b ∧ L.cap = 1 ∧ Mb[k]? = some (b, o.s, o.ty)) ∨
      (σ.go g = some (v', o') ∧ ∀ (k v : Nat) (o : Own), ps[k]? ≠ some (g, v, o)) := by
    intro g v' o' hg
    rw [S.go_app] at hg
    simp only [look_append] at hg
    cases hEl : look E g with
    | some y =>
      rw [hEl] at hg
      simp only [Option.some_or] at hg
      rcases hE with ⟨rfl, _⟩ | ⟨t, o, L, rfl, k2, k3, k4, k5⟩
      · simp [look] at hEl
      · simp only [look] at hEl
        split at hEl
        · cases hEl; cases hg
          exact .inl ⟨_, _, L, rfl, k2, by assumption, rfl, rfl, k3, k4, k5⟩
        · cases hEl
    | none =>
      rw [hEl] at hg
      simp only [Option.none_or] at hg
      cases hH : look (handBack ps effs) g with
      | some y =>
        rw [hH] at hg
        obtain ⟨k, v, o, k1, k2⟩ := handBack_look ps effs g y hH
        subst k2
        simp only [Option.some.injEq, Prod.mk.injEq] at hg
        obtain ⟨rfl, rfl⟩ := hg
        obtain ⟨q1, q2, q3, _, L, b, q4, q5, q6, q7⟩ := p2 k g v o k1
        exact .inr (.inl ⟨k, o, L, b, k1, rfl, q1, q2, q3, q4, q5, q6, q7⟩)
      | none =>
        rw [hH] at hg
        exact .inr (.inr ⟨hg, handBack_none ps effs g hH⟩)
  refine ⟨hβ, hβ', ?_⟩
  refine h.change (row := fun b => b ∈ Mb.map Prod.fst) hst.os hst.tape hst.output hst.size hst.block ?_ hst.sub hst.old hok hfin hβ (by rw [act_size]; exact h.size) (by rw [act_defers]; exact h.defers) (h.env_put hst.sub hβ hd hv) ?_ ?_
  · intro b hb
    obtain ⟨k, g, v, o, L, _, q1, q2, q3, q4, q5, _⟩ := hmem b hb
    exact (h.sep g v o L b q1 q2 q4 q5).2.2.imp id And.left
  · intro g v' o' hg
    rcases hgo g v' o' hg with ⟨t, o, L, hE', hβe, rfl, rfl, rfl, k3, k4, k5⟩ | ⟨k, o, L, b, k1, rfl, q1, q2, q3, q4, q5, q6, q7⟩ | ⟨q1, q2⟩
    · refine .inr ⟨L, by rw [hβe]; exact upB_self _ _ _, k3, k4.keep (Fsub.refl _) (noB_sub _) (fun _ _ => rfl), fun b hb => ?_⟩
      obtain ⟨z1, z2, z3⟩ := k5 b hb
      exact ⟨z3, z2, .inl (Nat.le_trans h.step.size z1), .inr z1⟩
    · obtain ⟨z1, z2⟩ := hback k b o.s o.ty q7
      obtain ⟨s1, s2, s3⟩ := h.sep g v' o L b q1 q2 q4 q5
      refine .inr ⟨L, hβ _ _ q4, q2, ?_, fun b' hb' => ?_⟩
      · have hLs : L.s = o.s := by
          obtain ⟨L2, e2, _, e3⟩ := h.own g v' o q1
          rw [q4] at e2; cases e2
          exact (e3 q2).1
        have hL : L = ⟨some b, 1, o.s⟩ := by cases L; simp_all
        have ho : ({ o with es := [effs.getD k .top] } : Own) = ⟨false, true, o.s, o.ty, [effs.getD k .top]⟩ := by cases o; simp_all
        rw [hL, ho]
        exact OwnOK.keep (Fsub.refl _) (noB_sub _) (fun _ _ => rfl) z1
      · rw [q5] at hb'; cases hb'
        exact ⟨z2, Nat.lt_of_lt_of_le s2 hst.size, s3.imp id (fun z => ⟨z.1, q3⟩), .inl (List.mem_map.2 ⟨_, List.mem_of_getElem? q7, rfl⟩)⟩
    · refine .inl ⟨q1, fun L b hf hL hb hr => ?_⟩
      obtain ⟨k, g2, v2, o2, L2, y0, y1, y2, y3, y4, y5, _⟩ := hmem b hr
      have := h.dist g g2 v' v2 o' o2 L L2 b q1 y1 hf y2 hL y4 hb y5
      subst this
      exact q2 k v2 o2 y0
  · intro g1 g2 v1 v2 o1 o2 L1 L2 b hg1 hg2 hf1 hf2 hL1 hL2 hb1 hb2 hr
    -- an elder object that holds block b
    have old : ∀ g v o' L, (σ.app ⟨c, put1 dst d, E ++ handBack ps effs⟩).go g = some (v, o') → o'.fz = false → β' v = some L → L.b = some b →
        (∃ t o, E = [(t, some (nv, o))] ∧ g = t ∧ w.heap.size ≤ b) ∨ (b < w.heap.size ∧ ∃ o'' L'', σ.go g = some (v, o'') ∧ o''.fz = false ∧ β v = some L'' ∧ L''.b = some b) := by
      intro g v o' L hg hf hL hb
      rcases hgo g v o' hg with ⟨t, o, L', hE', hβe, rfl, rfl, rfl, k3, k4, k5⟩ | ⟨k, o, L', b', k1, rfl, q1, q2, q3, q4, q5, q6, q7⟩ | ⟨q1, q2⟩
      · rw [hβe, upB_self] at hL; cases hL
        exact .inl ⟨_, _, hE', rfl, (k5 b hb).1⟩
      · have := hβ _ _ q4
        rw [hL] at this; cases this
        exact .inr ⟨(h.sep g v o L b q1 q2 q4 hb).2.1, o, L, q1, q2, q4, hb⟩
      · obtain ⟨L0, e0, _⟩ := h.own g v o' q1
        have := hβ _ _ e0
        rw [hL] at this; cases this
        exact .inr ⟨(h.sep g v o' L b q1 hf e0 hb).2.1, o', L, q1, hf, e0, hb⟩
    rcases old g1 v1 o1 L1 hg1 hf1 hL1 hb1 with ⟨t, o, k1, k2, k3⟩ | ⟨k0, p1', L1', z1, z2, z3, z4⟩
    · rcases old g2 v2 o2 L2 hg2 hf2 hL2 hb2 with ⟨t', o', k1', k2', _⟩ | ⟨k0', _⟩
      · rw [k1] at k1'
        cases k1'
        rw [k2, k2']
      · omega
    · rcases old g2 v2 o2 L2 hg2 hf2 hL2 hb2 with ⟨t', o', k1', k2', k3'⟩ | ⟨_, p2', L2', y1, y2, y3, y4⟩
      · omega
      · exact h.dist g1 g2 v1 v2 p1' p2' L1' L2' b z1 y1 z2 y2 z3 y3 z4 y4

theorem fro_ground1 {F F' : Fz} {d : D} {v : Value} (hg : isGround1 d = true) (h : Fro F d v) : Fro F' d v := by
  cases h <;> first | cases hg | skip
  · exact .int _ _
  · exact .bool _
  · exact .str _
theorem fro_ground {F F' : Fz} {d : D} {v : Value} (hg : isGround d = true) (h : Fro F d v) : Fro F' d v := by
  cases h <;> first | (cases hg; done) | skip
  · exact .int _ _
  · exact .bool _
  · exact .str _
  · rename_i cs vs hl h1 hh
    simp only [isGround, List.all_eq_true] at hg
    exact .agg cs vs hl h1 fun j c v hc hv => fro_ground1 (hg c (List.mem_of_getElem? hc)) (hh j c v hc hv)
  · rename_i cs vs hl hh
    simp only [isGround, List.all_eq_true] at hg
    exact .tup cs vs hl fun j c v hc hv => fro_ground1 (hg c (List.mem_of_getElem? hc)) (hh j c v hc hv)

theorem args_noptr {F : Fz} {w : World} {ptr : List (Nat × (Nat × Nat))} (hp : ptr = []) {j : Nat} {ds : List D} {xs : List Value} {Mb : List (Nat × Nat × Nat)} (h : ArgsOk F w ptr j ds xs Mb) : Mb = [] := by
  induction h with
  | nil => rfl
  | val j d ds x xs M hl _ _ ih => exact ih
  | ptr j d ds xs M b s ty hl => subst hp; simp [look] at hl

end
end Go.Dw
