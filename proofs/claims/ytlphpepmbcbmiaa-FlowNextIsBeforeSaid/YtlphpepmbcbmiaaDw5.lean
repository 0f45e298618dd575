/-
  THE LAYER Dw, PART 5: the operations that leave memory alone.
-/
import Derived.Test.YtlphpepmbcbmiaaDw4
namespace Go.Dw

@[simp] theorem S.ge_app_nil (σ : S) (c : Prop) (wo : List (Nat × Obj?)) (t : Nat) : (σ.app ⟨c, [], wo⟩).ge t = σ.ge t := rfl
theorem S.ge_app (σ : S) (c : Prop) (dst : Option Nat) (d : D) (wo : List (Nat × Obj?)) (t : Nat) :
    (σ.app ⟨c, put1 dst d, wo⟩).ge t = if dst = some t then d else σ.ge t := by
  cases dst with
  | none => rfl
  | some k =>
    simp only [S.ge, S.app, put1, List.singleton_append, look, Option.some.injEq]
    by_cases h : t = k
    · subst h; simp
    · have h' : ¬ k = t := fun e => h e.symm
      simp [h, h']

theorem put_tmps (a : Act) (dst : Option Nat) (v : Value) (t : Nat) : (a.put dst v).tmps.getD t undef = if dst = some t ∧ t < a.tmps.size then v else a.tmps.getD t undef := by
  cases dst with
  | none => simp [Act.put]
  | some k =>
    simp only [Act.put, Option.some.injEq]
    by_cases h : k = t
    · subst h
      by_cases hk : k < a.tmps.size
      · simp [hk]
      · simp [hk]
    · simp only [h, false_and, if_false, Array.getD_eq_getD_getElem?]
      rw [Array.getElem?_setIfInBounds_ne h]

section
variable {N : Nat} {w0 : World} {F0 : Fz} {M : Nat → Prop} {B0 : Bt} {σ : S} {F : Fz} {β : Bt} {a : Act} {w : World}

/-- the datum of a slot is set; memory is as it was but for draws -/
theorem Sim.put (h : Sim N w0 F0 M B0 σ F β a w) {c : Prop} {dst : Option Nat} {d : D} {v : Value} (hd : ∀ t, dst = some t → t < N) (hv : Env F β d v)
    {w' : World} (hh : w'.heap = w.heap) (ho : w'.os = w.os) (ht : w'.tape = w.tape) (hu : w'.output = w.output) :
    Sim N w0 F0 M B0 (σ.app ⟨c, put1 dst d, []⟩) F β (a.put dst v) w' := by
  have hgo : ∀ g, (σ.app ⟨c, put1 dst d, []⟩).go g = σ.go g := fun g => rfl
  refine { nam := h.nam, size := ?_, defers := ?_, env := fun t => ?_, own := ?_, dist := ?_, sep := ?_, rich := ?_, frz := ?_, fin := ?_, step := ?_ }
  · rw [← h.size]; cases dst <;> simp [Act.put]
  · rw [← h.defers]; cases dst <;> simp [Act.put]
  · rw [S.ge_app, put_tmps]
    by_cases hdt : dst = some t
    · rw [if_pos hdt, if_pos ⟨hdt, by rw [h.size]; exact hd t hdt⟩]
      exact hv
    · rw [if_neg hdt, if_neg (fun e => hdt e.1)]
      exact h.env t
  · intro g v o hg
    obtain ⟨L, hL, hz, hk⟩ := h.own g v o hg
    exact ⟨L, hL, hz, fun hf => (hk hf).keep (Fsub.refl _) (Bsub.refl _) (fun b _ => by rw [hh])⟩
  · exact h.dist
  · intro g v o L b hg hf hL hb
    rw [hh]
    exact h.sep g v o L b hg hf hL hb
  · obtain ⟨φ, hφ⟩ := h.rich
    refine ⟨φ, hφ.keep (Fsub.refl _) (Bsub.refl _) (by rw [hh]; exact Nat.le_refl _) (fun _ _ _ _ _ _ => rfl) (fun _ _ _ _ _ => by rw [hh]) (fun g v o hg => ?_) (fun g v o hr hg hf => .inl ⟨o, hg, hf, rfl, rfl, fun i j e c he hj _ => ⟨⟨e, he, hj⟩, fun L b C x _ _ hC hx => ⟨C, by rw [← hh]; exact hC, hx⟩⟩⟩) hφ.sep⟩
    obtain ⟨L, hL, _⟩ := h.own g v o hg
    exact ⟨L, hL⟩
  · intro b i x hx
    have := h.frz b i x hx
    rw [World.cell?, hh]
    exact this
  · intro b i x hx
    rw [hh]; exact h.fin b i x hx
  · refine ⟨ho.trans h.step.os, ht.trans h.step.tape, hu.trans h.step.output, by rw [hh]; exact h.step.size, fun b hb hM => by rw [hh]; exact h.step.block b hb hM, h.step.sub, h.step.old⟩

/-- what is to be shown of an operation -/
def Snd (P : Program) (N : Nat) (w0 : World) (F0 : Fz) (M : Nat → Prop) (B0 : Bt) (σ : S) (β : Bt) (a : Act) (w : World) (o : Oper) (nv : Nat) (u : Out) : Prop :=
  ∀ (K : Act → World → Prop) (Q : Exit → Act → World → Prop),
    (∀ a' w' F' β', Sim N w0 F0 M B0 (σ.app u) F' β' a' w' → Bsub β β' → (∀ v, v ≠ nv → β' v = β v) → K a' w') → o.wp P a w K Q

theorem Snd.pure {P : Program} {o : Oper} {nv : Nat} {c : Prop} {d : D} {v : Value} {w' : World} (h : Sim N w0 F0 M B0 σ F β a w) (hd : ∀ t, o.dst = some t → t < N)
    (hr : (execOp a.eval o).run P w = .ok (.value v) w') (hv : Env F β d v) (hh : w'.heap = w.heap) (ho : w'.os = w.os) (ht : w'.tape = w.tape) (hu : w'.output = w.output) :
    Snd P N w0 F0 M B0 σ β a w o nv ⟨c, put1 o.dst d, []⟩ := by
  intro K Q hK
  unfold Oper.wp
  rw [hr]
  exact hK _ _ _ _ (h.put hd hv hh ho ht hu) (Bsub.refl _) (fun _ _ => rfl)

theorem Snd.pure' {P : Program} {o : Oper} {nv : Nat} {c : Prop} {d : D} {v : Value} (h : Sim N w0 F0 M B0 σ F β a w) (hd : ∀ t, o.dst = some t → t < N)
    (hr : (execOp a.eval o).run P w = .ok (.value v) w) (hv : Env F β d v) : Snd P N w0 F0 M B0 σ β a w o nv ⟨c, put1 o.dst d, []⟩ :=
  Snd.pure h hd hr hv rfl rfl rfl rfl

theorem fro_valD1 {F : Fz} (v : Value) : Fro F (valD1 v) v := by
  unfold valD1
  split
  · exact .int _ _
  · exact .bool _
  · rename_i s
    exact Fro.str (F := F) s.data.toList
  · exact .nils
  · exact .nilf
  · exact .top _
theorem fro_valD {F : Fz} (v : Value) (h : oneCells v = true) : Fro F (valD v) v := by
  unfold valD
  split
  · rename_i cs
    have h1 : ∀ v ∈ cs.toList, v.oneCell' = true := by simp only [oneCells, List.all_eq_true] at h; exact h
    have := Fro.agg (F := F) (cs.toList.map valD1) cs.toList (by simp) h1 (fun j c v hc hv => by
      rw [List.getElem?_map, hv] at hc
      cases hc
      exact fro_valD1 v)
    simpa using this
  · exact fro_valD1 v

/-- operands -/
theorem arg_ok (h : Sim N w0 F0 M B0 σ F β a w) {x : Operand} {y : Arg} (hy : cArg x = some y) : Env F β ((raw y).run σ) (a.eval x) := by
  cases x with
  | tmp t => cases hy; exact h.env t
  | const v =>
    simp only [cArg] at hy
    split at hy
    · rename_i hv; cases hy; exact Env.of_fro (fro_valD v hv)
    · cases hy
  | global g => cases hy
  | func f => cases hy; exact ⟨[], rfl, rfl, fun j c v hc => by simp at hc⟩

theorem rdA_ok (h : Sim N w0 F0 M B0 σ F β a w) {x : Operand} {y : Arg} (hy : cArg x = some y) (hp : ((rdA y).run σ).1 = true) : Val F β ((rdA y).run σ).2 (a.eval x) := by
  have := arg_ok h hy
  simp only [rdA, R.run_bind, R.run_pure] at hp ⊢
  exact this.strip hp

/-! values of a shape -/
theorem val_int {k : IntKind} {n : Int} {x : Value} (h : Val F β (.int k n) x) : x = .int k n := by cases h; rfl
theorem val_bool {b : Bool} {x : Value} (h : Val F β (.bool b) x) : x = .bool b := by cases h; rfl
theorem val_str {s : List UInt8} {x : Value} (h : Val F β (.str s) x) : x = .string ⟨s.toArray⟩ := by cases h; rfl
theorem val_nils {x : Value} (h : Val F β .nils x) : x = .slice none 0 0 := by cases h; rfl

theorem binD_ok {P : Program} {op : BinOp} {d e : D} {x y : Value} (hx : Val F β d x) (hy : Val F β e y) (hc : (binD op d e).1) (t : TypeId) (p q : Operand) (w : World) :
    ∃ v, (do eqGuard op t p q x y; binOp op t x y : Sem Value).run P w = .ok v w ∧ Val F β (binD op d e).2 v := by
  unfold binD at hc ⊢
  split at hc <;> try exact hc.elim
  case h_18 s s' =>
    rw [val_str hx, val_str hy]
    refine ⟨.string ⟨(s ++ s').toArray⟩, ?_, Val.of_fro (.str _)⟩
    have hlen : ¬ (((s.length + s'.length : Nat) : Int) > IntKind.i64.max) := by
      have : IntKind.i64.max = 9223372036854775807 := by decide
      rw [this]; simp only at hc; omega
    have e1 : (⟨s.toArray⟩ : ByteArray).size = s.length := by simp [ByteArray.size]
    have e2 : (⟨s'.toArray⟩ : ByteArray).size = s'.length := by simp [ByteArray.size]
    have e3 : (⟨s.toArray⟩ ++ ⟨s'.toArray⟩ : ByteArray) = ⟨(s ++ s').toArray⟩ := by
      apply ByteArray.ext
      simp [ByteArray.data_append]
    simp [eqGuard, binOp, Op.stringOp, e1, e2, e3]
    omega
  case h_19 s s' =>
    rw [val_str hx, val_str hy]
    refine ⟨.bool (s == s'), ?_, Val.of_fro (.bool _)⟩
    simp [eqGuard, binOp, Op.stringOp, ByteArray.toList_mk]
  case h_20 s s' =>
    rw [val_str hx, val_str hy]
    refine ⟨.bool (!(s == s')), ?_, Val.of_fro (.bool _)⟩
    simp [eqGuard, binOp, Op.stringOp, ByteArray.toList_mk]
  all_goals
    rw [val_int hx, val_int hy]
    refine ⟨_, ?_, Val.of_fro (by first | exact .int _ _ | exact .bool _)⟩
    simp only at hc
    first
      | (subst hc; simp [eqGuard, binOp, Op.intArith, Op.intBits, Op.intCmp]; done)
      | (obtain ⟨rfl, hc⟩ := hc; simp [eqGuard, binOp, Op.intDiv, hc]; done)
      | (have hc' : ¬ _ := Int.not_lt.2 hc; simp [eqGuard, binOp, Op.shift, hc', Nat.min_def]; done)
      | skip

theorem eqB_ok {P : Program} {t : TypeId} (hu : P.underlying t = some .bool) (a b neg : Bool) (p q : Operand) (w : World) :
    (do eqGuard (if neg then .neq else .eql) t p q (.bool a) (.bool b); binOp (if neg then .neq else .eql) t (.bool a) (.bool b) : Sem Value).run P w = .ok (.bool (if neg then !(a == b) else (a == b))) w := by
  have e : (Op.equal t (.bool a) (.bool b)).run P w = .ok (a == b) w := run_equalIn_bool w 9999 t a b hu
  cases neg <;> simp [eqGuard, binOp, e]

theorem eqItems_ok {P : Program} {e : TypeId} (he : intT P e = true) (w : World) (d : Nat) (xs ys : Array Value) : ∀ (cs cs' : List D) (i : Nat),
    (∀ (j : Nat) c, cs[j]? = some c → ∀ k n, c = .int k n → xs[i + j]? = some (.int k n)) → (∀ (j : Nat) c, cs'[j]? = some c → ∀ k n, c = .int k n → ys[i + j]? = some (.int k n)) → (eqL cs cs').1 →
    (Op.eqItems (d + 1) e 1 xs ys (List.range' i cs.length)).run P w = .ok (eqL cs cs').2 w
  | [], [], i, _, _, _ => by simp [Op.eqItems, eqL]
  | .int k a :: r, .int k' b :: r', i, hx, hy, hc => by
    obtain ⟨rfl, hc⟩ := hc
    have h0 := hx 0 _ rfl k a rfl
    have h1 := hy 0 _ rfl k b rfl
    simp only [Nat.add_zero] at h0 h1
    have ih := eqItems_ok he w d xs ys r r' (i + 1) (fun j c hj k n hn => by rw [Nat.add_assoc, Nat.add_comm 1 j]; exact hx (j + 1) c (by simpa using hj) k n hn)
      (fun j c hj k n hn => by rw [Nat.add_assoc, Nat.add_comm 1 j]; exact hy (j + 1) c (by simpa using hj) k n hn) hc
    simp only [intT, Bool.and_eq_true, beq_iff_eq] at he
    obtain ⟨_, he⟩ := he
    have hu : ∃ q, P.underlying e = some (.int q) := by
      revert he
      cases P.underlying e with
      | none => simp
      | some t => cases t <;> simp
    obtain ⟨q, hu⟩ := hu
    have hp : P.plainKey e = true := by simp [Program.plainKey, hu]
    simp only [List.length_cons, List.range'_succ, Op.eqItems, Sem.run_bind, Nat.mul_one, run_part_plain w hp h0, run_part_plain w hp h1, Result.andThen_ok, run_equalIn_int w d e k q a b hu]
    cases hab : (a == b)
    · simp [eqL, hab]
    · simp only [eqL, hab, Bool.true_and, Bool.not_true, Bool.false_eq_true, if_false]
      exact ih
  | [], _ :: _, _, _, _, hc => hc.elim
  | .int .. :: _, [], _, _, _, hc => hc.elim
  | .top :: _, _, _, _, _, hc => hc.elim
  | .bool _ :: _, _, _, _, _, hc => hc.elim
  | .str _ :: _, _, _, _, _, hc => hc.elim
  | .agg _ :: _, _, _, _, _, hc => hc.elim
  | .sl _ :: _, _, _, _, _, hc => hc.elim
  | .nils :: _, _, _, _, _, hc => hc.elim
  | .osl .. :: _, _, _, _, _, hc => hc.elim
  | .optr .. :: _, _, _, _, _, hc => hc.elim
  | .fptr .. :: _, _, _, _, _, hc => hc.elim
  | .clo .. :: _, _, _, _, _, hc => hc.elim
  | .nilf :: _, _, _, _, _, hc => hc.elim
  | .tup _ :: _, _, _, _, _, hc => hc.elim
  | .when .. :: _, _, _, _, _, hc => hc.elim
  | .int .. :: _, .top :: _, _, _, _, hc => hc.elim
  | .int .. :: _, .bool _ :: _, _, _, _, hc => hc.elim
  | .int .. :: _, .str _ :: _, _, _, _, hc => hc.elim
  | .int .. :: _, .agg _ :: _, _, _, _, hc => hc.elim
  | .int .. :: _, .sl _ :: _, _, _, _, hc => hc.elim
  | .int .. :: _, .nils :: _, _, _, _, hc => hc.elim
  | .int .. :: _, .osl .. :: _, _, _, _, hc => hc.elim
  | .int .. :: _, .optr .. :: _, _, _, _, hc => hc.elim
  | .int .. :: _, .fptr .. :: _, _, _, _, hc => hc.elim
  | .int .. :: _, .clo .. :: _, _, _, _, hc => hc.elim
  | .int .. :: _, .nilf :: _, _, _, _, hc => hc.elim
  | .int .. :: _, .tup _ :: _, _, _, _, hc => hc.elim
  | .int .. :: _, .when .. :: _, _, _, _, hc => hc.elim

theorem eqL_inv : ∀ {cs cs' : List D}, (eqL cs cs').1 → (cs = [] ∧ cs' = []) ∨ ∃ k a b r r', cs = .int k a :: r ∧ cs' = .int k b :: r' ∧ (eqL r r').1 ∧ (eqL cs cs').2 = ((a == b) && (eqL r r').2)
  | [], [], _ => .inl ⟨rfl, rfl⟩
  | .int k a :: r, .int k' b :: r', h => by
    obtain ⟨rfl, h⟩ := h
    exact .inr ⟨k, a, b, r, r', rfl, rfl, h, rfl⟩
  | [], _ :: _, h => h.elim
  | c :: r, c' :: r', h => by
    cases c <;> try exact h.elim
    cases c' <;> try exact h.elim
    obtain ⟨rfl, h⟩ := h
    exact .inr ⟨_, _, _, r, r', rfl, rfl, h, rfl⟩
  | c :: r, [], h => by cases c <;> exact h.elim

theorem eqFields_ok {P : Program} (w : World) (d : Nat) (xs ys : Array Value) : ∀ (fs : List Field) (cs cs' : List D) (i : Nat), (∀ (j : Nat) f, fs[j]? = some f → f.name ≠ "_" ∧ f.offset = i + j ∧ intT P f.type = true) → fs.length = cs.length →
    (∀ (j : Nat) c, cs[j]? = some c → ∀ k n, c = .int k n → xs[i + j]? = some (.int k n)) → (∀ (j : Nat) c, cs'[j]? = some c → ∀ k n, c = .int k n → ys[i + j]? = some (.int k n)) → (eqL cs cs').1 →
    (Op.eqFields (d + 1) xs ys fs).run P w = .ok (eqL cs cs').2 w
  | [], cs, cs', i, _, hl, _, _, hc => by
    rcases eqL_inv hc with ⟨rfl, rfl⟩ | ⟨k, a, b, r, r', rfl, rfl, _⟩
    · simp [Op.eqFields, eqL]
    · simp at hl
  | f :: fs, cs, cs', i, hf, hl, hx, hy, hc => by
    rcases eqL_inv hc with ⟨rfl, rfl⟩ | ⟨k, a, b, r, r', rfl, rfl, hc', he⟩
    · simp at hl
    · have h0 := hx 0 _ rfl k a rfl
      have h1 := hy 0 _ rfl k b rfl
      obtain ⟨n1, n2, n3⟩ := hf 0 f rfl
      simp only [Nat.add_zero] at h0 h1 n2
      have ih := eqFields_ok w d xs ys fs r r' (i + 1) (fun j g hj => by
          obtain ⟨m1, m2, m3⟩ := hf (j + 1) g (by simpa using hj)
          exact ⟨m1, by omega, m3⟩) (by simpa using hl) (fun j c hj k n hn => by rw [Nat.add_assoc, Nat.add_comm 1 j]; exact hx (j + 1) c (by simpa using hj) k n hn)
        (fun j c hj k n hn => by rw [Nat.add_assoc, Nat.add_comm 1 j]; exact hy (j + 1) c (by simpa using hj) k n hn) hc'
      simp only [intT, Bool.and_eq_true, beq_iff_eq] at n3
      obtain ⟨_, n3⟩ := n3
      have hu : ∃ q, P.underlying f.type = some (.int q) := by
        revert n3
        cases P.underlying f.type with
        | none => simp
        | some t => cases t <;> simp
      obtain ⟨q, hu⟩ := hu
      have hp : P.plainKey f.type = true := by simp [Program.plainKey, hu]
      rw [he]
      simp only [Op.eqFields, ne_eq, n1, not_false_eq_true, if_true, Sem.run_bind, n2, run_part_plain w hp h0, run_part_plain w hp h1, Result.andThen_ok, run_equalIn_int w d f.type k q a b hu]
      cases hab : (a == b)
      · simp
      · simp only [Bool.true_and, Bool.not_true, Bool.false_eq_true, if_false]
        exact ih

theorem eqA_ok {P : Program} {t : TypeId} {n : Nat} (hf : flatInt P t = some n) {cs cs' : List D} {x y : Value} (hx : Val F β (.agg cs) x) (hy : Val F β (.agg cs') y) (hc : (eqL cs cs').1) (hn : cs.length = n) (neg : Bool) (p q : Operand) (w : World) :
    (do eqGuard (if neg then .neq else .eql) t p q x y; binOp (if neg then .neq else .eql) t x y : Sem Value).run P w = .ok (.bool (if neg then !(eqL cs cs').2 else (eqL cs cs').2)) w := by
  obtain ⟨vs, rfl, hl, _, hv⟩ := hx
  obtain ⟨vs', rfl, hl', _, hv'⟩ := hy
  have hX : ∀ (j : Nat) c, cs[j]? = some c → ∀ k n, c = .int k n → (vs.toArray)[0 + j]? = some (.int k n) := by
    rintro j c hj k n rfl
    have hjl : j < vs.length := by rw [← hl]; exact (List.getElem?_eq_some_iff.1 hj).1
    have e : vs[j] = .int k n := val_int (F := F) (β := β) (hv j _ vs[j] hj (List.getElem?_eq_getElem hjl))
    simp [hjl, e]
  have hY : ∀ (j : Nat) c, cs'[j]? = some c → ∀ k n, c = .int k n → (vs'.toArray)[0 + j]? = some (.int k n) := by
    rintro j c hj k n rfl
    have hjl : j < vs'.length := by rw [← hl']; exact (List.getElem?_eq_some_iff.1 hj).1
    have e : vs'[j] = .int k n := val_int (F := F) (β := β) (hv' j _ vs'[j] hj (List.getElem?_eq_getElem hjl))
    simp [hjl, e]
  have key : P.eqGuardType P.depth t = false ∧ (Op.equalIn 10000 t (.agg vs.toArray) (.agg vs'.toArray)).run P w = .ok (eqL cs cs').2 w := by
    unfold flatInt at hf
    split at hf
    · rename_i m e hu
      split at hf
      · rename_i hcond
        simp only [Bool.and_eq_true, Bool.not_eq_true'] at hcond
        obtain ⟨⟨h1, h2⟩, h3⟩ := hcond
        obtain ⟨i, hi⟩ := Option.isSome_iff_exists.1 h1
        cases hf
        refine ⟨h3, ?_⟩
        rw [show (10000 : Nat) = 9998 + 1 + 1 from rfl, run_equalIn_array w (9998 + 1) vs.toArray vs'.toArray hu hi]
        have hc1 : P.cellsOf e = 1 := by
          simp only [intT, Bool.and_eq_true, beq_iff_eq] at h2
          exact h2.1
        rw [hc1, List.range_eq_range', ← hn]
        exact eqItems_ok h2 w 9998 _ _ cs cs' 0 hX hY hc
      · cases hf
    · rename_i fs hu
      split at hf
      · rename_i hcond
        simp only [Bool.and_eq_true, Bool.not_eq_true'] at hcond
        obtain ⟨⟨h1, h2⟩, h3⟩ := hcond
        cases hf
        refine ⟨h2, ?_⟩
        have hfs : P.fieldsOf t = fs := by simp [Program.fieldsOf, hu]
        rw [show (10000 : Nat) = 9998 + 1 + 1 from rfl, run_equalIn_struct w (9998 + 1) t vs.toArray vs'.toArray (by rw [hfs]; exact hu) h1, hfs]
        refine eqFields_ok w 9998 _ _ fs.toList cs cs' 0 (fun j f hj => ?_) (by simp [hn]) hX hY hc
        have hjl : j < fs.size := by simpa using (List.getElem?_eq_some_iff.1 hj).1
        have := List.all_eq_true.1 h3 j (by simpa using hjl)
        have hj' : fs[j]? = some f := by simpa using hj
        rw [hj'] at this
        simp only [Bool.and_eq_true, bne_iff_ne, ne_eq, beq_iff_eq] at this
        exact ⟨this.1.1, by omega, this.2⟩
      · cases hf
    · cases hf
  cases neg
  · simp [run_eqGuard_agg w _ _ _ _ _ _ key.1, run_eql_struct, key.2]
  · simp [run_eqGuard_agg w _ _ _ _ _ _ key.1, run_neq_struct, key.2]

theorem unD_ok {P : Program} {op : UnOp} {d : D} {x : Value} (hx : Val F β d x) (hc : (unD op d).1) (w : World) :
    ∃ v, (Op.unary op x).run P w = .ok v w ∧ Val F β (unD op d).2 v := by
  unfold unD at hc ⊢
  split at hc <;> try exact hc.elim
  · rw [val_bool hx]; exact ⟨_, rfl, Val.of_fro (.bool _)⟩
  · rw [val_int hx]; exact ⟨_, rfl, Val.of_fro (.int _ _)⟩

/-- the cells of a value that stands for data -/
theorem val_cells {d : D} {x : Value} (h : Val F β d x) (hk : known d = true) :
    x.cells.size = (cells d).length ∧ (∀ v ∈ x.cells, v.oneCell' = true) ∧ ∀ (j : Nat) c, (cells d)[j]? = some c → ∃ v, x.cells[j]? = some v ∧ v.oneCell' = true ∧ Cel F β c v := by
  have one : ∀ (d : D) (x : Value), cells d = [d] → x.cells = #[x] → x.oneCell' = true → Cel F β d x →
      x.cells.size = (cells d).length ∧ (∀ v ∈ x.cells, v.oneCell' = true) ∧ ∀ (j : Nat) c, (cells d)[j]? = some c → ∃ v, x.cells[j]? = some v ∧ v.oneCell' = true ∧ Cel F β c v := by
    intro d x e1 e2 e3 e4
    rw [e1, e2]
    refine ⟨rfl, fun v hv => by simp at hv; subst hv; exact e3, fun j c hj => ?_⟩
    rcases j with _ | j
    · simp only [List.getElem?_cons_zero, Option.some.injEq] at hj
      subst hj
      exact ⟨x, rfl, e3, e4⟩
    · simp at hj
  cases d with
  | agg cs =>
    obtain ⟨vs, rfl, hl, h1, hv⟩ := h
    refine ⟨by simp [Value.cells, cells, hl], fun v hv => h1 v (by simpa [Value.cells] using hv), fun j c hj => ?_⟩
    simp only [cells] at hj
    have hlt : j < vs.length := by rw [← hl]; exact (List.getElem?_eq_some_iff.1 hj).1
    exact ⟨vs[j], by simp [Value.cells, hlt], h1 _ (List.getElem_mem hlt), hv j c _ hj (List.getElem?_eq_getElem hlt)⟩
  | top => cases hk
  | row => cases hk
  | hole => cases hk
  | tup cs => cases hk
  | when p d => cases hk
  | int k n => cases h; exact one _ _ rfl rfl rfl (Cel.of_fro (.int _ _))
  | bool b => cases h; exact one _ _ rfl rfl rfl (Cel.of_fro (.bool _))
  | str s => cases h; exact one _ _ rfl rfl rfl (Cel.of_fro (.str _))
  | nils => cases h; exact one _ _ rfl rfl rfl (Cel.of_fro .nils)
  | nilf => cases h; exact one _ _ rfl rfl rfl (Cel.of_fro .nilf)
  | sl es =>
    have h' : Fro F (.sl es) x := h
    cases h with
    | sl0 a c => exact one _ _ rfl rfl rfl (Cel.of_fro h')
    | sl es b o c s vf hc hs hF h1 hh => exact one _ _ rfl rfl rfl (Cel.of_fro h')
  | fptr e off =>
    have h' : Fro F (.fptr e off) x := h
    cases h with
    | fptr e b o off vf hF h1 hh => exact one _ _ rfl rfl rfl (Cel.of_fro h')
  | osl g v i n =>
    have h' : Cel F β (.osl g v i n) x := h
    obtain ⟨L, a, _, rfl, _⟩ := h
    exact one _ _ rfl rfl rfl h'
  | optr g v i off =>
    have h' : Cel F β (.optr g v i off) x := h
    obtain ⟨L, b, _, _, rfl⟩ := h
    exact one _ _ rfl rfl rfl h'
  | clo f cs =>
    have h' : Cel F β (.clo f cs) x := h
    obtain ⟨vs, rfl, _⟩ := h
    exact one _ _ rfl rfl rfl h'

theorem fro_cells {d : D} {x : Value} (h : Fro F d x) (hk : known d = true) :
    x.cells.size = (cells d).length ∧ (∀ v ∈ x.cells, v.oneCell' = true) ∧ ∀ (j : Nat) c, (cells d)[j]? = some c → ∃ v, x.cells[j]? = some v ∧ v.oneCell' = true ∧ Fro F c v := by
  obtain ⟨h1, h2, _⟩ := val_cells (β := fun _ => none) (Val.of_fro h) hk
  refine ⟨h1, h2, fun j c hj => ?_⟩
  cases h with
  | agg cs vs hl _ hv =>
    simp only [cells] at hj
    have hlt : j < vs.length := by rw [← hl]; exact (List.getElem?_eq_some_iff.1 hj).1
    exact ⟨vs[j], by simp [Value.cells, hlt], h2 _ (by simp [Value.cells]), hv j c _ hj (List.getElem?_eq_getElem hlt)⟩
  | top => cases hk
  | row => cases hk
  | hole => cases hk
  | tup => cases hk
  | int k n => rcases j with _ | j <;> simp [cells] at hj; subst hj; exact ⟨_, rfl, rfl, .int _ _⟩
  | bool b => rcases j with _ | j <;> simp [cells] at hj; subst hj; exact ⟨_, rfl, rfl, .bool _⟩
  | str s => rcases j with _ | j <;> simp [cells] at hj; subst hj; exact ⟨_, rfl, rfl, .str _⟩
  | nils => rcases j with _ | j <;> simp [cells] at hj; subst hj; exact ⟨_, rfl, rfl, .nils⟩
  | nilf => rcases j with _ | j <;> simp [cells] at hj; subst hj; exact ⟨_, rfl, rfl, .nilf⟩
  | sl0 a c => rcases j with _ | j <;> simp [cells] at hj; subst hj; exact ⟨_, rfl, rfl, .sl0 _ _⟩
  | sl es b o c s vf hc hs hF h1' hh => rcases j with _ | j <;> simp [cells] at hj; subst hj; exact ⟨_, rfl, rfl, .sl es b o c s vf hc hs hF h1' hh⟩
  | fptr e b o off vf hF h1' hh => rcases j with _ | j <;> simp [cells] at hj; subst hj; exact ⟨_, rfl, rfl, .fptr e b o off vf hF h1' hh⟩
  | clo f cs vs hl hh => rcases j with _ | j <;> simp [cells] at hj; subst hj; exact ⟨_, rfl, rfl, .clo f cs vs hl hh⟩

/-- a part of an aggregate -/
theorem partD_ok {P : Program} {cs : List D} {vs : List Value} (hl : cs.length = vs.length) (h1 : ∀ v ∈ vs, v.oneCell' = true) (hv : ∀ (j : Nat) c v, cs[j]? = some c → vs[j]? = some v → Cel F β c v)
    (t : TypeId) (off n : Nat) (agg : Bool) (hagg : aggT P t = agg) (hu : (P.underlying t).isSome = true) (hn : agg = true → P.info? t ≠ none ∧ n = P.cellsOf t) (hn1 : agg = false → n = 1) (hle : off + n ≤ cs.length) (w : World) :
    ∃ v, (part t vs.toArray off).run P w = .ok v w ∧ Val F β (partD cs off n agg) v := by
  obtain ⟨d, hd⟩ := Option.isSome_iff_exists.1 hu
  have hr : (isAgg t).run P w = .ok agg w := by
    unfold isAgg
    simp only [Sem.run_bind, run_underlying hd, Result.andThen_ok]
    unfold aggT at hagg
    rw [hd] at hagg
    cases d <;> simp_all
  cases agg with
  | true =>
    obtain ⟨hi, rfl⟩ := hn rfl
    obtain ⟨i, hi⟩ := Option.ne_none_iff_exists'.1 hi
    have hsz : P.cellsOf t = i.size := by simp [Program.cellsOf, hi]
    refine ⟨.agg (vs.toArray.extract off (off + i.size)), by simp [part, hr, sizeOf, typeInfo, hi], ?_⟩
    refine ⟨(vs.drop off).take (P.cellsOf t), by simp [hsz, List.extract_eq_take_drop], by simp; omega, fun v hv' => h1 v (List.mem_of_mem_drop (List.mem_of_mem_take hv')), ?_⟩
    intro j c v hc hv'
    rw [List.getElem?_take] at hc hv'
    split at hc
    · rename_i hj
      rw [if_pos hj] at hv'
      rw [List.getElem?_drop] at hc hv'
      exact hv _ _ _ hc hv'
    · cases hc
  | false =>
    obtain rfl := hn1 rfl
    have hlt : off < vs.length := by omega
    refine ⟨vs[off], by simp [part, hr, hlt], ?_⟩
    have hlc : off < cs.length := by omega
    have : partD cs off 1 false = cs[off] := by simp [partD, hlc]
    rw [this]
    exact Val.of_cel (hv off _ _ (List.getElem?_eq_getElem hlc) (List.getElem?_eq_getElem hlt))

end
end Go.Dw
