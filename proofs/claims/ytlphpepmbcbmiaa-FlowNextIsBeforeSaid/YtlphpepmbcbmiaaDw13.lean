/-
  THE LAYER Dw, PART 13: every operation does what 'evalOp' says.
-/
import Derived.Test.YtlphpepmbcbmiaaDw12
namespace Go.Dw

section
variable {N : Nat} {w0 : World} {F0 : Fz} {M : Nat → Prop} {B0 : Bt} {σ : S} {F : Fz} {β : Bt} {a : Act} {w : World} {P : Program}

/-- operands of one operation, all of them -/
theorem args_ok (h : Sim N w0 F0 M B0 σ F β a w) : ∀ {xs : List Operand} {ys : List Arg}, cArgs xs = some ys → ((rdAs ys).run σ).length = xs.length ∧ ∀ (q : Nat) d x, ((rdAs ys).run σ)[q]? = some d → (xs.map a.eval)[q]? = some x → Env F β d x
  | [], ys, hy => by
    simp [cArgs] at hy
    subst hy
    exact ⟨rfl, fun q d x hq => by simp [rdAs] at hq⟩
  | x :: xs, ys, hy => by
    simp only [cArgs, List.mapM_cons, Option.bind_eq_bind, Option.bind_eq_some_iff] at hy
    obtain ⟨y, hy1, ys', hy2, hy3⟩ := hy
    cases hy3
    obtain ⟨l, r⟩ := args_ok h (xs := xs) (ys := ys') hy2
    refine ⟨by simp [rdAs, l], fun q d x' hq hx => ?_⟩
    simp only [rdAs, R.run_bind, R.run_pure] at hq
    rcases q with _ | q
    · simp only [List.getElem?_cons_zero, Option.some.injEq, List.map_cons] at hq hx
      subst hq; subst hx
      exact arg_ok h hy1
    · simp only [List.getElem?_cons_succ, List.map_cons] at hq hx
      exact r q d x' hq hx

theorem rdA_run (y : Arg) (σ : S) : (rdA y).run σ = strip ((raw y).run σ) := by simp [rdA]

/-- a value or a cell that a call can be handed -/
theorem env_val_of_res {d : D} {x : Value} (h : Env F β d x) (hc : ((res d).run σ).1) : Val F β d x := by
  cases d <;> first | exact h | exact hc.elim

theorem env_val_of_arg1 {ptr : List (Nat × (Nat × Nat))} {d : D} {j : Nat} (hc : ((callArg ptr j d).run σ).1) {x : Value} (h : Env F β d x) : Val F β d x := by
  cases d <;> first | exact h | skip
  exfalso
  simp only [callArg, plainArg] at hc
  split at hc
  · exact hc
  · exact hc.elim
theorem env_val_of_arg {ptr : List (Nat × (Nat × Nat))} : ∀ (ds : List D) (j q : Nat) (d : D), ((callArgs ptr j ds).run σ).1 → ds[q]? = some d → ∀ x, Env F β d x → Val F β d x
  | [], _, q, d, _, hq, x, _ => by simp at hq
  | d0 :: ds, j, q, d, hc, hq, x, hx => by
    unfold callArgs at hc
    simp only [R.run_bind, R.run_pure] at hc
    rcases q with _ | q
    · simp only [List.getElem?_cons_zero, Option.some.injEq] at hq
      subst hq
      exact env_val_of_arg1 hc.1 hx
    · exact env_val_of_arg ds (j + 1) q d hc.2.1 (by simpa using hq) x hx

theorem Snd.false {o : Oper} {nv : Nat} {u : Out} (h : u.c → False) (hc : u.c) : Snd P N w0 F0 M B0 σ β a w o nv u := (h hc).elim

theorem snd_call {Γ : Specs} (hΓ : ∀ k sp, Γ k = some sp → SpecOk P (k % 4096) sp) (h : Sim N w0 F0 M B0 σ F β a w) {nv : Nat} (hnv : β nv = none) {o : Oper} (hd : ∀ t, o.dst = some t → t < N) (htr : ∀ t, o.dst = some t → rich t = false)
    {f : Operand} {as : Array Operand} {ts : Array TypeId} (ho : o.op = .call { callee := .value f, args := as, argTypes := ts }) {fa : Arg} {ys : List Arg} (hf : cArg f = some fa) (hy : cArgs as.toList = some ys)
    (hc : ((evalOp Γ nv o.dst (.call fa ys)).run σ).c) : Snd P N w0 F0 M B0 σ β a w o nv ((evalOp Γ nv o.dst (.call fa ys)).run σ) := by
  have hfe := arg_ok h hf
  simp only [evalOp, R.run_bind] at hc ⊢
  generalize (raw fa).run σ = fd at *
  cases fd <;> try exact hc.elim
  case clo k caps =>
    simp only [R.run_bind] at hc ⊢
    cases hkb : Nat.blt k 4096 with
    | false => rw [hkb] at hc; exact hc.elim
    | true =>
    rw [hkb] at hc
    have hkm : (k + 4096 * kcode ((rdAs ys).run σ)) % 4096 = k := by
      have : k < 4096 := by simpa [Nat.blt_eq] using hkb
      omega
    cases hG : Γ (k + 4096 * kcode ((rdAs ys).run σ)) with
    | none => rw [hG] at hc; exact hc.elim
    | some sp =>
      rw [hG] at hc
      simp only at hc ⊢
      have hsp := hΓ _ sp hG
      rw [hkm] at hsp
      obtain ⟨vs, hvs, hvl, hvr⟩ := hfe
      obtain ⟨l, r⟩ := args_ok h hy
      obtain ⟨fn, hfn, hnm, hbd⟩ := hsp.1
      have hrun : (execOp a.eval o).run P w = .ok (.enter k (as.toList.map a.eval ++ vs).toArray) w := by
        unfold execOp
        simp only [ho]
        have e1 : (as.map a.eval ++ vs.toArray) = (as.toList.map a.eval ++ vs).toArray := by
          apply Array.ext'
          simp
        have hnm' : ¬ fn.name = "runtime.NumGoroutine" := by simpa using hnm
        have hbd' : ¬ fn.body = none := by intro e; rw [e] at hbd; cases hbd
        rw [← e1]
        simp [resolve, Deferred.ofValue, hvs, invoke, callFunc, hfn, hnm', hbd']
      cases hin : inplOf sp.kind with
      | some q =>
        rw [hin] at hc
        simp only [R.run_bind] at hc ⊢
        have hall : ∀ (j : Nat) d x, ((rdAs ys).run σ ++ caps)[j]? = some d → (as.toList.map a.eval ++ vs)[j]? = some x → Env F β d x := by
          intro j d x hq hx
          by_cases hlt : j < as.toList.length
          · rw [List.getElem?_append_left (by rw [l]; exact hlt)] at hq
            rw [List.getElem?_append_left (by simpa using hlt)] at hx
            exact r j d x hq hx
          · rw [List.getElem?_append_right (by rw [l]; omega), l] at hq
            rw [List.getElem?_append_right (by simp at hlt ⊢; omega)] at hx
            simp only [List.length_map] at hx
            exact Env.of_val (Val.of_cel (Cel.of_ref (hvr _ d x hq hx)))
        have hcall := inpl_ok (hsp.2.1 q hin) h hd (ds := (rdAs ys).run σ ++ caps) (xs := as.toList.map a.eval ++ vs) (by simp [l, hvl]) hall hc
        intro K Q hK
        unfold Oper.wp
        rw [hrun]
        simp only [Oper.upon]
        refine hcall.mono ?_
        rintro e w' ⟨v, F', β', rfl, b1, b2, b3⟩
        exact hK _ _ _ _ b3 b1 fun x _ => b2 x
      | none =>
      rw [hin] at hc
      simp only [R.run_bind, R.run_pure] at hc ⊢
      have hcargs : ((callArgs sp.ptr 0 ((rdAs ys).run σ ++ caps)).run σ).1 := by
        unfold callOut at hc
        split at hc
        · exact hc.1
        · exact hc.1
        · split at hc
          · exact hc.1
          · exact hc.elim
        · split at hc
          · exact hc.1
          · exact hc.elim
        · exact hc.1
        · split at hc
          · exact hc.1
          · exact hc.elim
        · exact hc.elim
      have hall : ∀ (q : Nat) d x, ((rdAs ys).run σ ++ caps)[q]? = some d → (as.toList.map a.eval ++ vs)[q]? = some x → Val F β d x := by
        intro q d x hq hx
        refine env_val_of_arg _ 0 q d hcargs hq x ?_
        by_cases hlt : q < as.toList.length
        · rw [List.getElem?_append_left (by rw [l]; exact hlt)] at hq
          rw [List.getElem?_append_left (by simpa using hlt)] at hx
          exact r q d x hq hx
        · rw [List.getElem?_append_right (by rw [l]; omega), l] at hq
          rw [List.getElem?_append_right (by simp at hlt ⊢; omega)] at hx
          simp only [List.length_map] at hx
          exact Env.of_val (Val.of_cel (Cel.of_ref (hvr _ d x hq hx)))
      have hcall := call_ok hsp h hnv hd htr (ds := (rdAs ys).run σ ++ caps) (xs := as.toList.map a.eval ++ vs) (by simp [l, hvl]) hall rfl hc
      intro K Q hK
      unfold Oper.wp
      rw [hrun]
      simp only [Oper.upon]
      refine hcall.mono ?_
      rintro e w' ⟨v, F', β', rfl, b1, b2, b3⟩
      exact hK _ _ _ _ b3 b1 b2

theorem rdParts_ok (h : Sim N w0 F0 M B0 σ F β a w) {places : Nat → Option (Nat × Nat)} : ∀ (parts : List (Nat × Operand)) (ps : List (Nat × Nat × Arg)), cParts places parts = some ps →
    ((rdParts ps).run σ).length = parts.length ∧ ∀ (q : Nat) i x off s d, (parts.map fun p => (p.1, a.eval p.2))[q]? = some (i, x) → ((rdParts ps).run σ)[q]? = some (off, s, d) → places i = some (off, s) ∧ Env F β d x
  | [], ps, hp => by
    simp only [cParts, Option.some.injEq] at hp
    subst hp
    exact ⟨rfl, fun q i x off s d hq => by simp at hq⟩
  | (i0, x0) :: parts, ps, hp => by
    simp only [cParts, Option.bind_eq_bind, Option.bind_eq_some_iff] at hp
    obtain ⟨⟨off0, s0⟩, h1, y, h2, r', h3, h4⟩ := hp
    cases h4
    obtain ⟨l, r⟩ := rdParts_ok h parts r' h3
    refine ⟨by simp [rdParts, l], fun q i x off s d hq hd => ?_⟩
    simp only [rdParts, R.run_bind, R.run_pure] at hd
    rcases q with _ | q
    · simp only [List.map_cons, List.getElem?_cons_zero, Option.some.injEq, Prod.mk.injEq] at hq hd
      obtain ⟨rfl, rfl⟩ := hq
      obtain ⟨rfl, rfl, rfl⟩ := hd
      exact ⟨h1, arg_ok h h2⟩
    · simp only [List.map_cons, List.getElem?_cons_succ] at hq hd
      exact r q i x off s d hq hd

theorem rdElems_ok (h : Sim N w0 F0 M B0 σ F β a w) : ∀ (parts : List (Nat × Operand)) (ps : List (Nat × Arg)), cElems parts = some ps → ((rdElems ps).run σ).1 →
    FzList σ ((rdElems ps).run σ).2.2 ∧ ((rdElems ps).run σ).2.1.length = parts.length ∧
      ∀ (ws : List (Nat × Obj?)) F', FzList σ ws → (∀ p ∈ ((rdElems ps).run σ).2.2, p ∈ ws) → Fsub F F' → Sim N w0 F0 M B0 ⟨σ.e, ws ++ σ.o, σ.n⟩ F' β a w →
        ∀ (q : Nat) i x i' d, (parts.map fun p => (p.1, a.eval p.2))[q]? = some (i, x) → ((rdElems ps).run σ).2.1[q]? = some (i', d) → i = i' ∧ Fro F' d x
  | [], ps, hp, _ => by
    simp only [cElems, Option.some.injEq] at hp
    subst hp
    exact ⟨FzList.nil σ, rfl, fun _ _ _ _ _ _ q i x i' d hq => by simp at hq⟩
  | (i0, x0) :: parts, ps, hp, hc => by
    simp only [cElems, Option.bind_eq_bind, Option.bind_eq_some_iff] at hp
    obtain ⟨y, h2, r', h3, h4⟩ := hp
    cases h4
    simp only [rdElems, R.run_bind, R.run_pure] at hc ⊢
    obtain ⟨hc1, hc2⟩ := hc
    obtain ⟨f1, r1⟩ := res_ok h _ (env_val_of_res (arg_ok h h2) hc1) hc1
    obtain ⟨f2, l2, r2⟩ := rdElems_ok h parts r' h3 hc2
    refine ⟨f1.append f2, by simp [l2], fun ws F' q1 q2 q3 q4 q i x i' d hq hd => ?_⟩
    rcases q with _ | q
    · simp only [List.map_cons, List.getElem?_cons_zero, Option.some.injEq, Prod.mk.injEq] at hq hd
      obtain ⟨rfl, rfl⟩ := hq
      obtain ⟨rfl, rfl⟩ := hd
      exact ⟨rfl, r1 ws F' q1 (fun p hp => q2 p (by simp [hp])) q3 q4⟩
    · simp only [List.map_cons, List.getElem?_cons_succ] at hq hd
      exact r2 ws F' q1 (fun p hp => q2 p (by simp [hp])) q3 q4 q i x i' d hq hd

theorem opt_ok (h : Sim N w0 F0 M B0 σ F β a w) {x? : Option Operand} {y? : Option Arg} (hy : cOpt x? = some y?) :
    (∀ d, (rdOpt y?).run σ = some d → ∃ x, x?.map a.eval = some x ∧ Env F β d x) ∧ ((rdOpt y?).run σ = none → x?.map a.eval = none) := by
  cases x? with
  | none =>
    simp only [cOpt, Option.some.injEq] at hy
    subst hy
    exact ⟨fun d hd => by simp [rdOpt] at hd, fun _ => rfl⟩
  | some x =>
    simp only [cOpt, Option.bind_eq_bind, Option.bind_eq_some_iff] at hy
    obtain ⟨y, h1, h2⟩ := hy
    cases h2
    simp only [rdOpt, R.run_bind, R.run_pure, Option.some.injEq]
    exact ⟨fun d hd => by subst hd; exact ⟨_, rfl, arg_ok h h1⟩, fun e => by cases e⟩

theorem env_bound {d : D} {n : Int} {x : Value} (h : Env F β d x) (hb : (bound (some d) n).1) : Val F β d x := by
  cases d <;> first | exact h | exact hb.elim

end
end Go.Dw
