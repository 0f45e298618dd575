/-
  THE LAYER Dw, PART 21: functions: from a body's 'DWp' to 'SpecOk'.
-/
import Derived.Test.YtlphpepmbcbmiaaDw20
namespace Go.Dw

inductive DRes where
  | t (n : Nat)
  | c (a n : Nat) (agg : Bool)

def cRes (P : Program) : ResultVar → Option DRes
  | .tmp t => some (.t t)
  | .cell a ty => if aggT P ty then some (.c a (P.cellsOf ty) true) else if (P.underlying ty).isSome then some (.c a 1 false) else none

def resR : DRes → R (Prop × D)
  | .t n => do
    let (p, d) ← rdA (.t n)
    pure (p = true, d)
  | .c a n agg => do
    let (p, d) ← rdA (.t a)
    let (c, e, off) ← atPtr d
    pure (p = true ∧ c ∧ off + n ≤ (cells e).length, partD (cells e) off n agg)

/-- a result without references -/
def retV (r : DRes) : R (Prop × D × List (Nat × Obj?)) := do
  let (c, d) ← resR r
  let (c', d', w) ← res d
  pure (c ∧ c', d', w)

/-- the contents behind an own pointer -/
def retP (s ty : Nat) (d : D) : R (Prop × D × List (Nat × Obj?) × Nat) :=
  match d with
  | .optr g v i off => .go g fun
    | some (v', o) => do
      let (c, e', w) ← res (o.es.getD 0 .top)
      pure ((v = v' ∧ i = 0 ∧ off = 0 ∧ o.fz = false ∧ o.var = true ∧ o.es.length = 1 ∧ o.s = s ∧ o.ty = ty) ∧ c, e', w, g)
    | none => .ret (False, .top, [], 0)
  | _ => .ret (False, .top, [], 0)

/-- the contents behind a pointer that was handed over: slices of its own remain its own -/
def retE (s ty : Nat) (d : D) : R (Prop × D × List (Nat × Obj?)) :=
  match d with
  | .optr g v i off => .go g fun
    | some (v', o) => do
      let (c, e', w) ← pas (rich g) (o.es.getD 0 .top)
      pure ((v = v' ∧ i = 0 ∧ off = 0 ∧ o.fz = false ∧ o.var = true ∧ o.es.length = 1 ∧ o.s = s ∧ o.ty = ty) ∧ c, e', w)
    | none => .ret (False, .top, [])
  | _ => .ret (False, .top, [])

/-- the row behind an own slice -/
def retS (r : Bool) (s ty : Nat) (d : D) : R (Prop × D × Nat) :=
  match d with
  | .osl g v i n => .go g fun
    | some (v', o) => .ret (v = v' ∧ i = 0 ∧ n ≤ o.es.length ∧ o.fz = false ∧ o.var = false ∧ o.s = s ∧ o.ty = ty ∧ rich g = r ∧ (r = true → ∀ e ∈ o.es, ∀ c ∈ cells e, ∀ u m, c ≠ .hole u m), .sl (o.es.take n), g)
    | none => .ret (False, .top, 0)
  | _ => .ret (False, .top, 0)

def retVs : List DRes → R (Prop × List D × List (Nat × Obj?))
  | [] => .ret (True, [], [])
  | r :: rs => do
    let (c, d, w) ← retV r
    let (c', ds, w') ← retVs rs
    pure (c ∧ c', d :: ds, w ++ w')

/-- the contents of the variables that were handed over -/
def effR : List (Nat × (Nat × Nat)) → R (Prop × List D × List (Nat × Obj?))
  | [] => .ret (True, [], [])
  | (j, (s, ty)) :: r => do
    let (c, e, w) ← retE s ty (.optr (8192 + j) j 0 0)
    let (c', es, w') ← effR r
    pure (c ∧ c', e :: es, w ++ w')

/-- the places of the pointers among the arguments -/
def capKeys (ptr : List (Nat × (Nat × Nat))) : Nat → List D → List Nat
  | _, [] => []
  | j, _ :: r => (match look ptr j with | some _ => [j] | none => []) ++ capKeys ptr (j + 1) r
def argKeys (ptr : List (Nat × (Nat × Nat))) : Nat → List D → List Nat
  | _, [] => []
  | j, d :: r => (match look ptr j with | some _ => [j] | none => match d with | .clo _ caps => capKeys ptr (64 * (j + 1)) caps | _ => []) ++ argKeys ptr (j + 1) r
def initC (ptr : List (Nat × (Nat × Nat))) : Nat → List D → List D
  | _, [] => []
  | j, d :: r => (match look ptr j with | some _ => .optr (8192 + j) j 0 0 | none => d) :: initC ptr (j + 1) r
def initD (ptr : List (Nat × (Nat × Nat))) (j : Nat) (d : D) : D :=
  match look ptr j with
  | some _ => .optr (8192 + j) j 0 0
  | none => match d with | .clo f caps => .clo f (initC ptr (64 * (j + 1)) caps) | d => d
def initE (ptr : List (Nat × (Nat × Nat))) : Nat → List D → List (Nat × D)
  | _, [] => []
  | j, d :: r => (j, initD ptr j d) :: initE ptr (j + 1) r
def capO (ptr : List (Nat × (Nat × Nat))) : Nat → List D → List (Nat × Obj?)
  | _, [] => []
  | j, d :: r => (match look ptr j with | some (s, ty) => [(8192 + j, some (j, ⟨false, true, s, ty, [d]⟩))] | none => []) ++ capO ptr (j + 1) r
def initO (ptr : List (Nat × (Nat × Nat))) : Nat → List D → List (Nat × Obj?)
  | _, [] => []
  | j, d :: r => (match look ptr j with | some (s, ty) => [(8192 + j, some (j, ⟨false, true, s, ty, [d]⟩))] | none => match d with | .clo _ caps => capO ptr (64 * (j + 1)) caps | _ => []) ++ initO ptr (j + 1) r
def initS (sp : Spec) (ds : List D) : S := ⟨initE sp.ptr 0 ds, initO sp.ptr 0 ds, 262144⟩
def ptrOk (ptr : List (Nat × (Nat × Nat))) : Bool := (ptr.map Prod.fst).all (fun k => Nat.blt k 262144) && decide (ptr.map Prod.fst).Nodup

/-- what must hold where a function returns -/
def RetOk (sp : Spec) (rs : List DRes) (ds : List D) (τ : S) : Prop :=
  ((effR sp.ptr).run τ).1 ∧ ((effR sp.ptr).run τ).2.1 = sp.eff ds ∧
  match sp.kind, rs with
  | .val, [r] | .ground, [r] => ((retV r).run τ).1 ∧ ((retV r).run τ).2.1 = sp.res ds
  | .val, rs | .ground, rs => ((retVs rs).run τ).1 ∧ .tup ((retVs rs).run τ).2.1 = sp.res ds ∧ rs.length ≠ 1
  | .row s ty, [r] => ((resR r).run τ).1 ∧ ((retS false s ty ((resR r).run τ).2).run τ).1 ∧ ((retS false s ty ((resR r).run τ).2).run τ).2.1 = sp.res ds ∧ ((effR sp.ptr).run τ).2.2.all (fun x => x.1 != ((retS false s ty ((resR r).run τ).2).run τ).2.2) = true
  | .mat s ty, [r] => ((resR r).run τ).1 ∧ ((retS true s ty ((resR r).run τ).2).run τ).1 ∧ ((retS true s ty ((resR r).run τ).2).run τ).2.1 = sp.res ds ∧ sp.ptr = []
  | .ptr s ty, [r] => ((resR r).run τ).1 ∧ ((retP s ty ((resR r).run τ).2).run τ).1 ∧ ((retP s ty ((resR r).run τ).2).run τ).2.1 = sp.res ds ∧ sp.ptr = []
  | .tupPtr q s ty, rs => q < rs.length ∧ rs.length ≠ 1 ∧ sp.ptr = [] ∧ ((retVs (rs.take q)).run τ).1 ∧ ((retVs (rs.drop (q + 1))).run τ).1 ∧ ((resR (rs.getD q (.t 0))).run τ).1 ∧ ((retP s ty ((resR (rs.getD q (.t 0))).run τ).2).run τ).1 ∧
      .tup (((retVs (rs.take q)).run τ).2.1 ++ ((retP s ty ((resR (rs.getD q (.t 0))).run τ).2).run τ).2.1 :: ((retVs (rs.drop (q + 1))).run τ).2.1) = sp.res ds
  | _, _ => False

def FunOk (Γ : Specs) (sp : Spec) (np : Nat) (rs : List DRes) (c : DCode) : Prop :=
  ∀ ds, sp.pre ds → ds.length = np ∧ argKeys sp.ptr 0 ds = sp.ptr.map Prod.fst → Wk (DWp Γ c (fun e τ => match e with | .exit _ => False | _ => Wk (RetOk sp rs ds) τ)) (initS sp ds)

section
variable {N : Nat} {w0 : World} {F0 : Fz} {M : Nat → Prop} {B0 : Bt} {P : Program} {σ : S} {F : Fz} {β : Bt} {a : Act} {w : World}

theorem resR_ok (h : Sim N w0 F0 M B0 σ F β a w) {rv : ResultVar} {r : DRes} (hr : cRes P rv = some r) (hc : ((resR r).run σ).1) :
    ∃ v, (match rv with | .tmp t => (pure (a.tmps.getD t undef) : Sem Value) | .cell c t => (do loadVar t (← asAddr (a.tmps.getD c undef)) : Sem Value)).run P w = .ok v w ∧ Val F β ((resR r).run σ).2 v := by
  cases rv with
  | tmp t =>
    simp only [cRes, Option.some.injEq] at hr
    subst hr
    simp only [resR, R.run_bind, R.run_pure] at hc ⊢
    refine ⟨_, rfl, ?_⟩
    have := (h.env t).strip (by simpa [rdA, raw] using hc)
    simpa [rdA, raw] using this
  | cell c ty =>
    simp only [cRes] at hr
    have key : ∀ (n : Nat) (agg : Bool), r = .c c n agg → aggT P ty = agg → (P.underlying ty).isSome = true → (agg = true → P.info? ty ≠ none ∧ n = P.cellsOf ty) → (agg = false → n = 1) → ∃ v, (do loadVar ty (← asAddr (a.tmps.getD c undef)) : Sem Value).run P w = .ok v w ∧ Val F β ((resR r).run σ).2 v := by
      rintro n agg rfl h1 h2 h3 h4
      simp only [resR, R.run_bind, R.run_pure, rdA, raw, R.run] at hc ⊢
      obtain ⟨q1, q2, q3⟩ := hc
      have hv := (h.env c).strip q1
      obtain ⟨v, r1, r2⟩ := load_ok (P := P) h hv q2 ty n agg h1 h2 h3 h4 q3
      obtain ⟨b, o, hx, _⟩ := atPtr_ok h hv q2
      refine ⟨v, ?_, r2⟩
      rw [hx] at r1 ⊢
      simpa [Instr.loadAt, Instr.sureAddr, asAddr] using r1
    split at hr
    · rename_i hagg
      cases hr
      have hu := under_of_agg hagg
      obtain ⟨td, htd⟩ := Option.isSome_iff_exists.1 hu
      exact key _ _ rfl hagg hu (fun _ => ⟨info_of_under htd, rfl⟩) (fun e => by cases e)
    · rename_i hagg
      split at hr
      · rename_i hu
        cases hr
        exact key _ _ rfl (by simpa using hagg) hu (fun e => by cases e) (fun _ => rfl)
      · cases hr

end
end Go.Dw
