/-
  THE LAYER Dx, PART 2: the rules for operations.
-/
import Derived.Test.YtlphpepmbcbmiaaDx1
namespace Go.Dw

def rdK : Arg → List Key
  | .t n => [.e n]
  | .c _ => []
def lkO (o : List (Nat × Obj?)) (g : Nat) : Obj? := (lookB o g).getD none
def gOn (e : List (Nat × D)) : Option (Nat × Bool) → Bool
  | none => true
  | some (t, want) => match (lookB e t).getD .top with
    | .bool b => b == want
    | .when p (.bool b) => p && (b == want)
    | _ => false
def gOff (e : List (Nat × D)) : Option (Nat × Bool) → Bool
  | none => false
  | some (t, want) => match (lookB e t).getD .top with
    | .bool b => !(b == want)
    | .when p (.bool b) => !(p && (b == want))
    | _ => false
def gK : Option (Nat × Bool) → List Key
  | none => []
  | some (t, _) => [.e t]

section
variable {Γ : Specs} {X : Type} {K : X → S → Prop} {t t1 t2 : Option X} {e : List (Nat × D)} {o : List (Nat × Obj?)} {n nv : Nat} {d : Bool} {acc : List Foot}
  {r : List DOper} {dst : Nat} {g : Option (Nat × Bool)} {af : List Nat} {α : Type}

@[simp] theorem raw_run (x : Arg) : (raw x).run ⟨e, o, n⟩ = (rdArg e x).getD .top := by cases x <;> simp [raw, rdArg, lookB_eq, S.ge]
@[simp] theorem raw_rd (x : Arg) : (raw x).rd ⟨e, o, n⟩ = rdK x := by cases x <;> rfl
@[simp] theorem go_lk (i : Nat) : (S.mk e o n).go i = lkO o i := by simp [S.go, lkO, lookB_eq]
@[simp] theorem rdA_run' (x : Arg) : (rdA x).run ⟨e, o, n⟩ = strip ((rdArg e x).getD .top) := by simp [rdA]
@[simp] theorem rdA_rd' (x : Arg) : (rdA x).rd ⟨e, o, n⟩ = rdK x := by simp [rdA]

/-! typed steps -/
theorem trO_bind {α : Type} {ops : List DOper} {σ : S} {m : Option α} {k : α → Option X} (h : ∀ x, m = some x → TrO Γ ops nv σ d acc K (k x)) : TrO Γ ops nv σ d acc K (m.bind k) := by
  intro r hr
  obtain ⟨x, hx, hk⟩ := Option.bind_eq_some_iff.1 hr
  exact h x hx r hk
theorem trO_chk {ops : List DOper} {σ : S} {p : Prop} [Decidable p] (h : p → TrO Γ ops nv σ d acc K t) : TrO Γ ops nv σ d acc K (chk p t) := by
  intro r hr
  obtain ⟨hp, ht⟩ := chk_some hr
  exact h hp r ht

/-- an operation that is done -/
theorem trO_op {dst : Option Nat} {op : DOp} {c : Prop} {we : List (Nat × D)} {wo : List (Nat × Obj?)} {rd : List Key} (hg : gOn e g = true)
    (hu : (evalOp Γ nv dst op).run ⟨e, o, n⟩ = ⟨c, we, wo⟩) (hrd : (evalOp Γ nv dst op).rd ⟨e, o, n⟩ = rd) (hc : c)
    (h : TrO Γ r (nv + 1) ⟨we ++ e, wo ++ o, n⟩ d (acc ++ [(gK g ++ rd, we.map (fun x => .e x.1) ++ wo.map (fun x => .o x.1), af)]) K t) :
    TrO Γ (⟨dst, op, g, af⟩ :: r) nv ⟨e, o, n⟩ d acc K t := by
  intro x hx
  obtain ⟨h1, h2⟩ := h x hx
  have key : ((evalOper Γ nv ⟨dst, op, g, af⟩).run ⟨e, o, n⟩).c ∧ ((evalOper Γ nv ⟨dst, op, g, af⟩).run ⟨e, o, n⟩).we = we ∧ ((evalOper Γ nv ⟨dst, op, g, af⟩).run ⟨e, o, n⟩).wo = wo ∧
      (evalOper Γ nv ⟨dst, op, g, af⟩).rd ⟨e, o, n⟩ = gK g ++ rd := by
    cases g with
    | none =>
      simp only [evalOper, hu, hrd, gK]
      exact ⟨hc, trivial, trivial, rfl⟩
    | some p =>
      obtain ⟨tt, want⟩ := p
      have hg2 : (guardOf ((S.mk e o n).ge tt) want).2 = true ∧ (guardOf ((S.mk e o n).ge tt) want).1 := by
        simp only [gOn, lookB_eq] at hg
        simp only [S.ge]
        generalize (look e tt).getD .top = dd at *
        cases dd <;> simp_all [guardOf]
        rename_i p dd
        cases dd <;> simp_all
      simp only [evalOper, R.run_ge, R.rd_ge, hg2.1, if_true, R.run_bind, R.rd_bind, R.run_pure, R.rd_pure, hu, hrd, gK]
      exact ⟨⟨hg2.2, hc⟩, trivial, trivial, by simp⟩
  obtain ⟨k1, k2, k3, k4⟩ := key
  have happ : (S.mk e o n).app ((evalOper Γ nv ⟨dst, op, g, af⟩).run ⟨e, o, n⟩) = ⟨we ++ e, wo ++ o, n⟩ := by simp [S.app, k2, k3]
  refine ⟨⟨k1, by rw [happ]; exact h1⟩, fun hd => ?_⟩
  have := h2 hd
  simp only [feet, k2, k3, k4, happ]
  simpa using this

/-- an operation that is left out -/
theorem trO_off {op : DOp} (hg : gOff e g = true)
    (h : TrO Γ r (nv + 1) ⟨(dst, .when false (.bool false)) :: e, o, n⟩ d (acc ++ [(gK g, [.e dst], af)]) K t) : TrO Γ (⟨some dst, op, g, af⟩ :: r) nv ⟨e, o, n⟩ d acc K t := by
  intro x hx
  obtain ⟨h1, h2⟩ := h x hx
  cases g with
  | none => cases hg
  | some p =>
    obtain ⟨tt, want⟩ := p
    have hg2 : (guardOf ((S.mk e o n).ge tt) want).2 = false ∧ (guardOf ((S.mk e o n).ge tt) want).1 := by
      simp only [gOff, lookB_eq] at hg
      simp only [S.ge]
      generalize (look e tt).getD .top = dd at *
      cases dd with
      | bool b => simp_all [guardOf]
      | when p dd =>
        cases dd with
        | bool b => cases p <;> simp_all [guardOf]
        | _ => simp at hg
      | _ => simp at hg
    have hu : (evalOper Γ nv ⟨some dst, op, some (tt, want), af⟩).run ⟨e, o, n⟩ = ⟨(guardOf ((S.mk e o n).ge tt) want).1, [(dst, .when false (.bool false))], []⟩ := by
      simp [evalOper, hg2.1, put1]
    have hr : (evalOper Γ nv ⟨some dst, op, some (tt, want), af⟩).rd ⟨e, o, n⟩ = [.e tt] := by
      simp [evalOper, hg2.1]
    refine ⟨⟨by rw [hu]; exact hg2.2, by rw [hu]; exact h1⟩, fun hd => ?_⟩
    have := h2 hd
    simp only [feet, hu, hr]
    simpa [gK, S.app] using this

/-- an entry replaced -/
def setKey : List (Nat × D) → Nat → D → List (Nat × D)
  | [], _, _ => []
  | (k, y) :: r, t, v => bif Nat.beq t k then (k, v) :: r else (k, y) :: setKey r t v
theorem setKey_same : ∀ {e : List (Nat × D)} {x : Nat} {v : D}, lookB e x = some v → setKey e x v = e
  | [], _, _, h => by cases h
  | (k, y) :: r, x, v, h => by
    simp only [lookB] at h
    simp only [setKey]
    cases hb : Nat.beq x k with
    | true =>
      rw [hb] at h
      cases h
      rfl
    | false =>
      rw [hb] at h
      simp only [cond_false] at h ⊢
      rw [setKey_same h]

/-- at a guard that isn't known -/
theorem trO_split {ops : List DOper} (x : Nat) {b : Bool} (hx : lookB e x = some (.bool b)) (h1 : TrO Γ ops nv ⟨setKey e x (.bool true), o, n⟩ d acc K t1) (h2 : TrO Γ ops nv ⟨setKey e x (.bool false), o, n⟩ d acc K t2) :
    TrO Γ ops nv ⟨e, o, n⟩ d acc K (bif b then t1 else t2) := by
  cases b with
  | true => rw [setKey_same hx] at h1; exact h1
  | false => rw [setKey_same hx] at h2; exact h2

/-! ### The operations -/
variable {x y : Arg} {v w : D} {k k' : IntKind} {a b : Int} {s ty gi vi ii off m : Nat} {fz var : Bool} {es : List D} {z z' : D} {l l' : List α} {en : α → D}

attribute [local simp] evalOp put1 putO pure1 strip atPtr
theorem strip_optr (p q u w : Nat) : strip (.optr p q u w) = (true, .optr p q u w) := rfl
theorem strip_bool (p : Bool) : strip (.bool p) = (true, .bool p) := rfl

theorem trO_mv (hg : gOn e g = true) (hx : rdArg e x = some v) (h : TrO Γ r (nv + 1) ⟨(dst, v) :: e, o, n⟩ d (acc ++ [(gK g ++ rdK x, [.e dst], af)]) K t) :
    TrO Γ (⟨some dst, .mv x, g, af⟩ :: r) nv ⟨e, o, n⟩ d acc K t :=
  trO_op hg (c := True) (we := [(dst, v)]) (wo := []) (rd := rdK x) (by simp [hx]) (by simp) trivial h

theorem trO_asg (hg : gOn e g = true) (hx : rdArg e x = some v) (h : TrO Γ r (nv + 1) ⟨(dst, v) :: e, o, n⟩ d (acc ++ [(gK g ++ rdK x, [.e dst], af)]) K t) :
    TrO Γ (⟨some dst, .asg x none, g, af⟩ :: r) nv ⟨e, o, n⟩ d acc K t :=
  trO_op hg (c := True) (we := [(dst, v)]) (wo := []) (rd := rdK x) (by cases v <;> simp [hx]) (by cases v <;> simp [hx]) trivial h

theorem trO_asg_nil (hg : gOn e g = true) (en : α → D) (hx : rdArg e x = some .nils) (h : TrO Γ r (nv + 1) ⟨(dst, .osl dst nv 0 ([] : List α).length) :: e, (dst, some (nv, ⟨false, false, s, ty, ([] : List α).map en⟩)) :: o, n⟩ d (acc ++ [(gK g ++ rdK x, [.e dst, .o dst], af)]) K t) :
    TrO Γ (⟨some dst, .asg x (some (s, ty)), g, af⟩ :: r) nv ⟨e, o, n⟩ d acc K t :=
  trO_op hg (c := True) (we := [(dst, .osl dst nv 0 0)]) (wo := [(dst, some (nv, ⟨false, false, s, ty, []⟩))]) (rd := rdK x) (by simp [hx]) (by simp [hx]) trivial h

theorem trO_asg_sl (hg : gOn e g = true) (hx : rdArg e x = some (.sl es)) (h : TrO Γ r (nv + 1) ⟨(dst, .sl es) :: e, o, n⟩ d (acc ++ [(gK g ++ rdK x, [.e dst], af)]) K t) :
    TrO Γ (⟨some dst, .asg x (some (s, ty)), g, af⟩ :: r) nv ⟨e, o, n⟩ d acc K t :=
  trO_op hg (c := True) (we := [(dst, .sl es)]) (wo := []) (rd := rdK x) (by simp [hx]) (by simp [hx]) trivial h

theorem trO_asg_own {s' ty' q : Nat} (hq : q = l.length) (hg : gOn e g = true) (hx : rdArg e x = some (.osl gi vi 0 q)) (ho : lkO o gi = some (vi, ⟨false, false, s, ty, l.map en⟩))
    (h : TrO Γ r (nv + 1) ⟨(dst, .osl dst nv 0 l.length) :: e, (dst, some (nv, ⟨false, false, s, ty, l.map en⟩)) :: (gi, none) :: o, n⟩ d (acc ++ [(gK g ++ (rdK x ++ [.o gi]), [.e dst, .o dst, .o gi], af)]) K t) (hrg : rich gi = false := by rfl) :
    TrO Γ (⟨some dst, .asg x (some (s', ty')), g, af⟩ :: r) nv ⟨e, o, n⟩ d acc K t :=
  trO_op hg (c := True) (we := [(dst, .osl dst nv 0 l.length)]) (wo := [(dst, some (nv, ⟨false, false, s, ty, l.map en⟩)), (gi, none)]) (rd := rdK x ++ [Key.o gi]) (by subst hq; simp [hx, ho, hrg, nmR, putR]; exact List.take_of_length_le (by simp)) (by simp [hx, ho]) trivial h

/-- a shorter slice of the same object -/
theorem trO_asg_cut {s' ty' q : Nat} (hg : gOn e g = true) (hx : rdArg e x = some (.osl gi vi 0 q)) (ho : lkO o gi = some (vi, ⟨false, false, s, ty, l.map en⟩)) (hq : q ≤ l.length)
    (h : TrO Γ r (nv + 1) ⟨(dst, .osl dst nv 0 (l.take q).length) :: e, (dst, some (nv, ⟨false, false, s, ty, (l.take q).map en⟩)) :: (gi, none) :: o, n⟩ d (acc ++ [(gK g ++ (rdK x ++ [.o gi]), [.e dst, .o dst, .o gi], af)]) K t) (hrg : rich gi = false := by rfl) :
    TrO Γ (⟨some dst, .asg x (some (s', ty')), g, af⟩ :: r) nv ⟨e, o, n⟩ d acc K t :=
  trO_op hg (c := True) (we := [(dst, .osl dst nv 0 (l.take q).length)]) (wo := [(dst, some (nv, ⟨false, false, s, ty, (l.take q).map en⟩)), (gi, none)]) (rd := rdK x ++ [Key.o gi]) (by simp [hx, ho, Nat.min_eq_left hq, hq, hrg, nmR, putR]) (by simp [hx, ho]) trivial h

theorem trO_asg_fz {s' ty' q : Nat} (hq : q = l.length) (hg : gOn e g = true) (hx : rdArg e x = some (.osl gi vi 0 q)) (ho : lkO o gi = some (vi, ⟨true, false, s, ty, l.map en⟩))
    (h : TrO Γ r (nv + 1) ⟨(dst, .sl (l.map en)) :: e, o, n⟩ d (acc ++ [(gK g ++ (rdK x ++ [.o gi]), [.e dst], af)]) K t) :
    TrO Γ (⟨some dst, .asg x (some (s', ty')), g, af⟩ :: r) nv ⟨e, o, n⟩ d acc K t :=
  trO_op hg (c := True) (we := [(dst, .sl (l.map en))]) (wo := []) (rd := rdK x ++ [Key.o gi]) (by subst hq; simp [hx, ho]; exact List.take_of_length_le (by simp)) (by simp [hx, ho]) trivial h

def isB : Option D → Bool
  | some (.bool _) => true
  | some (.when _ (.bool _)) => true
  | _ => false
theorem isB_ok {x : Option D} (h : isB x = true) : ∃ (p q : Bool), strip (x.getD .top) = (p, .bool q) := by
  unfold isB at h
  split at h
  · exact ⟨_, _, rfl⟩
  · exact ⟨_, _, rfl⟩
  · cases h
theorem trO_pick_true {c : Arg} {p : Bool} (hg : gOn e g = true) (hc : rdArg e c = some (.bool true)) (hx : rdArg e x = some (.bool p)) (hy : isB (rdArg e y) = true)
    (h : TrO Γ r (nv + 1) ⟨(dst, .bool p) :: e, o, n⟩ d (acc ++ [(gK g ++ (rdK c ++ (rdK x ++ rdK y)), [.e dst], af)]) K t) :
    TrO Γ (⟨some dst, .pick c x y, g, af⟩ :: r) nv ⟨e, o, n⟩ d acc K t := by
  obtain ⟨b1, q, hq'⟩ := isB_ok hy
  refine trO_op hg (c := True) (we := [(dst, .bool p)]) (wo := []) (rd := rdK c ++ (rdK x ++ rdK y)) ?_ ?_ trivial h
  · simp only [evalOp, R.run_bind, rdA_run', hc, hx, hq', Option.getD_some, strip_bool, R.run_pure, put1]
    simp
  · simp only [evalOp, R.rd_bind, rdA_run', rdA_rd', hc, hx, hq', Option.getD_some, strip_bool, R.rd_pure, List.append_nil]
theorem trO_pick_false {c : Arg} {p : Bool} (hg : gOn e g = true) (hc : rdArg e c = some (.bool false)) (hx : isB (rdArg e x) = true) (hy : rdArg e y = some (.bool p))
    (h : TrO Γ r (nv + 1) ⟨(dst, .bool p) :: e, o, n⟩ d (acc ++ [(gK g ++ (rdK c ++ (rdK x ++ rdK y)), [.e dst], af)]) K t) :
    TrO Γ (⟨some dst, .pick c x y, g, af⟩ :: r) nv ⟨e, o, n⟩ d acc K t := by
  obtain ⟨b1, q, hq'⟩ := isB_ok hx
  refine trO_op hg (c := True) (we := [(dst, .bool p)]) (wo := []) (rd := rdK c ++ (rdK x ++ rdK y)) ?_ ?_ trivial h
  · simp only [evalOp, R.run_bind, rdA_run', hc, hy, hq', Option.getD_some, strip_bool, R.run_pure, put1]
    simp
  · simp only [evalOp, R.rd_bind, rdA_run', rdA_rd', hc, hy, hq', Option.getD_some, strip_bool, R.rd_pure, List.append_nil]

theorem trO_new (hg : gOn e g = true) (h : TrO Γ r (nv + 1) ⟨(dst, .optr dst nv 0 0) :: e, (dst, some (nv, ⟨false, true, s, ty, [z]⟩)) :: o, n⟩ d (acc ++ [(gK g ++ [], [.e dst, .o dst], af)]) K t) :
    TrO Γ (⟨some dst, .new z s ty, g, af⟩ :: r) nv ⟨e, o, n⟩ d acc K t :=
  trO_op hg (c := True) (we := [(dst, .optr dst nv 0 0)]) (wo := [(dst, some (nv, ⟨false, true, s, ty, [z]⟩))]) (rd := []) (by simp) (by simp) trivial h

theorem trO_box (hg : gOn e g = true) (hx : rdArg e x = some v) (hw : strip v = (true, v)) (hk : known v = true) (hl : (cells v).length = s)
    (h : TrO Γ r (nv + 1) ⟨(dst, .optr dst nv 0 0) :: e, (dst, some (nv, ⟨false, true, s, ty, [v]⟩)) :: o, n⟩ d (acc ++ [(gK g ++ rdK x, [.e dst, .o dst], af)]) K t) :
    TrO Γ (⟨some dst, .box x s ty, g, af⟩ :: r) nv ⟨e, o, n⟩ d acc K t :=
  trO_op hg (c := True) (we := [(dst, .optr dst nv 0 0)]) (wo := [(dst, some (nv, ⟨false, true, s, ty, [v]⟩))]) (rd := rdK x) (by simp only [evalOp, R.run_bind, rdA_run', Option.getD_some, hx, hw, R.run_pure, hk, hl, put1, putO, Option.getD_some]; simp) (by simp) trivial h

def rdPartsE (e : List (Nat × D)) : List (Nat × Nat × Arg) → List (Nat × Nat × D)
  | [] => []
  | (a, b, x) :: r => (a, b, (rdArg e x).getD .top) :: rdPartsE e r
def rdPartsK : List (Nat × Nat × Arg) → List Key
  | [] => []
  | (_, _, x) :: r => rdK x ++ rdPartsK r
def fillOkB : Nat → List (Nat × Nat × D) → Bool
  | _, [] => true
  | n, (off, s, d) :: r => known d && (Nat.beq (cells d).length s && (Nat.ble (off + s) n && fillOkB n r))
theorem fillOkB_ok : ∀ {n : Nat} {l : List (Nat × Nat × D)}, fillOkB n l = true → fillOk n l
  | _, [], _ => trivial
  | n, (off, s, d) :: r, h => by
    simp only [fillOkB, Bool.and_eq_true] at h
    exact ⟨h.1, Nat.eq_of_beq_eq_true h.2.1, Nat.le_of_ble_eq_true h.2.2.1, fillOkB_ok h.2.2.2⟩
theorem rdParts_run : ∀ parts : List (Nat × Nat × Arg), (rdParts parts).run ⟨e, o, n⟩ = rdPartsE e parts
  | [] => rfl
  | (a, b, x) :: r => by simp [rdParts, rdPartsE, rdParts_run r]
theorem rdParts_rd : ∀ parts : List (Nat × Nat × Arg), (rdParts parts).rd ⟨e, o, n⟩ = rdPartsK parts
  | [] => rfl
  | (a, b, x) :: r => by simp [rdParts, rdPartsK, rdParts_rd r]
theorem trO_bld {zs cs : List D} {parts : List (Nat × Nat × Arg)} {ps : List (Nat × Nat × D)} (hg : gOn e g = true) (hp : rdPartsE e parts = ps) (hf : fillOkB zs.length ps = true) (hz : fillD zs ps = cs)
    (h : TrO Γ r (nv + 1) ⟨(dst, .agg cs) :: e, o, n⟩ d (acc ++ [(gK g ++ rdPartsK parts, [.e dst], af)]) K t) :
    TrO Γ (⟨some dst, .bld zs parts, g, af⟩ :: r) nv ⟨e, o, n⟩ d acc K t :=
  trO_op hg (c := fillOk zs.length ps) (we := [(dst, .agg cs)]) (wo := []) (rd := rdPartsK parts) (by simp [rdParts_run, hp, hz]) (by simp [rdParts_rd]) (fillOkB_ok hf) h

def elemsOkB (s len : Nat) (ps : List (Nat × D)) : Bool := ps.all fun p => known p.2 && (Nat.beq (cells p.2).length s && Nat.blt p.1 len)
theorem trO_bldS {c : Prop} {len : Nat} {parts : List (Nat × Arg)} {ps : List (Nat × D)} {wo : List (Nat × Obj?)} {rk : List Key} (l : List α) (en : α → D) (hg : gOn e g = true) (hr : (rdElems parts).run ⟨e, o, n⟩ = (c, ps, wo)) (hk : (rdElems parts).rd ⟨e, o, n⟩ = rk) (hc : c)
    (hp : elemsOkB s len ps = true) (hes : fillS (List.replicate len z) ps = l.map en) (hlen : l.length = len)
    (h : TrO Γ r (nv + 1) ⟨(dst, .osl dst nv 0 l.length) :: e, (dst, some (nv, ⟨false, false, s, ty, l.map en⟩)) :: (wo ++ o), n⟩ d (acc ++ [(gK g ++ rk, [.e dst, .o dst] ++ wo.map (fun x => .o x.1), af)]) K t) :
    TrO Γ (⟨some dst, .bldS s ty z len parts, g, af⟩ :: r) nv ⟨e, o, n⟩ d acc K t := by
  have h1 : ∀ p ∈ ps, known p.2 = true ∧ (cells p.2).length = s ∧ p.1 < len := by
    intro p hp'
    have := List.all_eq_true.1 hp p hp'
    simp only [Bool.and_eq_true] at this
    exact ⟨this.1, Nat.eq_of_beq_eq_true this.2.1, by simpa using this.2.2⟩
  subst hlen
  exact trO_op hg (c := c ∧ ∀ p ∈ ps, known p.2 = true ∧ (cells p.2).length = s ∧ p.1 < l.length) (we := [(dst, .osl dst nv 0 l.length)]) (wo := (dst, some (nv, ⟨false, false, s, ty, l.map en⟩)) :: wo) (rd := rk) (by simp [hr, hes]) (by simp [hk]) ⟨hc, h1⟩ (by simpa using h)

theorem map_get {i : Nat} {q : α} (h : l[i]? = some q) : (l.map en)[i]? = some (en q) := by simp [h]

theorem trO_ld_obj {agg : Bool} {i : Nat} (hg : gOn e g = true) (hx : rdArg e x = some (.optr gi vi i off)) (ho : lkO o gi = some (vi, ⟨fz, var, s, ty, es⟩)) (hz : es[i]? = some z) (hb : Nat.ble (off + m) (cells z).length = true) (hv : partD (cells z) off m agg = v)
    (h : TrO Γ r (nv + 1) ⟨(dst, v) :: e, o, n⟩ d (acc ++ [(gK g ++ (rdK x ++ [.o gi]), [.e dst], af)]) K t) (hpl : (plain v || !rich gi) = true := by rfl) :
    TrO Γ (⟨some dst, .ld m agg x, g, af⟩ :: r) nv ⟨e, o, n⟩ d acc K t := by
  obtain ⟨hi, rfl⟩ := List.getElem?_eq_some_iff.1 hz
  have hb' := Nat.le_of_ble_eq_true hb
  have hgd : es.getD i .top = es[i] := by simp [hi]
  refine trO_op hg (c := True) (we := [(dst, v)]) (wo := []) (rd := rdK x ++ [Key.o gi]) ?_ ?_ trivial h
  · simp only [evalOp, R.run_bind, rdA_run', Option.getD_some, hx, strip, R.run_go, go_lk, ho, put1, hgd, hv]
    cases hrg : rich gi with
    | false => simp [hi, hb']
    | true => cases v <;> first | (simp [hi, hb']; done) | (rw [hrg] at hpl; cases hpl)
  · simp only [evalOp, R.rd_bind, rdA_run', rdA_rd', Option.getD_some, hx, strip, R.rd_go, go_lk, ho, hgd, hv]
    cases hrg : rich gi with
    | false => simp
    | true => cases v <;> first | (simp; done) | (rw [hrg] at hpl; cases hpl)

theorem trO_ld_f {agg : Bool} (hg : gOn e g = true) (hx : rdArg e x = some (.fptr z off)) (hb : Nat.ble (off + m) (cells z).length = true) (hv : partD (cells z) off m agg = v)
    (h : TrO Γ r (nv + 1) ⟨(dst, v) :: e, o, n⟩ d (acc ++ [(gK g ++ rdK x, [.e dst], af)]) K t) :
    TrO Γ (⟨some dst, .ld m agg x, g, af⟩ :: r) nv ⟨e, o, n⟩ d acc K t := by
  have hb' := Nat.le_of_ble_eq_true hb
  refine trO_op hg (c := True) (we := [(dst, v)]) (wo := []) (rd := rdK x) ?_ ?_ trivial h
  · simp only [evalOp, R.run_bind, rdA_run', Option.getD_some, hx, strip, atPtr, R.run_ret, R.run_pure, put1]
    simp [hb', hv]
  · simp only [evalOp, R.rd_bind, rdA_run', rdA_rd', Option.getD_some, hx, strip, atPtr, R.rd_ret, R.rd_pure]
    simp

theorem trO_st_var (hg : gOn e g = true) (hx : rdArg e x = some (.optr gi vi 0 off)) (hy : rdArg e y = some v) (hw : strip v = (true, v)) (ho : lkO o gi = some (vi, ⟨false, true, s, ty, [z]⟩)) (hk : known v = true) (hl : (cells v).length = m)
    (hb : Nat.ble (off + m) (cells z).length = true) (hz : setE z off (cells v) = z')
    (h : TrO Γ r (nv + 1) ⟨e, (gi, some (vi, ⟨false, true, s, ty, [z']⟩)) :: o, n⟩ d (acc ++ [(gK g ++ (rdK x ++ (rdK y ++ [.o gi])), [.o gi], af)]) K t) (hrg : rich gi = false := by rfl) :
    TrO Γ (⟨none, .st m x y, g, af⟩ :: r) nv ⟨e, o, n⟩ d acc K t := by
  have hb' := Nat.le_of_ble_eq_true hb
  refine trO_op hg (c := True) (we := []) (wo := [(gi, some (vi, ⟨false, true, s, ty, [z']⟩))]) (rd := rdK x ++ (rdK y ++ [Key.o gi])) ?_ ?_ trivial h
  · simp only [evalOp, R.run_bind, rdA_run', Option.getD_some, hx, hy, hw, strip_optr, R.run_go, go_lk, ho, R.run_ret, hrg, Bool.false_eq_true, if_false, if_true, hk, hl, hz]
    simp [hb', hz]
  · simp only [evalOp, R.rd_bind, rdA_run', rdA_rd', Option.getD_some, hx, hy, hw, strip_optr, R.rd_go, go_lk, ho, R.rd_ret, hrg, Bool.false_eq_true, if_false, if_true]

theorem trO_st_elem {i : Nat} {q q' : α} {c : Prop} {v' : D} {wo : List (Nat × Obj?)} {rk : List Key} (hg : gOn e g = true) (hx : rdArg e x = some (.optr gi vi i off)) (hy : rdArg e y = some v) (hw : strip v = (true, v)) (ho : lkO o gi = some (vi, ⟨false, false, s, ty, l.map en⟩))
    (hr : (res v).run ⟨e, o, n⟩ = (c, v', wo)) (hrd : (res v).rd ⟨e, o, n⟩ = rk) (hc : c) (hi : l[i]? = some q) (hk : known v' = true) (hl : (cells v').length = m) (hb : Nat.ble (off + m) (cells (en q)).length = true)
    (hz : setE (en q) off (cells v') = en q') (hwo : wo.all (fun x => x.1 != gi) = true)
    (h : TrO Γ r (nv + 1) ⟨e, (gi, some (vi, ⟨false, false, s, ty, (l.set i q').map en⟩)) :: (wo ++ o), n⟩ d (acc ++ [(gK g ++ (rdK x ++ (rdK y ++ (.o gi :: rk))), .o gi :: wo.map (fun x => .o x.1), af)]) K t) (hrg : rich gi = false := by rfl) :
    TrO Γ (⟨none, .st m x y, g, af⟩ :: r) nv ⟨e, o, n⟩ d acc K t := by
  have hb' := Nat.le_of_ble_eq_true hb
  obtain ⟨hi', rfl⟩ := List.getElem?_eq_some_iff.1 hi
  refine trO_op hg (c := True) (we := []) (wo := (gi, some (vi, ⟨false, false, s, ty, (l.set i q').map en⟩)) :: wo) (rd := rdK x ++ (rdK y ++ (Key.o gi :: rk))) ?_ ?_ trivial (by simpa using h)
  · simp only [evalOp, R.run_bind, rdA_run', Option.getD_some, hx, hy, hw, strip_optr, R.run_go, go_lk, ho, hrg, Bool.false_eq_true, if_false, R.run_ret, hr, R.run_pure]
    have hq : (l.map en).getD i .top = en l[i] := by simp [hi']
    rw [hq, hz]
    simp [hc, hi', hb', hk, hl, hwo, ← List.map_set]
  · simp only [evalOp, R.rd_bind, rdA_run', rdA_rd', Option.getD_some, hx, hy, hw, strip_optr, R.rd_go, go_lk, ho, R.rd_ret, hrg, Bool.false_eq_true, if_false, hrd, hr, R.rd_pure]
    simp

theorem trO_nilck (hg : gOn e g = true) (hx : rdArg e x = some v) (hv : (match v with | .optr .. | .fptr .. => true | _ => false) = true) (h : TrO Γ r (nv + 1) ⟨(dst, v) :: e, o, n⟩ d (acc ++ [(gK g ++ rdK x, [.e dst], af)]) K t) :
    TrO Γ (⟨some dst, .nilck x, g, af⟩ :: r) nv ⟨e, o, n⟩ d acc K t :=
  trO_op hg (c := True) (we := [(dst, v)]) (wo := []) (rd := rdK x) (by cases v <;> simp [hx] at hv ⊢) (by cases v <;> simp [hx] at hv ⊢) trivial h

theorem trO_bin {op : BinOp} {c : Prop} (hg : gOn e g = true) (hx : rdArg e x = some (.int k a)) (hy : rdArg e y = some (.int k' b)) (hb : binD op (.int k a) (.int k' b) = (c, v)) (hc : c)
    (h : TrO Γ r (nv + 1) ⟨(dst, v) :: e, o, n⟩ d (acc ++ [(gK g ++ (rdK x ++ rdK y), [.e dst], af)]) K t) :
    TrO Γ (⟨some dst, .bin op x y, g, af⟩ :: r) nv ⟨e, o, n⟩ d acc K t :=
  trO_op hg (c := c) (we := [(dst, v)]) (wo := []) (rd := rdK x ++ rdK y) (by simp [hx, hy, hb]) (by simp) hc h
theorem trO_bin_str {op : BinOp} {c : Prop} {p q : List UInt8} (hg : gOn e g = true) (hx : rdArg e x = some (.str p)) (hy : rdArg e y = some (.str q)) (hb : binD op (.str p) (.str q) = (c, v)) (hc : c)
    (h : TrO Γ r (nv + 1) ⟨(dst, v) :: e, o, n⟩ d (acc ++ [(gK g ++ (rdK x ++ rdK y), [.e dst], af)]) K t) :
    TrO Γ (⟨some dst, .bin op x y, g, af⟩ :: r) nv ⟨e, o, n⟩ d acc K t :=
  trO_op hg (c := c) (we := [(dst, v)]) (wo := []) (rd := rdK x ++ rdK y) (by simp [hx, hy, hb]) (by simp) hc h
theorem trO_eqB {neg p q : Bool} (hg : gOn e g = true) (hx : rdArg e x = some (.bool p)) (hy : rdArg e y = some (.bool q))
    (h : TrO Γ r (nv + 1) ⟨(dst, .bool (if neg then !(p == q) else (p == q))) :: e, o, n⟩ d (acc ++ [(gK g ++ (rdK x ++ rdK y), [.e dst], af)]) K t) :
    TrO Γ (⟨some dst, .eqB neg x y, g, af⟩ :: r) nv ⟨e, o, n⟩ d acc K t :=
  trO_op hg (c := True) (we := [(dst, .bool (if neg then !(p == q) else (p == q)))]) (wo := []) (rd := rdK x ++ rdK y) (by simp [hx, hy]) (by simp [hx, hy]) trivial h
theorem trO_eqA {neg p : Bool} {c : Prop} {cs cs' : List D} (hg : gOn e g = true) (hx : rdArg e x = some (.agg cs)) (hy : rdArg e y = some (.agg cs')) (hq : eqL cs cs' = (c, p)) (hc : c) (hn : Nat.beq cs.length m = true)
    (h : TrO Γ r (nv + 1) ⟨(dst, .bool (if neg then !p else p)) :: e, o, n⟩ d (acc ++ [(gK g ++ (rdK x ++ rdK y), [.e dst], af)]) K t) :
    TrO Γ (⟨some dst, .eqA m neg x y, g, af⟩ :: r) nv ⟨e, o, n⟩ d acc K t := by
  have hn' := Nat.eq_of_beq_eq_true hn
  exact trO_op hg (c := True) (we := [(dst, .bool (if neg then !p else p))]) (wo := []) (rd := rdK x ++ rdK y) (by simp [hx, hy, hq, hc, hn']) (by simp [hx, hy]) trivial h
theorem trO_un {op : UnOp} {c : Prop} (hg : gOn e g = true) (hx : rdArg e x = some v) (hw : strip v = (true, v)) (hb : unD op v = (c, w)) (hc : c)
    (h : TrO Γ r (nv + 1) ⟨(dst, w) :: e, o, n⟩ d (acc ++ [(gK g ++ rdK x, [.e dst], af)]) K t) :
    TrO Γ (⟨some dst, .un op x, g, af⟩ :: r) nv ⟨e, o, n⟩ d acc K t :=
  trO_op hg (c := c) (we := [(dst, w)]) (wo := []) (rd := rdK x) (by simp only [evalOp, R.run_bind, rdA_run', Option.getD_some, hx, hw, hb, R.run_pure, pure1, put1]; simp) (by simp) hc h
theorem trO_cvt (hg : gOn e g = true) (hx : rdArg e x = some (.int k' a)) (h : TrO Γ r (nv + 1) ⟨(dst, .int k (k.wrap a)) :: e, o, n⟩ d (acc ++ [(gK g ++ rdK x, [.e dst], af)]) K t) :
    TrO Γ (⟨some dst, .cvt k x, g, af⟩ :: r) nv ⟨e, o, n⟩ d acc K t :=
  trO_op hg (c := True) (we := [(dst, .int k (k.wrap a))]) (wo := []) (rd := rdK x) (by simp [hx]) (by simp [hx]) trivial h

theorem trO_mkS {bytes : Nat} {q : α} (en : α → D) (hg : gOn e g = true) (hx : rdArg e x = some (.int k a)) (hy : rdArg e y = some (.int k' a)) (hz : z = en q) (hl : 0 ≤ a ∧ a ≤ 16777216) (hby : Nat.ble bytes 65536 = true)
    (h : TrO Γ r (nv + 1) ⟨(dst, .osl dst nv 0 (List.replicate a.toNat q).length) :: e, (dst, some (nv, ⟨false, false, s, ty, (List.replicate a.toNat q).map en⟩)) :: o, n⟩ d (acc ++ [(gK g ++ (rdK x ++ rdK y), [.e dst, .o dst], af)]) K t) :
    TrO Γ (⟨some dst, .mkS s ty bytes z x y, g, af⟩ :: r) nv ⟨e, o, n⟩ d acc K t := by
  have := Nat.le_of_ble_eq_true hby
  subst hz
  exact trO_op hg (c := True) (we := [(dst, .osl dst nv 0 (List.replicate a.toNat q).length)]) (wo := [(dst, some (nv, ⟨false, false, s, ty, (List.replicate a.toNat q).map en⟩))]) (rd := rdK x ++ rdK y) (by simp [hx, hy, hl, this]) (by simp [hx, hy]) trivial h

theorem trO_fldA (hg : gOn e g = true) {i : Nat} (hx : rdArg e x = some (.optr gi vi i off)) (h : TrO Γ r (nv + 1) ⟨(dst, .optr gi vi i (off + m)) :: e, o, n⟩ d (acc ++ [(gK g ++ rdK x, [.e dst], af)]) K t) :
    TrO Γ (⟨some dst, .fldA m x, g, af⟩ :: r) nv ⟨e, o, n⟩ d acc K t :=
  trO_op hg (c := True) (we := [(dst, .optr gi vi i (off + m))]) (wo := []) (rd := rdK x) (by simp [hx]) (by simp [hx]) trivial h
theorem trO_fldA_f (hg : gOn e g = true) (hx : rdArg e x = some (.fptr z off)) (h : TrO Γ r (nv + 1) ⟨(dst, .fptr z (off + m)) :: e, o, n⟩ d (acc ++ [(gK g ++ rdK x, [.e dst], af)]) K t) :
    TrO Γ (⟨some dst, .fldA m x, g, af⟩ :: r) nv ⟨e, o, n⟩ d acc K t :=
  trO_op hg (c := True) (we := [(dst, .fptr z (off + m))]) (wo := []) (rd := rdK x) (by simp [hx]) (by simp [hx]) trivial h
theorem trO_fld {cs : List D} {agg : Bool} (hg : gOn e g = true) (hx : rdArg e x = some (.agg cs)) (hb : Nat.ble (off + m) cs.length = true) (hv : partD cs off m agg = v)
    (h : TrO Γ r (nv + 1) ⟨(dst, v) :: e, o, n⟩ d (acc ++ [(gK g ++ rdK x, [.e dst], af)]) K t) :
    TrO Γ (⟨some dst, .fld off m agg x, g, af⟩ :: r) nv ⟨e, o, n⟩ d acc K t := by
  have hb' := Nat.le_of_ble_eq_true hb
  exact trO_op hg (c := True) (we := [(dst, v)]) (wo := []) (rd := rdK x) (by simp [hx, hb', hv]) (by simp [hx]) trivial h

theorem trO_ixA_sl {q : α} (hg : gOn e g = true) (hx : rdArg e x = some (.sl (l.map en))) (hy : rdArg e y = some (.int k a)) (hi : ixO l a = some q) (hs : (cells (en q)).length = s)
    (h : TrO Γ r (nv + 1) ⟨(dst, .fptr (en q) 0) :: e, o, n⟩ d (acc ++ [(gK g ++ (rdK x ++ rdK y), [.e dst], af)]) K t) :
    TrO Γ (⟨some dst, .ixA s x y, g, af⟩ :: r) nv ⟨e, o, n⟩ d acc K t := by
  obtain ⟨h0, h1, h2⟩ := ixO_some hi
  refine trO_op hg (c := True) (we := [(dst, .fptr (en q) 0)]) (wo := []) (rd := rdK x ++ rdK y) ?_ (by simp [hx, hy]) trivial h
  have hq : (l.map en).getD a.toNat .top = en q := by simp [h2]
  simp only [evalOp, R.run_bind, rdA_run', Option.getD_some, hx, hy, strip, R.run_pure, put1, hq, hs]
  simp [h0, h1]
theorem trO_ixA_own {q : Nat} (hq : q = l.length) (hg : gOn e g = true) (hx : rdArg e x = some (.osl gi vi 0 q)) (hy : rdArg e y = some (.int k a)) (ho : lkO o gi = some (vi, ⟨fz, false, s, ty, l.map en⟩)) (hi : 0 ≤ a ∧ a < l.length)
    (h : TrO Γ r (nv + 1) ⟨(dst, .optr gi vi a.toNat 0) :: e, o, n⟩ d (acc ++ [(gK g ++ (rdK x ++ (rdK y ++ [.o gi])), [.e dst], af)]) K t) :
    TrO Γ (⟨some dst, .ixA s x y, g, af⟩ :: r) nv ⟨e, o, n⟩ d acc K t := by
  subst hq
  refine trO_op hg (c := True) (we := [(dst, .optr gi vi a.toNat 0)]) (wo := []) (rd := rdK x ++ (rdK y ++ [Key.o gi])) ?_ (by simp [hx, hy, ho]) trivial h
  simp only [evalOp, R.run_bind, rdA_run', Option.getD_some, hx, hy, strip, R.run_go, go_lk, ho, R.run_ret, put1]
  simp [hi.1, hi.2]

theorem trO_ext {ds : List D} {i : Nat} (hg : gOn e g = true) (hx : rdArg e x = some (.tup ds)) (hi : ds[i]? = some v) (h : TrO Γ r (nv + 1) ⟨(dst, v) :: e, o, n⟩ d (acc ++ [(gK g ++ rdK x, [.e dst], af)]) K t) :
    TrO Γ (⟨some dst, .ext x i, g, af⟩ :: r) nv ⟨e, o, n⟩ d acc K t := by
  have hl := (List.getElem?_eq_some_iff.1 hi).1
  exact trO_op hg (c := True) (we := [(dst, v)]) (wo := []) (rd := rdK x) (by have := (List.getElem?_eq_some_iff.1 hi).2; simp [hx, hl, this]) (by simp [hx]) trivial h

theorem trO_len_sl (hg : gOn e g = true) (hx : rdArg e x = some (.sl (l.map en))) (h : TrO Γ r (nv + 1) ⟨(dst, .int .i64 l.length) :: e, o, n⟩ d (acc ++ [(gK g ++ rdK x, [.e dst], af)]) K t) :
    TrO Γ (⟨some dst, .len false x, g, af⟩ :: r) nv ⟨e, o, n⟩ d acc K t :=
  trO_op hg (c := True) (we := [(dst, .int .i64 l.length)]) (wo := []) (rd := rdK x) (by simp [hx]) (by simp [hx]) trivial h
theorem trO_len_own {i q : Nat} (hg : gOn e g = true) (hx : rdArg e x = some (.osl gi vi i q)) (h : TrO Γ r (nv + 1) ⟨(dst, .int .i64 q) :: e, o, n⟩ d (acc ++ [(gK g ++ rdK x, [.e dst], af)]) K t) :
    TrO Γ (⟨some dst, .len false x, g, af⟩ :: r) nv ⟨e, o, n⟩ d acc K t :=
  trO_op hg (c := True) (we := [(dst, .int .i64 q)]) (wo := []) (rd := rdK x) (by simp [hx]) (by simp [hx]) trivial h
theorem trO_len_nil (hg : gOn e g = true) (hx : rdArg e x = some .nils) (h : TrO Γ r (nv + 1) ⟨(dst, .int .i64 0) :: e, o, n⟩ d (acc ++ [(gK g ++ rdK x, [.e dst], af)]) K t) :
    TrO Γ (⟨some dst, .len false x, g, af⟩ :: r) nv ⟨e, o, n⟩ d acc K t :=
  trO_op hg (c := True) (we := [(dst, .int .i64 0)]) (wo := []) (rd := rdK x) (by simp [hx]) (by simp [hx]) trivial h
theorem trO_len_str {p : List UInt8} (hg : gOn e g = true) (hx : rdArg e x = some (.str p)) (h : TrO Γ r (nv + 1) ⟨(dst, .int .i64 p.length) :: e, o, n⟩ d (acc ++ [(gK g ++ rdK x, [.e dst], af)]) K t) :
    TrO Γ (⟨some dst, .len true x, g, af⟩ :: r) nv ⟨e, o, n⟩ d acc K t :=
  trO_op hg (c := True) (we := [(dst, .int .i64 p.length)]) (wo := []) (rd := rdK x) (by simp [hx]) (by simp [hx]) trivial h

/-- append: what is appended ('view') and onto what ('target') are met by reckoning -/
theorem trO_app {bytes : Nat} {c c' : Prop} {new old : List D} {wo : List (Nat × Obj?)} {rk rk' : List Key} (l l' : List α) (en : α → D) (hg : gOn e g = true) (hx : rdArg e x = some v) (hy : rdArg e y = some w) (hvw : strip v = (true, v)) (hww : strip w = (true, w))
    (hv : (view w).run ⟨e, o, n⟩ = (c, new)) (hvr : (view w).rd ⟨e, o, n⟩ = rk) (hc : c) (hn : new = l'.map en)
    (ht : (target s ty v).run ⟨e, o, n⟩ = (c', old, wo, false)) (htr : (target s ty v).rd ⟨e, o, n⟩ = rk') (hc' : c') (ho : old = l.map en)
    (hs : ∀ q, (cells (en q)).length = s) (hby : Nat.ble bytes 65536 = true) (hl : l.length + l'.length ≤ 16777216)
    (h : TrO Γ r (nv + 1) ⟨(dst, .osl dst nv 0 (l ++ l').length) :: e, (dst, some (nv, ⟨false, false, s, ty, (l ++ l').map en⟩)) :: (wo ++ o), n⟩ d (acc ++ [(gK g ++ (rdK x ++ (rdK y ++ (rk ++ rk'))), [.e dst, .o dst] ++ wo.map (fun x => .o x.1), af)]) K t) :
    TrO Γ (⟨some dst, .app s ty bytes x y, g, af⟩ :: r) nv ⟨e, o, n⟩ d acc K t := by
  have hb' := Nat.le_of_ble_eq_true hby
  subst hn; subst ho
  refine trO_op hg (c := True) (we := [(dst, .osl dst nv 0 (l ++ l').length)]) (wo := (dst, some (nv, ⟨false, false, s, ty, (l ++ l').map en⟩)) :: wo) (rd := rdK x ++ (rdK y ++ (rk ++ rk'))) ?_ ?_ trivial (by simpa using h)
  · simp only [evalOp, R.run_bind, rdA_run', Option.getD_some, hx, hy, hvw, hww, source, hv, ht, R.run_pure, put1, putR, nmR, cond_false]
    simp [hc, hc', hl, hb', hs]
  · simp only [evalOp, R.rd_bind, rdA_run', rdA_rd', Option.getD_some, hx, hy, hvw, hww, source, hv, hvr, htr, R.rd_pure]
    simp

theorem trO_max (hg : gOn e g = true) (hx : rdArg e x = some (.int k a)) (hy : rdArg e y = some (.int k b)) (h : TrO Γ r (nv + 1) ⟨(dst, .int k (maxI a b)) :: e, o, n⟩ d (acc ++ [(gK g ++ (rdK x ++ rdK y), [.e dst], af)]) K t) :
    TrO Γ (⟨some dst, .max [x, y], g, af⟩ :: r) nv ⟨e, o, n⟩ d acc K t :=
  trO_op hg (c := True) (we := [(dst, .int k (maxI a b))]) (wo := []) (rd := rdK x ++ rdK y) (by simp [rdAs, hx, hy, int2]) (by simp [rdAs, hx, hy]) trivial h
theorem trO_min (hg : gOn e g = true) (hx : rdArg e x = some (.int k a)) (hy : rdArg e y = some (.int k b)) (h : TrO Γ r (nv + 1) ⟨(dst, .int k (minI a b)) :: e, o, n⟩ d (acc ++ [(gK g ++ (rdK x ++ rdK y), [.e dst], af)]) K t) :
    TrO Γ (⟨some dst, .min [x, y], g, af⟩ :: r) nv ⟨e, o, n⟩ d acc K t :=
  trO_op hg (c := True) (we := [(dst, .int k (minI a b))]) (wo := []) (rd := rdK x ++ rdK y) (by simp [rdAs, hx, hy, int2]) (by simp [rdAs, hx, hy]) trivial h

/-- slices of slices -/
theorem trO_slc_sl_hi {hi : Arg} (hg : gOn e g = true) (hx : rdArg e x = some (.sl (l.map en))) (hy : rdArg e hi = some (.int k a)) (hs : ∀ q, (cells (en q)).length = s) (hp : Nat.blt 0 s = true) (hl : 0 ≤ a ∧ a ≤ l.length)
    (h : TrO Γ r (nv + 1) ⟨(dst, .sl ((l.take a.toNat).map en)) :: e, o, n⟩ d (acc ++ [(gK g ++ (rdK x ++ rdK hi), [.e dst], af)]) K t) :
    TrO Γ (⟨some dst, .slc s x none (some hi), g, af⟩ :: r) nv ⟨e, o, n⟩ d acc K t := by
  have hp' : 0 < s := by simpa using hp
  refine trO_op hg (c := True) (we := [(dst, .sl ((l.take a.toNat).map en))]) (wo := []) (rd := rdK x ++ rdK hi) ?_ ?_ trivial h
  · simp only [evalOp, R.run_bind, rdA_run', Option.getD_some, hx, hy, strip, rdOpt, R.run_ret, R.run_pure, raw_run, fits, sliceD, bound, pure1, put1]
    simp [hl, hs, hp', List.map_take]
  · simp [rdOpt, hx, hy, fits]
theorem trO_slc_sl_lo {lo : Arg} (hg : gOn e g = true) (hx : rdArg e x = some (.sl (l.map en))) (hy : rdArg e lo = some (.int k a)) (hs : ∀ q, (cells (en q)).length = s) (hp : Nat.blt 0 s = true) (hl : 0 ≤ a ∧ a ≤ l.length)
    (h : TrO Γ r (nv + 1) ⟨(dst, .sl ((l.drop a.toNat).map en)) :: e, o, n⟩ d (acc ++ [(gK g ++ (rdK x ++ rdK lo), [.e dst], af)]) K t) :
    TrO Γ (⟨some dst, .slc s x (some lo) none, g, af⟩ :: r) nv ⟨e, o, n⟩ d acc K t := by
  have hp' : 0 < s := by simpa using hp
  refine trO_op hg (c := True) (we := [(dst, .sl ((l.drop a.toNat).map en))]) (wo := []) (rd := rdK x ++ rdK lo) ?_ ?_ trivial h
  · have ht : List.take (l.length - a.toNat) (List.drop a.toNat (l.map en)) = (l.drop a.toNat).map en := by
      rw [← List.map_drop]; exact List.take_of_length_le (by simp)
    simp only [evalOp, R.run_bind, rdA_run', Option.getD_some, hx, hy, strip, rdOpt, R.run_ret, R.run_pure, raw_run, fits, sliceD, bound, pure1, put1, List.length_map, Int.toNat_natCast]
    rw [ht]
    simp [hl, hs, hp']
  · simp [rdOpt, hx, hy, fits]
theorem trO_slc_own_hi {hi : Arg} {q : Nat} (hq : q = l.length) (hg : gOn e g = true) (hx : rdArg e x = some (.osl gi vi 0 q)) (hy : rdArg e hi = some (.int k a)) (ho : lkO o gi = some (vi, ⟨fz, var, s, ty, es⟩)) (hp : Nat.blt 0 s = true) (hl : 0 ≤ a ∧ a ≤ l.length)
    (h : TrO Γ r (nv + 1) ⟨(dst, .osl gi vi 0 a.toNat) :: e, o, n⟩ d (acc ++ [(gK g ++ (rdK x ++ (rdK hi ++ [.o gi])), [.e dst], af)]) K t) :
    TrO Γ (⟨some dst, .slc s x none (some hi), g, af⟩ :: r) nv ⟨e, o, n⟩ d acc K t := by
  subst hq
  have hp' : 0 < s := by simpa using hp
  refine trO_op hg (c := True) (we := [(dst, .osl gi vi 0 a.toNat)]) (wo := []) (rd := rdK x ++ (rdK hi ++ [Key.o gi])) ?_ ?_ trivial h
  · simp only [evalOp, R.run_bind, rdA_run', Option.getD_some, hx, hy, strip, rdOpt, R.run_ret, R.run_pure, raw_run, fits, R.run_go, go_lk, ho, sliceD, bound, pure1, put1]
    simp [hl, hp']
  · simp [rdOpt, hx, hy, fits, ho]
theorem trO_slc_own_lo {lo : Arg} {q : Nat} (hq : q = l.length) (hg : gOn e g = true) (hx : rdArg e x = some (.osl gi vi 0 q)) (hy : rdArg e lo = some (.int k a)) (ho : lkO o gi = some (vi, ⟨fz, var, s, ty, es⟩)) (hp : Nat.blt 0 s = true) (hl : 0 ≤ a ∧ a ≤ l.length)
    (h : TrO Γ r (nv + 1) ⟨(dst, .osl gi vi a.toNat (l.length - a.toNat)) :: e, o, n⟩ d (acc ++ [(gK g ++ (rdK x ++ (rdK lo ++ [.o gi])), [.e dst], af)]) K t) :
    TrO Γ (⟨some dst, .slc s x (some lo) none, g, af⟩ :: r) nv ⟨e, o, n⟩ d acc K t := by
  subst hq
  have hp' : 0 < s := by simpa using hp
  refine trO_op hg (c := True) (we := [(dst, .osl gi vi a.toNat (l.length - a.toNat))]) (wo := []) (rd := rdK x ++ (rdK lo ++ [Key.o gi])) ?_ ?_ trivial h
  · simp only [evalOp, R.run_bind, rdA_run', Option.getD_some, hx, hy, strip, rdOpt, R.run_ret, R.run_pure, raw_run, fits, R.run_go, go_lk, ho, sliceD, bound, pure1, put1]
    simp [hl, hp']
  · simp [rdOpt, hx, hy, fits, ho]
theorem trO_slc_sl {lo hi : Arg} {k2 : IntKind} (hg : gOn e g = true) (hx : rdArg e x = some (.sl (l.map en))) (hy : rdArg e lo = some (.int k a)) (hz : rdArg e hi = some (.int k2 b)) (hs : ∀ q, (cells (en q)).length = s) (hp : Nat.blt 0 s = true) (hl : 0 ≤ a ∧ a ≤ b ∧ b ≤ l.length)
    (h : TrO Γ r (nv + 1) ⟨(dst, .sl (((l.drop a.toNat).take (b.toNat - a.toNat)).map en)) :: e, o, n⟩ d (acc ++ [(gK g ++ (rdK x ++ (rdK lo ++ rdK hi)), [.e dst], af)]) K t) :
    TrO Γ (⟨some dst, .slc s x (some lo) (some hi), g, af⟩ :: r) nv ⟨e, o, n⟩ d acc K t := by
  have hp' : 0 < s := by simpa using hp
  refine trO_op hg (c := True) (we := [(dst, .sl (((l.drop a.toNat).take (b.toNat - a.toNat)).map en))]) (wo := []) (rd := rdK x ++ (rdK lo ++ rdK hi)) ?_ ?_ trivial h
  · simp only [evalOp, R.run_bind, rdA_run', Option.getD_some, hx, hy, hz, strip, rdOpt, R.run_ret, R.run_pure, raw_run, fits, sliceD, bound, pure1, put1]
    simp [hl, hs, hp', List.map_take, List.map_drop]
  · simp [rdOpt, hx, hy, hz, fits]
end
end Go.Dw
