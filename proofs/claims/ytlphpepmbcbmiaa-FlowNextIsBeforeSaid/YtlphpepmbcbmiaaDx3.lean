/-
  THE LAYER Dx, PART 3: functions on typed data as specs; calls; returns.
-/
import Derived.Test.YtlphpepmbcbmiaaDx2
namespace Go.Dw

section
variable {A B : Type}

/-- the spec that says: the function does what 'f' says of data -/
def fSpec (ptr : List (Nat × (Nat × Nat))) (kind : Kind) (enc : A → List D) (dec : List D → A) (f : A → Option B) (encR : B → D) (encE : B → List D) : Spec where
  ptr := ptr
  kind := kind
  pre := fun ds => ∃ a b, ds = enc a ∧ f a = some b
  res := fun ds => match f (dec ds) with | some b => encR b | none => .top
  eff := fun ds => match f (dec ds) with | some b => encE b | none => []

variable {ptr : List (Nat × (Nat × Nat))} {kind : Kind} {enc : A → List D} {dec : List D → A} {f : A → Option B} {encR : B → D} {encE : B → List D} {a : A} {b : B}

theorem fSpec_res (hde : ∀ a, dec (enc a) = a) (hf : f a = some b) : (fSpec ptr kind enc dec f encR encE).res (enc a) = encR b := by simp [fSpec, hde, hf]
theorem fSpec_eff (hde : ∀ a, dec (enc a) = a) (hf : f a = some b) : (fSpec ptr kind enc dec f encR encE).eff (enc a) = encE b := by simp [fSpec, hde, hf]

/-- where a function returns -/
def kRet (ptr : List (Nat × (Nat × Nat))) (kind : Kind) (rs : List DRes) (encR : B → D) (encE : B → List D) : B → DExit → S → Prop := fun b e τ =>
  match e with
  | .exit _ => False
  | _ => Wk (RetOk ⟨ptr, kind, fun _ => True, fun _ => encR b, fun _ => encE b⟩ rs []) τ

theorem fn_ok {P : Program} {Γ : Specs} (hΓ : ∀ k sp, Γ k = some sp → SpecOk P (k % 4096) sp) {k : Nat} {fn : Func} {dc : DCode} {rs : List DRes} (hf : P.funcs[k]? = some fn) (hname : (fn.name == "runtime.NumGoroutine") = false)
    (hc : (fn.body.bind (cCode P fn.ntmps)) = some dc) (hr : fn.results.toList.mapM (cRes P) = some rs) {np : Nat} (hnp : np ≤ fn.ntmps) (hde : ∀ a, dec (enc a) = a) (hlen : ∀ a, (enc a).length = np) (hkeys : ∀ a, argKeys ptr 0 (enc a) = ptr.map Prod.fst) (hptr : ptrOk ptr = true)
    (hT : ∀ a, TrE Γ dc (kRet ptr kind rs encR encE) ⟨initE ptr 0 (enc a), initO ptr 0 (enc a), 262144⟩ (f a)) (hni : inplOf kind = none := by rfl) : SpecOk P k (fSpec ptr kind enc dec f encR encE) := by
  refine fun_ok' hΓ hf hname hc hr hnp (by rintro ds ⟨a, b, rfl, _⟩; exact ⟨hlen a, hkeys a⟩) hptr ?_ hni
  rintro ds ⟨a, b, rfl, hb⟩ _
  have h := hT a b hb
  refine h.mono fun τ0 h => DWp_mono _ _ _ _ (fun e τ hq => ?_) h
  have key : ∀ τ, RetOk ⟨ptr, kind, fun _ => True, fun _ => encR b, fun _ => encE b⟩ rs [] τ → RetOk (fSpec ptr kind enc dec f encR encE) rs (enc a) τ := by
    simp only [RetOk, fSpec_res hde hb, fSpec_eff hde hb]
    exact fun _ h => h
  cases e with
  | exit id => exact hq.elim
  | normal => exact hq.mono key
  | ret => exact hq.mono key
end

def rdArgs (e : List (Nat × D)) : List Arg → List D
  | [] => []
  | x :: r => (rdArg e x).getD .top :: rdArgs e r
def rdKs : List Arg → List Key
  | [] => []
  | x :: r => rdK x ++ rdKs r

section
variable {Γ : Specs} {X A B : Type} {K : X → S → Prop} {t : Option X} {e : List (Nat × D)} {o : List (Nat × Obj?)} {n nv : Nat} {d : Bool} {acc : List Foot}
  {r : List DOper} {dst : Nat} {g : Option (Nat × Bool)} {af : List Nat} {α : Type}
  {ptr : List (Nat × (Nat × Nat))} {kind : Kind} {enc : A → List D} {dec : List D → A} {f : A → Option B} {encR : B → D} {encE : B → List D} {b : B}
  {fa : Arg} {args : List Arg} {caps : List D} {k : Nat} {c : Prop} {ds : List D} {w : List (Nat × Obj?)} {ps : List (Nat × Nat × Own)} {rk : List Key} {s ty : Nat}

theorem rdAs_run' : ∀ args : List Arg, (rdAs args).run ⟨e, o, n⟩ = rdArgs e args
  | [] => rfl
  | x :: r => by simp [rdAs, rdArgs, rdAs_run' r]
theorem rdAs_rd' : ∀ args : List Arg, (rdAs args).rd ⟨e, o, n⟩ = rdKs args
  | [] => rfl
  | x :: r => by simp [rdAs, rdKs, rdAs_rd' r]

theorem trO_call {sp : Spec} {dst : Option Nat} {c2 : Prop} {we : List (Nat × D)} {wo : List (Nat × Obj?)} (hg : gOn e g = true) (hf : rdArg e fa = some (.clo k caps)) (hΓ : Γ (k + 4096 * kcode (rdArgs e args)) = some sp) (hr : (callArgs sp.ptr 0 (rdArgs e args ++ caps)).run ⟨e, o, n⟩ = (c, ds, w, ps))
    (hk : (callArgs sp.ptr 0 (rdArgs e args ++ caps)).rd ⟨e, o, n⟩ = rk) (hco : callOut dst nv sp c ds w ps = ⟨c2, we, wo⟩) (hc : c2)
    (h : TrO Γ r (nv + 1) ⟨we ++ e, wo ++ o, n⟩ d (acc ++ [(gK g ++ (rdK fa ++ (rdKs args ++ rk)), we.map (fun x => .e x.1) ++ wo.map (fun x => .o x.1), af)]) K t) (hin : inplOf sp.kind = none := by rfl) (hkb : Nat.blt k 4096 = true := by rfl) :
    TrO Γ (⟨dst, .call fa args, g, af⟩ :: r) nv ⟨e, o, n⟩ d acc K t := by
  refine trO_op hg (c := c2) (we := we) (wo := wo) (rd := rdK fa ++ (rdKs args ++ rk)) ?_ ?_ hc h
  · simp only [evalOp, R.run_bind, raw_run, Option.getD_some, hf, hkb, rdAs_run', hΓ, hin, hr, R.run_pure, hco]
  · simp only [evalOp, R.rd_bind, raw_run, raw_rd, Option.getD_some, hf, hkb, rdAs_run', hΓ, hin, rdAs_rd', hr, hk, R.rd_pure, List.append_nil]

/-- an own slice of ints is written in place -/
theorem trO_inpl {sp : Spec} {vi gi ty' m : Nat} {l l' : List Int} {fl : List Int → List Int} {fk : List Int → Nat} (hg : gOn e g = true) (hf : rdArg e fa = some (.clo k caps)) (hΓ : Γ (k + 4096 * kcode (rdArgs e args)) = some sp) (hin : inplOf sp.kind = some (false, fl, fk))
    (hr : rdArgs e args ++ caps = [.osl gi vi 0 m]) (hm : m = l.length) (ho : lkO o gi = some (vi, ⟨false, false, 1, ty', l.map (.int .i64)⟩)) (hl : l.length < 4611686018427387904) (hfl : fl l = l')
    (h : TrO Γ r (nv + 1) ⟨e, (gi, some (vi, ⟨false, false, 1, ty', l'.map (.int .i64)⟩)) :: o, n⟩ d (acc ++ [(gK g ++ (rdK fa ++ (rdKs args ++ [.o gi])), [.o gi], af)]) K t) (hkb : Nat.blt k 4096 = true := by rfl) :
    TrO Γ (⟨none, .call fa args, g, af⟩ :: r) nv ⟨e, o, n⟩ d acc K t := by
  subst hm hfl
  have hd : (l.map (D.int .i64)).map dInt = l := by simp [Function.comp_def, dInt]
  refine trO_op hg (c := True) (we := []) (wo := [(gi, some (vi, ⟨false, false, 1, ty', (fl l).map (.int .i64)⟩))]) (rd := rdK fa ++ (rdKs args ++ [Key.o gi])) ?_ ?_ trivial ?_
  · simp only [evalOp, R.run_bind, raw_run, Option.getD_some, hf, hkb, rdAs_run', hΓ, hin, hr, inplR, R.run_go, go_lk, ho, R.run_ret]
    simp [put1, hd, hl, List.take_of_length_le, plainE, cells, plain]
  · simp only [evalOp, R.rd_bind, raw_run, raw_rd, Option.getD_some, hf, hkb, rdAs_run', hΓ, hin, rdAs_rd', hr, inplR, R.rd_go, go_lk, ho, R.rd_ret]
  · exact h
/-- .. where a slot takes the empty result -/
theorem trO_inpl_d {sp : Spec} {vi gi ty' m : Nat} {l l' : List Int} {fl : List Int → List Int} {fk : List Int → Nat} (hg : gOn e g = true) (hf : rdArg e fa = some (.clo k caps)) (hΓ : Γ (k + 4096 * kcode (rdArgs e args)) = some sp) (hin : inplOf sp.kind = some (false, fl, fk))
    (hr : rdArgs e args ++ caps = [.osl gi vi 0 m]) (hm : m = l.length) (ho : lkO o gi = some (vi, ⟨false, false, 1, ty', l.map (.int .i64)⟩)) (hl : l.length < 4611686018427387904) (hfl : fl l = l')
    (h : TrO Γ r (nv + 1) ⟨(dst, .top) :: e, (gi, some (vi, ⟨false, false, 1, ty', l'.map (.int .i64)⟩)) :: o, n⟩ d (acc ++ [(gK g ++ (rdK fa ++ (rdKs args ++ [.o gi])), [.e dst, .o gi], af)]) K t) (hkb : Nat.blt k 4096 = true := by rfl) :
    TrO Γ (⟨some dst, .call fa args, g, af⟩ :: r) nv ⟨e, o, n⟩ d acc K t := by
  subst hm hfl
  have hd : (l.map (D.int .i64)).map dInt = l := by simp [Function.comp_def, dInt]
  refine trO_op hg (c := True) (we := [(dst, .top)]) (wo := [(gi, some (vi, ⟨false, false, 1, ty', (fl l).map (.int .i64)⟩))]) (rd := rdK fa ++ (rdKs args ++ [Key.o gi])) ?_ ?_ trivial ?_
  · simp only [evalOp, R.run_bind, raw_run, Option.getD_some, hf, hkb, rdAs_run', hΓ, hin, hr, inplR, R.run_go, go_lk, ho, R.run_ret]
    simp [put1, hd, hl, List.take_of_length_le, plainE, cells, plain]
  · simp only [evalOp, R.rd_bind, raw_run, raw_rd, Option.getD_some, hf, hkb, rdAs_run', hΓ, hin, rdAs_rd', hr, inplR, R.rd_go, go_lk, ho, R.rd_ret]
  · exact h
/-- .. and cut: the result is the slice -/
theorem trO_inpl_cut {sp : Spec} {vi gi ty' m : Nat} {l l' : List Int} {fl : List Int → List Int} {fk : List Int → Nat} (hg : gOn e g = true) (hf : rdArg e fa = some (.clo k caps)) (hΓ : Γ (k + 4096 * kcode (rdArgs e args)) = some sp) (hin : inplOf sp.kind = some (true, fl, fk))
    (hr : rdArgs e args ++ caps = [.osl gi vi 0 m]) (hm : m = l.length) (ho : lkO o gi = some (vi, ⟨false, false, 1, ty', l.map (.int .i64)⟩)) (hl : l.length < 4611686018427387904) (hfl : (fl l).take (fk l) = l') (hfk : fk l = l'.length)
    (h : TrO Γ r (nv + 1) ⟨(dst, .osl gi vi 0 l'.length) :: e, (gi, some (vi, ⟨false, false, 1, ty', l'.map (.int .i64)⟩)) :: o, n⟩ d (acc ++ [(gK g ++ (rdK fa ++ (rdKs args ++ [.o gi])), [.e dst, .o gi], af)]) K t) (hkb : Nat.blt k 4096 = true := by rfl) :
    TrO Γ (⟨some dst, .call fa args, g, af⟩ :: r) nv ⟨e, o, n⟩ d acc K t := by
  subst hm hfl
  have hd : (l.map (D.int .i64)).map dInt = l := by simp [Function.comp_def, dInt]
  refine trO_op hg (c := True) (we := [(dst, .osl gi vi 0 ((fl l).take (fk l)).length)]) (wo := [(gi, some (vi, ⟨false, false, 1, ty', ((fl l).take (fk l)).map (.int .i64)⟩))]) (rd := rdK fa ++ (rdKs args ++ [Key.o gi])) ?_ ?_ trivial ?_
  · simp only [evalOp, R.run_bind, raw_run, Option.getD_some, hf, hkb, rdAs_run', hΓ, hin, hr, inplR, R.run_go, go_lk, ho, R.run_ret]
    simp [put1, hd, hl, List.take_of_length_le, plainE, cells, plain]
    rw [List.length_take] at hfk
    exact ⟨hfk, by rw [List.drop_of_length_le (by simp), List.append_nil]⟩
  · simp only [evalOp, R.rd_bind, raw_run, raw_rd, Option.getD_some, hf, hkb, rdAs_run', hΓ, hin, rdAs_rd', hr, inplR, R.rd_go, go_lk, ho, R.rd_ret]
  · exact h

/-- the result is a plain datum -/
theorem trO_call_val (a : A) (hg : gOn e g = true) (hf : rdArg e fa = some (.clo k caps)) (hΓ : Γ (k + 4096 * kcode (rdArgs e args)) = some (fSpec ptr .val enc dec f encR encE)) (hde : ∀ a, dec (enc a) = a) (hr : (callArgs ptr 0 (rdArgs e args ++ caps)).run ⟨e, o, n⟩ = (c, ds, w, ps))
    (hk : (callArgs ptr 0 (rdArgs e args ++ caps)).rd ⟨e, o, n⟩ = rk) (hc : c) (hds : ds = enc a) (hb : f a = some b)
    (h : TrO Γ r (nv + 1) ⟨(dst, encR b) :: e, (handBack ps (encE b) ++ w) ++ o, n⟩ d (acc ++ [(gK g ++ (rdK fa ++ (rdKs args ++ rk)), .e dst :: (handBack ps (encE b) ++ w).map (fun x => .o x.1), af)]) K t) (hkb : Nat.blt k 4096 = true := by rfl) :
    TrO Γ (⟨some dst, .call fa args, g, af⟩ :: r) nv ⟨e, o, n⟩ d acc K t := by
  subst hds
  refine trO_call (hkb := hkb) hg hf hΓ (sp := fSpec ptr .val enc dec f encR encE) hr hk (c2 := c ∧ ∃ a' b', enc a = enc a' ∧ f a' = some b') (we := [(dst, encR b)]) (wo := handBack ps (encE b) ++ w) ?_ ⟨hc, a, b, rfl, hb⟩ h
  simp only [callOut, fSpec_res hde hb, fSpec_eff hde hb, put1]
  rfl
/-- the result isn't asked for -/
theorem trO_call_none (a : A) (hg : gOn e g = true) (hf : rdArg e fa = some (.clo k caps)) (hΓ : Γ (k + 4096 * kcode (rdArgs e args)) = some (fSpec ptr .val enc dec f encR encE)) (hde : ∀ a, dec (enc a) = a) (hr : (callArgs ptr 0 (rdArgs e args ++ caps)).run ⟨e, o, n⟩ = (c, ds, w, ps))
    (hk : (callArgs ptr 0 (rdArgs e args ++ caps)).rd ⟨e, o, n⟩ = rk) (hc : c) (hds : ds = enc a) (hb : f a = some b)
    (h : TrO Γ r (nv + 1) ⟨e, (handBack ps (encE b) ++ w) ++ o, n⟩ d (acc ++ [(gK g ++ (rdK fa ++ (rdKs args ++ rk)), (handBack ps (encE b) ++ w).map (fun x => .o x.1), af)]) K t) (hkb : Nat.blt k 4096 = true := by rfl) :
    TrO Γ (⟨none, .call fa args, g, af⟩ :: r) nv ⟨e, o, n⟩ d acc K t := by
  subst hds
  refine trO_call (hkb := hkb) hg hf hΓ (sp := fSpec ptr .val enc dec f encR encE) hr hk (c2 := c ∧ ∃ a' b', enc a = enc a' ∧ f a' = some b') (we := []) (wo := handBack ps (encE b) ++ w) ?_ ⟨hc, a, b, rfl, hb⟩ h
  simp only [callOut, fSpec_res hde hb, fSpec_eff hde hb, put1]
  rfl
/-- the result holds no slice -/
theorem trO_call_ground (a : A) (hg : gOn e g = true) (hf : rdArg e fa = some (.clo k caps)) (hΓ : Γ (k + 4096 * kcode (rdArgs e args)) = some (fSpec [] .ground enc dec f encR encE)) (hde : ∀ a, dec (enc a) = a) (hr : (callArgs [] 0 (rdArgs e args ++ caps)).run ⟨e, o, n⟩ = (c, ds, w, ps))
    (hk : (callArgs [] 0 (rdArgs e args ++ caps)).rd ⟨e, o, n⟩ = rk) (hc : c) (hds : ds = enc a) (hb : f a = some b) (hgr : isGround (encR b) = true)
    (h : TrO Γ r (nv + 1) ⟨(dst, encR b) :: e, o, n⟩ d (acc ++ [(gK g ++ (rdK fa ++ (rdKs args ++ rk)), [.e dst], af)]) K t) (hkb : Nat.blt k 4096 = true := by rfl) :
    TrO Γ (⟨some dst, .call fa args, g, af⟩ :: r) nv ⟨e, o, n⟩ d acc K t := by
  subst hds
  refine trO_call (hkb := hkb) hg hf hΓ (sp := fSpec [] .ground enc dec f encR encE) hr hk (c2 := c ∧ (∃ a' b', enc a = enc a' ∧ f a' = some b') ∧ isGround (encR b) = true ∧ ([] : List (Nat × (Nat × Nat))) = []) (we := [(dst, encR b)]) (wo := []) ?_ ⟨hc, ⟨a, b, rfl, hb⟩, hgr, rfl⟩ h
  simp only [callOut, fSpec_res hde hb, put1]
  simp [fSpec]
/-- the result is a new slice -/
theorem trO_call_row (a : A) {l : List α} {en : α → D} (hg : gOn e g = true) (hf : rdArg e fa = some (.clo k caps)) (hΓ : Γ (k + 4096 * kcode (rdArgs e args)) = some (fSpec ptr (.row s ty) enc dec f encR encE)) (hde : ∀ a, dec (enc a) = a) (hr : (callArgs ptr 0 (rdArgs e args ++ caps)).run ⟨e, o, n⟩ = (c, ds, w, ps))
    (hk : (callArgs ptr 0 (rdArgs e args ++ caps)).rd ⟨e, o, n⟩ = rk) (hc : c) (hds : ds = enc a) (hb : f a = some b) (hl : encR b = .sl (l.map en))
    (h : TrO Γ r (nv + 1) ⟨(dst, .osl dst nv 0 l.length) :: e, ((dst, some (nv, ⟨false, false, s, ty, l.map en⟩)) :: (handBack ps (encE b) ++ w)) ++ o, n⟩ d (acc ++ [(gK g ++ (rdK fa ++ (rdKs args ++ rk)), .e dst :: .o dst :: (handBack ps (encE b) ++ w).map (fun x => .o x.1), af)]) K t) (hkb : Nat.blt k 4096 = true := by rfl) :
    TrO Γ (⟨some dst, .call fa args, g, af⟩ :: r) nv ⟨e, o, n⟩ d acc K t := by
  subst hds
  refine trO_call (hkb := hkb) hg hf hΓ (sp := fSpec ptr (.row s ty) enc dec f encR encE) hr hk (c2 := c ∧ (∃ a' b', enc a = enc a' ∧ f a' = some b') ∧ (some dst).isSome = true) (we := [(dst, .osl dst nv 0 l.length)]) (wo := (dst, some (nv, ⟨false, false, s, ty, l.map en⟩)) :: (handBack ps (encE b) ++ w)) ?_ ⟨hc, ⟨a, b, rfl, hb⟩, rfl⟩ h
  simp only [callOut, fSpec_res hde hb, fSpec_eff hde hb, hl, put1, putO]
  simp [fSpec]
/-- the result is a pointer to a new variable -/
theorem trO_call_ptr (a : A) (hg : gOn e g = true) (hf : rdArg e fa = some (.clo k caps)) (hΓ : Γ (k + 4096 * kcode (rdArgs e args)) = some (fSpec ptr (.ptr s ty) enc dec f encR encE)) (hde : ∀ a, dec (enc a) = a) (hr : (callArgs ptr 0 (rdArgs e args ++ caps)).run ⟨e, o, n⟩ = (c, ds, w, ps))
    (hk : (callArgs ptr 0 (rdArgs e args ++ caps)).rd ⟨e, o, n⟩ = rk) (hc : c) (hds : ds = enc a) (hb : f a = some b)
    (h : TrO Γ r (nv + 1) ⟨(dst, .optr dst nv 0 0) :: e, ((dst, some (nv, ⟨false, true, s, ty, [encR b]⟩)) :: (handBack ps (encE b) ++ w)) ++ o, n⟩ d (acc ++ [(gK g ++ (rdK fa ++ (rdKs args ++ rk)), .e dst :: .o dst :: (handBack ps (encE b) ++ w).map (fun x => .o x.1), af)]) K t) (hkb : Nat.blt k 4096 = true := by rfl) :
    TrO Γ (⟨some dst, .call fa args, g, af⟩ :: r) nv ⟨e, o, n⟩ d acc K t := by
  subst hds
  refine trO_call (hkb := hkb) hg hf hΓ (sp := fSpec ptr (.ptr s ty) enc dec f encR encE) hr hk (c2 := c ∧ (∃ a' b', enc a = enc a' ∧ f a' = some b') ∧ (some dst).isSome = true) (we := [(dst, .optr dst nv 0 0)]) (wo := (dst, some (nv, ⟨false, true, s, ty, [encR b]⟩)) :: (handBack ps (encE b) ++ w)) ?_ ⟨hc, ⟨a, b, rfl, hb⟩, rfl⟩ h
  simp only [callOut, fSpec_res hde hb, fSpec_eff hde hb, put1, putO]
  simp [fSpec]
/-- one of several results is a pointer to a new variable -/
theorem trO_call_tupPtr (a : A) {q : Nat} {rs : List D} {z : D} (hg : gOn e g = true) (hf : rdArg e fa = some (.clo k caps)) (hΓ : Γ (k + 4096 * kcode (rdArgs e args)) = some (fSpec ptr (.tupPtr q s ty) enc dec f encR encE)) (hde : ∀ a, dec (enc a) = a) (hr : (callArgs ptr 0 (rdArgs e args ++ caps)).run ⟨e, o, n⟩ = (c, ds, w, ps))
    (hk : (callArgs ptr 0 (rdArgs e args ++ caps)).rd ⟨e, o, n⟩ = rk) (hc : c) (hds : ds = enc a) (hb : f a = some b) (hl : encR b = .tup rs) (hz : rs.getD q .top = z)
    (h : TrO Γ r (nv + 1) ⟨(dst, .tup (rs.set q (.optr dst nv 0 0))) :: e, ((dst, some (nv, ⟨false, true, s, ty, [z]⟩)) :: (handBack ps (encE b) ++ w)) ++ o, n⟩ d (acc ++ [(gK g ++ (rdK fa ++ (rdKs args ++ rk)), .e dst :: .o dst :: (handBack ps (encE b) ++ w).map (fun x => .o x.1), af)]) K t) (hkb : Nat.blt k 4096 = true := by rfl) :
    TrO Γ (⟨some dst, .call fa args, g, af⟩ :: r) nv ⟨e, o, n⟩ d acc K t := by
  subst hds
  subst hz
  refine trO_call (hkb := hkb) hg hf hΓ (sp := fSpec ptr (.tupPtr q s ty) enc dec f encR encE) hr hk (c2 := c ∧ (∃ a' b', enc a = enc a' ∧ f a' = some b') ∧ (some dst).isSome = true) (we := [(dst, .tup (rs.set q (.optr dst nv 0 0)))]) (wo := (dst, some (nv, ⟨false, true, s, ty, [rs.getD q .top]⟩)) :: (handBack ps (encE b) ++ w)) ?_ ⟨hc, ⟨a, b, rfl, hb⟩, rfl⟩ h
  simp only [callOut, fSpec_res hde hb, fSpec_eff hde hb, hl, put1, putO]
  simp [fSpec]

theorem trO_mkf {q : Nat} (hg : gOn e g = true) (hx : rdArgs e args = caps) (hc : ∀ d ∈ caps, refOnly d = true)
    (h : TrO Γ r (nv + 1) ⟨(dst, .clo q caps) :: e, o, n⟩ d (acc ++ [(gK g ++ rdKs args, [.e dst], af)]) K t) : TrO Γ (⟨some dst, .mkf q args, g, af⟩ :: r) nv ⟨e, o, n⟩ d acc K t :=
  trO_op hg (c := ∀ d ∈ caps, refOnly d = true) (we := [(dst, .clo q caps)]) (wo := []) (rd := rdKs args) (by simp [evalOp, rdAs_run', hx, put1]) (by simp [evalOp, rdAs_rd']) hc h
end

@[simp] theorem rich_false (g : Nat) : (rich g = false) ↔ g < 4096 := by
  simp only [rich]
  cases hb : Nat.ble 4096 g
  · simp only [true_iff]; by_cases h : g < 4096
    · exact h
    · rw [Nat.ble_eq_true_of_le (by omega)] at hb; cases hb
  · have := Nat.le_of_ble_eq_true hb; simp; omega
@[simp] theorem rich_true (g : Nat) : (rich g = true) ↔ 4096 ≤ g := by
  have := rich_false g
  cases hb : rich g <;> simp_all <;> omega

/-! ### Returns -/
section
variable {B α : Type} {e : List (Nat × D)} {o : List (Nat × Obj?)} {n np : Nat} {ptr : List (Nat × (Nat × Nat))} {encR : B → D} {encE : B → List D} {b : B} {r0 : DRes} {rs : List DRes}
  {ce c c1 : Prop} {effs ds : List D} {we w : List (Nat × Obj?)} {d0 d1 : D} {s ty g : Nat}

theorem ret_val (he : (effR ptr).run ⟨e, o, n⟩ = (ce, effs, we)) (hce : ce) (heff : effs = encE b) (hr : (retV r0).run ⟨e, o, n⟩ = (c, d0, w)) (hc : c) (hd : d0 = encR b) : TrX .ret (kRet ptr .val [r0] encR encE) ⟨e, o, n⟩ (some b) := by
  rintro _ ⟨⟩
  refine ⟨_, .refl _, ?_⟩
  simp only [kRet, RetOk, he, hr]
  exact ⟨hce, heff, hc, hd⟩
theorem ret_ground (he : (effR ptr).run ⟨e, o, n⟩ = (ce, effs, we)) (hce : ce) (heff : effs = encE b) (hr : (retV r0).run ⟨e, o, n⟩ = (c, d0, w)) (hc : c) (hd : d0 = encR b) : TrX .ret (kRet ptr .ground [r0] encR encE) ⟨e, o, n⟩ (some b) := by
  rintro _ ⟨⟩
  refine ⟨_, .refl _, ?_⟩
  simp only [kRet, RetOk, he, hr]
  exact ⟨hce, heff, hc, hd⟩
theorem retOk_tup_val {q : D → Prop} (h : rs.length ≠ 1) (hk : ce ∧ effs = encE b ∧ c ∧ .tup ds = encR b ∧ rs.length ≠ 1) (he : (effR ptr).run ⟨e, o, n⟩ = (ce, effs, we)) (hr : (retVs rs).run ⟨e, o, n⟩ = (c, ds, w)) (kind : Kind) (hkind : kind = .val ∨ kind = .ground) :
    RetOk ⟨ptr, kind, fun _ => True, fun _ => encR b, fun _ => encE b⟩ rs [] ⟨e, o, n⟩ := by
  rcases hkind with rfl | rfl <;> (
    simp only [RetOk, he]
    refine ⟨hk.1, hk.2.1, ?_⟩
    match rs, h, hr with
    | [], h, hr => simp only [hr]; exact hk.2.2
    | [_], h, _ => exact (h rfl).elim
    | _ :: _ :: _, h, hr => simp only [hr]; exact hk.2.2)
theorem ret_tup_val (he : (effR ptr).run ⟨e, o, n⟩ = (ce, effs, we)) (hce : ce) (heff : effs = encE b) (hr : (retVs rs).run ⟨e, o, n⟩ = (c, ds, w)) (hc : c) (hd : .tup ds = encR b) (hl : rs.length ≠ 1) : TrX .ret (kRet ptr .val rs encR encE) ⟨e, o, n⟩ (some b) := by
  rintro _ ⟨⟩
  refine ⟨_, .refl _, ?_⟩
  exact retOk_tup_val (q := fun _ => True) hl ⟨hce, heff, hc, hd, hl⟩ he hr _ (.inl rfl)
theorem ret_tup_ground (he : (effR ptr).run ⟨e, o, n⟩ = (ce, effs, we)) (hce : ce) (heff : effs = encE b) (hr : (retVs rs).run ⟨e, o, n⟩ = (c, ds, w)) (hc : c) (hd : .tup ds = encR b) (hl : rs.length ≠ 1) : TrX .ret (kRet ptr .ground rs encR encE) ⟨e, o, n⟩ (some b) := by
  rintro _ ⟨⟩
  refine ⟨_, .refl _, ?_⟩
  exact retOk_tup_val (q := fun _ => True) hl ⟨hce, heff, hc, hd, hl⟩ he hr _ (.inr rfl)
theorem ret_row (he : (effR ptr).run ⟨e, o, n⟩ = (ce, effs, we)) (hce : ce) (heff : effs = encE b) (hr : (resR r0).run ⟨e, o, n⟩ = (c, d0)) (hc : c) (hs : (retS false s ty d0).run ⟨e, o, n⟩ = (c1, d1, g)) (hc1 : c1) (hd : d1 = encR b) (hw : we.all (fun x => x.1 != g) = true) :
    TrX .ret (kRet ptr (.row s ty) [r0] encR encE) ⟨e, o, n⟩ (some b) := by
  rintro _ ⟨⟩
  refine ⟨_, .refl _, ?_⟩
  simp only [kRet, RetOk, he, hr, hs]
  exact ⟨hce, heff, hc, hc1, hd, hw⟩
theorem ret_ptr (hr : (resR r0).run ⟨e, o, n⟩ = (c, d0)) (hc : c) (hs : (retP s ty d0).run ⟨e, o, n⟩ = (c1, d1, w, g)) (hc1 : c1) (hd : d1 = encR b) (he : (effR []).run ⟨e, o, n⟩ = (ce, effs, we)) (hce : ce) (heff : effs = encE b) :
    TrX .ret (kRet [] (.ptr s ty) [r0] encR encE) ⟨e, o, n⟩ (some b) := by
  rintro _ ⟨⟩
  refine ⟨_, .refl _, ?_⟩
  simp only [kRet, RetOk, he, hr, hs]
  exact ⟨hce, heff, hc, hc1, hd, trivial⟩
theorem ret_tupPtr {q : Nat} {cA cB cP : Prop} {dA dB : List D} {dP dq : D} {wA wB wP : List (Nat × Obj?)} (hq : q < rs.length) (hl : rs.length ≠ 1) (hA : (retVs (rs.take q)).run ⟨e, o, n⟩ = (cA, dA, wA)) (hcA : cA) (hB : (retVs (rs.drop (q + 1))).run ⟨e, o, n⟩ = (cB, dB, wB)) (hcB : cB)
    (hr : (resR (rs.getD q (.t 0))).run ⟨e, o, n⟩ = (c, dq)) (hc : c) (hP : (retP s ty dq).run ⟨e, o, n⟩ = (cP, dP, wP, g)) (hcP : cP) (hd : .tup (dA ++ dP :: dB) = encR b) (he : (effR []).run ⟨e, o, n⟩ = (ce, effs, we)) (hce : ce) (heff : effs = encE b) :
    TrX .ret (kRet [] (.tupPtr q s ty) rs encR encE) ⟨e, o, n⟩ (some b) := by
  rintro _ ⟨⟩
  refine ⟨_, .refl _, ?_⟩
  have key : q < rs.length ∧ rs.length ≠ 1 ∧ True ∧ ((retVs (rs.take q)).run ⟨e, o, n⟩).1 ∧ ((retVs (rs.drop (q + 1))).run ⟨e, o, n⟩).1 ∧ ((resR (rs.getD q (.t 0))).run ⟨e, o, n⟩).1 ∧ ((retP s ty ((resR (rs.getD q (.t 0))).run ⟨e, o, n⟩).2).run ⟨e, o, n⟩).1 ∧
      .tup (((retVs (rs.take q)).run ⟨e, o, n⟩).2.1 ++ ((retP s ty ((resR (rs.getD q (.t 0))).run ⟨e, o, n⟩).2).run ⟨e, o, n⟩).2.1 :: ((retVs (rs.drop (q + 1))).run ⟨e, o, n⟩).2.1) = encR b := by
    rw [hA, hB, hr, hP]
    exact ⟨hq, hl, trivial, hcA, hcB, hc, hcP, hd⟩
  clear hA hB hr hP
  simp only [kRet, RetOk, he]
  refine ⟨hce, heff, ?_⟩
  cases rs with
  | nil => exact key
  | cons r0 rs => cases rs <;> exact key
end

@[simp] theorem cells_agg (cs : List D) : cells (.agg cs) = cs := rfl

/-! ### States of a given form -/
def HasE (e : List (Nat × D)) : List (Nat × D) → Prop
  | [] => True
  | (t, d) :: r => (lookB e t).getD .top = d ∧ HasE e r
def HasO (o : List (Nat × Obj?)) : List (Nat × Obj?) → Prop
  | [] => True
  | (g, x) :: r => lkO o g = x ∧ HasO o r
theorem HasE.get {e : List (Nat × D)} : ∀ {E : List (Nat × D)}, HasE e E → ∀ p ∈ E, (lookB e p.1).getD .top = p.2
  | [], _, p, hp => by cases hp
  | q :: r, h, p, hp => by
    cases hp with
    | head => exact h.1
    | tail _ hp => exact HasE.get h.2 p hp
theorem HasO.get {o : List (Nat × Obj?)} : ∀ {O : List (Nat × Obj?)}, HasO o O → ∀ p ∈ O, lkO o p.1 = p.2
  | [], _, p, hp => by cases hp
  | q :: r, h, p, hp => by
    cases hp with
    | head => exact h.1
    | tail _ hp => exact HasO.get h.2 p hp
theorem trX_ret_has {B : Type} {ptr : List (Nat × (Nat × Nat))} {kind : Kind} {rs : List DRes} {encR : B → D} {encE : B → List D} {τ : S} {t : Option B} {x : DExit} {E : List (Nat × D)} {O : List (Nat × Obj?)} (hh : Has τ E O) (hx : ∀ id, x ≠ .exit id) (h : ∀ n, TrX .ret (kRet ptr kind rs encR encE) ⟨E, O, n⟩ t) : TrX x (kRet ptr kind rs encR encE) τ t := fun r hr => by
  obtain ⟨n, hh⟩ := hh
  obtain ⟨τ', h1, h2⟩ := h n r hr
  cases x with
  | exit id => exact (hx id rfl).elim
  | normal => exact ⟨τ', hh.trans h1, h2⟩
  | ret => exact ⟨τ', hh.trans h1, h2⟩
theorem has_exact {e E : List (Nat × D)} {o O : List (Nat × Obj?)} {n : Nat} (hE : HasE e E) (hO : HasO o O) : Has ⟨e, o, n⟩ E O := by
  refine ⟨n, ?_⟩
  refine Chg.weak (τ := ⟨E, O, n⟩) [] ⟨?_, ?_, ?_, Nat.le_refl _⟩ (.refl _)
  · intro p hp; cases hp
  · intro p hp
    refine .inl (.inl ?_)
    have := hE.get p hp
    rw [lookB_eq] at this
    exact this
  · intro p hp
    refine .inl ?_
    have := hO.get p hp
    simp only [S.gof, List.nil_append, go_lk]
    exact this

theorem osl_len {x : D} {g v q q' : Nat} (h1 : x = .osl g v 0 q) (h2 : q = q') : x = .osl g v 0 q' := h2 ▸ h1

/-! states whose data are made free of references -/
section
variable {e E : List (Nat × D)} {o O : List (Nat × Obj?)} {n : Nat} {ws : List (Nat × Obj?)} {α : Type}
def HasEc (e : List (Nat × D)) (o : List (Nat × Obj?)) (n : Nat) (ws : List (Nat × Obj?)) : List (Nat × D) → Prop
  | [] => True
  | (t, d) :: r => Conv ⟨e, o, n⟩ ws ((lookB e t).getD .top) d ∧ HasEc e o n ws r
def HasOc (e : List (Nat × D)) (o : List (Nat × Obj?)) (n : Nat) (ws : List (Nat × Obj?)) : List (Nat × Obj?) → Prop
  | [] => True
  | (g, x) :: r => (lkO (ws ++ o) g = x ∨ ∃ v p z z', lkO (ws ++ o) g = some (v, p) ∧ p.var = true ∧ p.es = [z] ∧ x = some (v, { p with es := [z'] }) ∧ Conv ⟨e, o, n⟩ ws z z') ∧ HasOc e o n ws r
def FzB (o : List (Nat × Obj?)) : List (Nat × Obj?) → Prop
  | [] => True
  | (g, x) :: r => (∃ v p, lkO o g = some (v, p) ∧ p.var = false ∧ x = some (v, { p with fz := true })) ∧ FzB o r
theorem has_conv (ws : List (Nat × Obj?)) (hw : FzB o ws) (hE : HasEc e o n ws E) (hO : HasOc e o n ws O) : Has ⟨e, o, n⟩ E O := by
  refine ⟨n, ?_⟩
  refine Chg.weak (τ := ⟨E, O, n⟩) ws ⟨?_, ?_, ?_, Nat.le_refl _⟩ (.refl _)
  · clear hE hO
    induction ws with
    | nil => intro p hp; cases hp
    | cons q r ih =>
      intro p hp
      cases hp with
      | head =>
        obtain ⟨v, p, h1, h2, h3⟩ := hw.1
        exact ⟨v, p, by rw [go_lk]; exact h1, h2, h3⟩
      | tail _ hp => exact ih hw.2 p hp
  · clear hw hO
    induction E with
    | nil => intro p hp; cases hp
    | cons q r ih =>
      intro p hp
      cases hp with
      | head =>
        have := hE.1
        rw [lookB_eq] at this
        exact this
      | tail _ hp => exact ih hE.2 p hp
  · clear hw hE
    induction O with
    | nil => intro p hp; cases hp
    | cons q r ih =>
      intro p hp
      cases hp with
      | head =>
        simp only [S.gof, go_lk]
        exact hO.1
      | tail _ hp => exact ih hO.2 p hp
theorem conv_same {x d : D} (h : x = d) : Conv ⟨e, o, n⟩ ws x d := .inl (.inl h)
theorem convC_same {x d : D} (h : x = d) : ConvC ⟨e, o, n⟩ ws x d := .inl h
theorem convC_nil {x : D} (en : α → D) (h : x = .nils) : ConvC ⟨e, o, n⟩ ws x (.sl (([] : List α).map en)) := by
  subst h
  exact .inr ⟨trivial, rfl, fun p hp => by cases hp⟩
theorem convC_own {x : D} {g v q s ty : Nat} {fz : Bool} {l : List α} {en : α → D} (h : x = .osl g v 0 q) (hq : q = l.length) (ho : lkO o g = some (v, ⟨fz, false, s, ty, l.map en⟩)) (hw : (g, some (v, (⟨true, false, s, ty, l.map en⟩ : Own))) ∈ ws) : ConvC ⟨e, o, n⟩ ws x (.sl (l.map en)) := by
  subst h; subst hq
  refine .inr ⟨?_, ?_, ?_⟩
  · simp [resC, ho]
  · simp [resC, ho]; exact List.take_of_length_le (by simp)
  · intro p hp
    simp [resC, ho] at hp
    subst hp
    exact hw
theorem convC_suf {x : D} {g v i s ty : Nat} {fz : Bool} {l : List α} {en : α → D} (h : x = .osl g v i (l.length - i)) (hi : i ≤ l.length) (ho : lkO o g = some (v, ⟨fz, false, s, ty, l.map en⟩)) (hw : (g, some (v, (⟨true, false, s, ty, l.map en⟩ : Own))) ∈ ws) : ConvC ⟨e, o, n⟩ ws x (.sl ((l.drop i).map en)) := by
  subst h
  refine .inr ⟨?_, ?_, ?_⟩
  · simp [resC, ho]; omega
  · simp [resC, ho]; exact List.take_of_length_le (by simp)
  · intro p hp
    simp [resC, ho] at hp
    subst hp
    exact hw
theorem conv_cell {x d : D} (h : ConvC ⟨e, o, n⟩ ws x d) : Conv ⟨e, o, n⟩ ws x d := .inl h
theorem conv_agg {x : D} {cs cs' : List D} (h : x = .agg cs) (hc : ConvCs ⟨e, o, n⟩ ws cs cs') : Conv ⟨e, o, n⟩ ws x (.agg cs') := .inr ⟨cs, cs', h, rfl, hc⟩
end

@[simp] theorem take_len_map {α : Type} (en : α → D) (l : List α) : List.take l.length (l.map en) = l.map en := List.take_of_length_le (by simp)
@[simp] theorem take_sub_map {α : Type} (en : α → D) (l : List α) (i : Nat) : List.take (l.length - i) (List.drop i (l.map en)) = (l.drop i).map en := by
  rw [← List.map_drop]; exact List.take_of_length_le (by simp)
@[simp] theorem take_set_map {α : Type} (en : α → D) (l : List α) (i : Nat) (y : D) : List.take l.length ((l.map en).set i y) = (l.map en).set i y := List.take_of_length_le (by simp)
theorem take_drop0_map {α : Type} (en : α → D) (l : List α) : List.take l.length (List.drop 0 (l.map en)) = l.map en := take_len_map en l
theorem take_drop0_map' {α : Type} (en : α → D) (l : List α) {q : Nat} (h : q = l.length) : List.take q (List.drop 0 (l.map en)) = l.map en := h ▸ take_len_map en l
theorem take_len_map' {α : Type} (en : α → D) (l : List α) {q : Nat} (h : q = l.length) : List.take q (l.map en) = l.map en := h ▸ take_len_map en l
@[simp] theorem take_add_map {α : Type} (en : α → D) (l l' : List α) : List.take (l.length + l'.length) (l.map en ++ l'.map en) = l.map en ++ l'.map en := List.take_of_length_le (by simp)

/-! ### Encodings and decodings -/
def cel (d : D) (i : Nat) : D := match d with | .agg cs => cs.getD i .top | .tup cs => cs.getD i .top | _ => .top
def uI : D → Int | .int _ n => n | _ => 0
def uBo : D → Bool | .bool b => b | _ => false
def uS : D → List UInt8 | .str s => s | _ => []
def uL {α : Type} (u : D → α) : D → List α | .sl es => es.map u | _ => []
abbrev eI (k : IntKind) (n : Int) : D := .int k n
abbrev eBo (b : Bool) : D := .bool b
abbrev eS (s : List UInt8) : D := .str s
abbrev eL {α : Type} (en : α → D) (l : List α) : D := .sl (l.map en)
@[simp] theorem uL_e {α : Type} {u : D → α} {en : α → D} (h : ∀ a, u (en a) = a) (l : List α) : uL u (.sl (l.map en)) = l := by
  simp only [uL, List.map_map]
  conv => rhs; rw [← List.map_id l]
  exact List.map_congr_left fun a _ => h a
end Go.Dw
