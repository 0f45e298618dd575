/-
  THE LAYER Dx, PART 6: the rules for rich objects: slices that a cell alone holds; steps that change the description of a state.
-/
import Derived.Test.YtlphpepmbcbmiaaDx5
namespace Go.Dw

/-- a slice that its holder alone holds, of typed data -/
abbrev eR {α : Type} (s ty : Nat) (en : α → D) (l : List α) : D := .row s ty (l.map en)
def uR {α : Type} (u : D → α) : D → List α | .row _ _ es => es.map u | _ => []
@[simp] theorem uR_e {α : Type} {u : D → α} {en : α → D} (h : ∀ a, u (en a) = a) (s ty : Nat) (l : List α) : uR u (.row s ty (l.map en)) = l := by
  simp only [uR, List.map_map]
  conv => rhs; rw [← List.map_id l]
  exact List.map_congr_left fun a _ => h a

theorem plain_map {α : Type} {l : List α} {en : α → D} (h : ∀ q, plainE (en q) = true) : ∀ e ∈ l.map en, plainE e = true := fun e he => by
  obtain ⟨q, _, rfl⟩ := List.mem_map.1 he
  exact h q

section
variable {Γ : Specs} {X : Type} {K : X → S → Prop} {t : Option X} {e : List (Nat × D)} {o : List (Nat × Obj?)} {n nv : Nat} {d : Bool} {acc : List Foot}
  {r : List DOper} {dst : Nat} {g : Option (Nat × Bool)} {af : List Nat} {α : Type}
variable {x y : Arg} {v w : D} {k k' : IntKind} {a b : Int} {s ty gi vi ii off m : Nat} {fz var : Bool} {es es' : List D} {z z' : D} {l l' : List α} {en : α → D}

theorem trO_st_rich {i : Nat} {c : Prop} {cs' : List D} {wo : List (Nat × Obj?)} {rk : List Key} (hg : gOn e g = true) (hx : rdArg e x = some (.optr gi vi i off)) (hy : rdArg e y = some v) (hw : strip v = (true, v)) (ho : lkO o gi = some (vi, ⟨false, var, s, ty, es⟩))
    (hr : (cloCs var (cells v)).run ⟨e, o, n⟩ = (c, cs', wo)) (hrd : (cloCs var (cells v)).rd ⟨e, o, n⟩ = rk) (hc : c) (hz : es[i]? = some z) (hk : known v = true) (hl : (cells v).length = m) (hb : Nat.ble (off + m) (cells z).length = true)
    (hes : es.set i (setE z off cs') = es') (hwo : wo.all (fun x => x.1 != gi) = true)
    (h : TrO Γ r (nv + 1) ⟨e, (gi, some (vi, ⟨false, var, s, ty, es'⟩)) :: (wo ++ o), n⟩ d (acc ++ [(gK g ++ (rdK x ++ (rdK y ++ (.o gi :: rk))), .o gi :: wo.map (fun x => .o x.1), af)]) K t) (hrg : rich gi = true := by rfl) :
    TrO Γ (⟨none, .st m x y, g, af⟩ :: r) nv ⟨e, o, n⟩ d acc K t := by
  have hb' := Nat.le_of_ble_eq_true hb
  obtain ⟨hi', rfl⟩ := List.getElem?_eq_some_iff.1 hz
  have hgd : es.getD i .top = es[i] := by simp [hi']
  refine trO_op hg (c := True) (we := []) (wo := (gi, some (vi, ⟨false, var, s, ty, es'⟩)) :: wo) (rd := rdK x ++ (rdK y ++ (Key.o gi :: rk))) ?_ ?_ trivial (by simpa using h)
  · simp only [evalOp, R.run_bind, rdA_run', Option.getD_some, hx, hy, hw, strip_optr, R.run_go, go_lk, ho, hrg, if_true, R.run_ret, hr, hgd, hes]
    simp [hc, hi', hb', hk, hl, hwo]
  · simp only [evalOp, R.rd_bind, rdA_run', rdA_rd', Option.getD_some, hx, hy, hw, strip_optr, R.rd_go, go_lk, ho, hrg, if_true, R.rd_ret, hrd, hr]
    simp

/-- a slice is taken out of a cell -/
theorem trO_open {i s0 ty0 : Nat} {es0 es0' : List D} (l : List α) (en : α → D) (hg : gOn e g = true) (hx : rdArg e x = some (.optr gi vi i off)) (ho : lkO o gi = some (vi, ⟨false, var, s0, ty0, es0⟩)) (hz : es0[i]? = some z) (hb : Nat.ble (off + 1) (cells z).length = true)
    (hv : partD (cells z) off 1 false = .row s ty (l.map en)) (hes : es0.set i (setE z off [.hole nv l.length]) = es0')
    (h : TrO Γ r (nv + 1) ⟨(dst, .osl (4096 + dst) nv 0 l.length) :: e, (4096 + dst, some (nv, ⟨false, false, s, ty, l.map en⟩)) :: (gi, some (vi, ⟨false, var, s0, ty0, es0'⟩)) :: o, n⟩ d (acc ++ [(gK g ++ (rdK x ++ [.o gi]), [.e dst, .o (4096 + dst), .o gi], af)]) K t)
    (hrg : rich gi = true := by rfl) (hne : Nat.beq gi (4096 + dst) = false := by rfl) :
    TrO Γ (⟨some dst, .ld 1 false x, g, af⟩ :: r) nv ⟨e, o, n⟩ d acc K t := by
  obtain ⟨hi, rfl⟩ := List.getElem?_eq_some_iff.1 hz
  have hb' := Nat.le_of_ble_eq_true hb
  have hgd : es0.getD i .top = es0[i] := by simp [hi]
  have hne' : gi ≠ 4096 + dst := fun e => by subst e; simp at hne
  refine trO_op hg (c := True) (we := [(dst, .osl (4096 + dst) nv 0 l.length)]) (wo := [(4096 + dst, some (nv, ⟨false, false, s, ty, l.map en⟩)), (gi, some (vi, ⟨false, var, s0, ty0, es0'⟩))]) (rd := rdK x ++ [Key.o gi]) ?_ ?_ trivial h
  · simp only [evalOp, R.run_bind, rdA_run', Option.getD_some, hx, strip, R.run_go, go_lk, ho, put1, hgd, hv, hrg]
    simp [hi, hb', hne', hes]
  · simp only [evalOp, R.rd_bind, rdA_run', rdA_rd', Option.getD_some, hx, strip, R.rd_go, go_lk, ho, hgd, hv, hrg]
    simp

/-- typed: a row is taken out -/
theorem trO_open1 {i s0 ty0 : Nat} {l : List (List α)} {q : List α} (en : α → D) (hg : gOn e g = true) (hx : rdArg e x = some (.optr gi vi i 0)) (ho : lkO o gi = some (vi, ⟨false, false, s0, ty0, l.map (eR s ty en)⟩)) (hi : l[i]? = some q)
    (h : TrO Γ r (nv + 1) ⟨(dst, .osl (4096 + dst) nv 0 q.length) :: e, (4096 + dst, some (nv, ⟨false, false, s, ty, q.map en⟩)) :: (gi, some (vi, ⟨false, false, s0, ty0, (l.map (eR s ty en)).set i (.hole nv q.length)⟩)) :: o, n⟩ d (acc ++ [(gK g ++ (rdK x ++ [.o gi]), [.e dst, .o (4096 + dst), .o gi], af)]) K t)
    (hrg : rich gi = true := by rfl) (hne : Nat.beq gi (4096 + dst) = false := by rfl) :
    TrO Γ (⟨some dst, .ld 1 false x, g, af⟩ :: r) nv ⟨e, o, n⟩ d acc K t :=
  trO_open (i := i) (z := eR s ty en q) q en hg hx ho (by simp [hi]) rfl rfl rfl h hrg hne
theorem trO_ixA_len {q : Nat} {es : List D} (hq : es.length = q) (hg : gOn e g = true) (hx : rdArg e x = some (.osl gi vi 0 q)) (hy : rdArg e y = some (.int k a)) (ho : lkO o gi = some (vi, ⟨fz, false, s, ty, es⟩)) (hi : 0 ≤ a ∧ a < q)
    (h : TrO Γ r (nv + 1) ⟨(dst, .optr gi vi a.toNat 0) :: e, o, n⟩ d (acc ++ [(gK g ++ (rdK x ++ (rdK y ++ [.o gi])), [.e dst], af)]) K t) :
    TrO Γ (⟨some dst, .ixA s x y, g, af⟩ :: r) nv ⟨e, o, n⟩ d acc K t := by
  subst hq
  refine trO_op hg (c := True) (we := [(dst, .optr gi vi a.toNat 0)]) (wo := []) (rd := rdK x ++ (rdK y ++ [Key.o gi])) ?_ (by simp [evalOp, strip, R.rd_go, go_lk, hx, hy, ho]) trivial h
  simp only [evalOp, R.run_bind, rdA_run', Option.getD_some, hx, hy, strip, R.run_go, go_lk, ho, R.run_ret, put1]
  simp [hi.1, hi.2]
/-- typed: a slice is put into a cell -/
theorem trO_st_row1 {i g' v' m s0 ty0 : Nat} {l : List (List α)} {q q' : List α} {es : List D} {c : Prop} {cs' : List D} {wo : List (Nat × Obj?)} {rk : List Key} (en : α → D) (hg : gOn e g = true) (hx : rdArg e x = some (.optr gi vi i 0)) (hy : rdArg e y = some (.osl g' v' 0 m)) (ho : lkO o gi = some (vi, ⟨false, false, s0, ty0, es⟩)) (hes : es = l.map (eR s ty en) ∨ ∃ u w, es = (l.map (eR s ty en)).set i (.hole u w)) (hi : l[i]? = some q)
    (hr : (cloCs false [.osl g' v' 0 m]).run ⟨e, o, n⟩ = (c, cs', wo)) (hrd : (cloCs false [.osl g' v' 0 m]).rd ⟨e, o, n⟩ = rk) (hc : c) (hcs : cs' = [eR s ty en q']) (hwo : wo.all (fun x => x.1 != gi) = true)
    (h : TrO Γ r (nv + 1) ⟨e, (gi, some (vi, ⟨false, false, s0, ty0, (l.set i q').map (eR s ty en)⟩)) :: (wo ++ o), n⟩ d (acc ++ [(gK g ++ (rdK x ++ (rdK y ++ (.o gi :: rk))), .o gi :: wo.map (fun x => .o x.1), af)]) K t) (hrg : rich gi = true := by rfl) :
    TrO Γ (⟨none, .st 1 x y, g, af⟩ :: r) nv ⟨e, o, n⟩ d acc K t := by
  subst hcs
  obtain ⟨hl, _⟩ := List.getElem?_eq_some_iff.1 hi
  have hlen : i < es.length := by rcases hes with rfl | ⟨u, w, rfl⟩ <;> simpa using hl
  have hset : es.set i (eR s ty en q') = (l.set i q').map (eR s ty en) := by
    rcases hes with rfl | ⟨u, w, rfl⟩ <;> simp [List.map_set]
  have hz : es[i]? = some es[i] := by simp [hlen]
  have hc1 : (cells es[i]).length = 1 ∧ setE es[i] 0 [eR s ty en q'] = eR s ty en q' := by
    rcases hes with rfl | ⟨u, w, rfl⟩
    · simp [cells, setE]
    · simp [cells, setE]
  exact trO_st_rich (i := i) (off := 0) (m := 1) (z := es[i]) hg hx hy rfl ho hr hrd hc hz rfl rfl (by rw [hc1.1]; rfl) (by rw [hc1.2]; exact hset) hwo h hrg

/-- append onto a slice that was taken out of a cell -/
theorem trO_app_r {bytes : Nat} {c c' : Prop} {new old : List D} {wo : List (Nat × Obj?)} {rk rk' : List Key} (l l' : List α) (en : α → D) (hg : gOn e g = true) (hx : rdArg e x = some v) (hy : rdArg e y = some w) (hvw : strip v = (true, v)) (hww : strip w = (true, w))
    (hv : (view w).run ⟨e, o, n⟩ = (c, new)) (hvr : (view w).rd ⟨e, o, n⟩ = rk) (hc : c) (hn : new = l'.map en)
    (ht : (target s ty v).run ⟨e, o, n⟩ = (c', old, wo, true)) (htr : (target s ty v).rd ⟨e, o, n⟩ = rk') (hc' : c') (ho : old = l.map en)
    (hs : ∀ q, (cells (en q)).length = s) (hby : Nat.ble bytes 65536 = true) (hl : l.length + l'.length ≤ 16777216) (hpl : ∀ q, plainE (en q) = true)
    (h : TrO Γ r (nv + 1) ⟨(dst, .osl (4096 + dst) nv 0 (l ++ l').length) :: e, (4096 + dst, some (nv, ⟨false, false, s, ty, (l ++ l').map en⟩)) :: (wo ++ o), n⟩ d (acc ++ [(gK g ++ (rdK x ++ (rdK y ++ (rk ++ rk'))), [.e dst, .o (4096 + dst)] ++ wo.map (fun x => .o x.1), af)]) K t) :
    TrO Γ (⟨some dst, .app s ty bytes x y, g, af⟩ :: r) nv ⟨e, o, n⟩ d acc K t := by
  have hb' := Nat.le_of_ble_eq_true hby
  subst hn; subst ho
  refine trO_op hg (c := True) (we := [(dst, .osl (4096 + dst) nv 0 (l ++ l').length)]) (wo := (4096 + dst, some (nv, ⟨false, false, s, ty, (l ++ l').map en⟩)) :: wo) (rd := rdK x ++ (rdK y ++ (rk ++ rk'))) ?_ ?_ trivial (by simpa using h)
  · simp only [evalOp, R.run_bind, rdA_run', Option.getD_some, hx, hy, hvw, hww, source, hv, ht, R.run_pure, put1, putR, nmR, cond_true]
    have hall : ∀ q ∈ l.map en ++ l'.map en, plainE q = true := by
      intro q hq
      rcases List.mem_append.1 hq with hq | hq <;> (obtain ⟨p, _, rfl⟩ := List.mem_map.1 hq; exact hpl p)
    simp [hc, hc', hl, hb', hs]
    intro q hq
    rcases hq with ⟨p, _, rfl⟩ | ⟨p, _, rfl⟩ <;> exact hpl p
  · simp only [evalOp, R.rd_bind, rdA_run', rdA_rd', Option.getD_some, hx, hy, hvw, hww, source, hv, hvr, htr, R.rd_pure]
    simp

theorem trO_asg_own_r {s' ty' q : Nat} (hq : q = l.length) (hg : gOn e g = true) (hx : rdArg e x = some (.osl gi vi 0 q)) (ho : lkO o gi = some (vi, ⟨false, false, s, ty, l.map en⟩)) (hpl : ∀ q, plainE (en q) = true)
    (h : TrO Γ r (nv + 1) ⟨(dst, .osl (4096 + dst) nv 0 l.length) :: e, (4096 + dst, some (nv, ⟨false, false, s, ty, l.map en⟩)) :: (gi, none) :: o, n⟩ d (acc ++ [(gK g ++ (rdK x ++ [.o gi]), [.e dst, .o (4096 + dst), .o gi], af)]) K t) (hrg : rich gi = true := by rfl) :
    TrO Γ (⟨some dst, .asg x (some (s', ty')), g, af⟩ :: r) nv ⟨e, o, n⟩ d acc K t := by
  subst hq
  refine trO_op hg (c := True) (we := [(dst, .osl (4096 + dst) nv 0 l.length)]) (wo := [(4096 + dst, some (nv, ⟨false, false, s, ty, l.map en⟩)), (gi, none)]) (rd := rdK x ++ [Key.o gi]) ?_ ?_ trivial h
  · simp only [evalOp, R.run_bind, raw_run, Option.getD_some, hx, R.run_go, go_lk, ho, Bool.false_eq_true, if_false, R.run_ret, hrg, nmR, putR, put1, cond_true]
    simp
    exact fun q _ => hpl q
  · simp only [evalOp, R.rd_bind, raw_run, raw_rd, Option.getD_some, hx, R.rd_go, go_lk, ho, Bool.false_eq_true, if_false, R.rd_ret]

/-- a new slice of nil slices -/
theorem trO_mkS_nil {bytes : Nat} (hg : gOn e g = true) (hx : rdArg e x = some (.int k a)) (hy : rdArg e y = some (.int k' a)) (hl : 0 ≤ a ∧ a ≤ 16777216) (hby : Nat.ble bytes 65536 = true)
    (h : TrO Γ r (nv + 1) ⟨(dst, .osl dst nv 0 (List.replicate a.toNat ([] : List α)).length) :: e, (dst, some (nv, ⟨false, false, s, ty, (List.replicate a.toNat ([] : List α)).map (fun _ => .nils)⟩)) :: o, n⟩ d (acc ++ [(gK g ++ (rdK x ++ rdK y), [.e dst, .o dst], af)]) K t) :
    TrO Γ (⟨some dst, .mkS s ty bytes .nils x y, g, af⟩ :: r) nv ⟨e, o, n⟩ d acc K t := by
  have := Nat.le_of_ble_eq_true hby
  exact trO_op hg (c := True) (we := [(dst, .osl dst nv 0 (List.replicate a.toNat ([] : List α)).length)]) (wo := [(dst, some (nv, ⟨false, false, s, ty, (List.replicate a.toNat ([] : List α)).map (fun _ => .nils)⟩))]) (rd := rdK x ++ rdK y) (by simp [evalOp, put1, putO, strip, hx, hy, hl, this]) (by simp [evalOp, strip, hx, hy]) trivial h
end

/-! ### Changes of the description -/
section
variable {e E : List (Nat × D)} {o O : List (Nat × Obj?)} {n : Nat} {α : Type} {g v s ty : Nat} {var : Bool} {es es' : List D} {z : D}

theorem has_rw {τ : S} (hw : Rw ⟨e, o, n⟩ τ) (h : Has τ E O) : Has ⟨e, o, n⟩ E O := h.imp fun _ h => .rw hw h

theorem has_close {i off g' v' m s' ty' : Nat} {l : List α} {en : α → D} {c : D} (ho : lkO o g = some (v, ⟨false, var, s, ty, es⟩)) (hz : es[i]? = some z) (hc : (cells z)[off]? = some c) (hh : c = .hole v' m ∨ (c = .osl g' v' 0 m ∧ var = true)) (ho' : lkO o g' = some (v', ⟨false, false, s', ty', l.map en⟩))
    (hm : m = l.length) (hp : ∀ q, plainE (en q) = true) (hes : es.set i (setE z off [.row s' ty' (l.map en)]) = es')
    (h : Has ⟨e, (g, some (v, ⟨false, var, s, ty, es'⟩)) :: (g', none) :: o, n⟩ E O) (hrg : rich g = true := by rfl) (hne : Nat.beq g g' = false := by rfl) : Has ⟨e, o, n⟩ E O := by
  obtain ⟨hi, rfl⟩ := List.getElem?_eq_some_iff.1 hz
  have hgd : es.getD i .top = es[i] := by simp [hi]
  have hne' : g ≠ g' := fun e => by subst e; simp at hne
  subst hm
  have := Rw.close (σ := ⟨e, o, n⟩) g v i off g' v' l.length ⟨false, var, s, ty, es⟩ ⟨false, false, s', ty', l.map en⟩ c (by rw [go_lk]; exact ho) hrg rfl hi (by rw [hgd]; exact hc) hh (by rw [go_lk]; exact ho') rfl rfl (by simp) (.inr fun e he => by
    obtain ⟨q, _, rfl⟩ := List.mem_map.1 he
    exact hp q) hne'
  refine has_rw this ?_
  simp only [hgd, take_len_map, hes]
  exact h

/-- typed: a row goes back into its cell -/
theorem has_close1 {i g' v' m s' ty' : Nat} {l : List (List α)} {q q' : List α} {en : α → D} (hi : l[i]? = some q) (ho : lkO o g = some (v, ⟨false, false, s, ty, (l.map (eR s' ty' en)).set i (.hole v' m)⟩)) (ho' : lkO o g' = some (v', ⟨false, false, s', ty', q'.map en⟩))
    (hm : m = q'.length) (hp : ∀ q, plainE (en q) = true)
    (h : Has ⟨e, (g, some (v, ⟨false, false, s, ty, (l.set i q').map (eR s' ty' en)⟩)) :: (g', none) :: o, n⟩ E O) (hrg : rich g = true := by rfl) (hne : Nat.beq g g' = false := by rfl) : Has ⟨e, o, n⟩ E O := by
  obtain ⟨hl, _⟩ := List.getElem?_eq_some_iff.1 hi
  refine has_close (i := i) (off := 0) (z := .hole v' m) (c := .hole v' m) ho (by simp [hl]) rfl (.inl rfl) ho' hm hp ?_ h hrg hne
  simp [setE, cells, List.map_set]
theorem has_close1_same {i g' v' m s' ty' : Nat} {l : List (List α)} {q : List α} {en : α → D} (hi : l[i]? = some q) (ho : lkO o g = some (v, ⟨false, false, s, ty, (l.map (eR s' ty' en)).set i (.hole v' m)⟩)) (ho' : lkO o g' = some (v', ⟨false, false, s', ty', q.map en⟩))
    (hm : m = q.length) (hp : ∀ q, plainE (en q) = true)
    (h : Has ⟨e, (g, some (v, ⟨false, false, s, ty, l.map (eR s' ty' en)⟩)) :: (g', none) :: o, n⟩ E O) (hrg : rich g = true := by rfl) (hne : Nat.beq g g' = false := by rfl) : Has ⟨e, o, n⟩ E O := by
  refine has_close1 hi ho ho' hm hp ?_ hrg hne
  obtain ⟨hl, he⟩ := List.getElem?_eq_some_iff.1 hi
  have : l.set i q = l := by rw [← he]; exact List.set_getElem_self hl
  rw [this]
  exact h

/-- a rich variable's slice gets a name of its own -/
theorem has_opn {off s' ty' : Nat} {z' : D} (t : Nat) (l : List α) (en : α → D) (ho : lkO o g = some (v, ⟨false, true, s, ty, [z]⟩)) (hc : (cells z)[off]? = some (.row s' ty' (l.map en))) (hz : setE z off [.osl (4096 + t) n 0 l.length] = z')
    (h : Has ⟨e, (4096 + t, some (n, ⟨false, false, s', ty', l.map en⟩)) :: (g, some (v, ⟨false, true, s, ty, [z']⟩)) :: o, n + 1⟩ E O) (hrg : rich g = true := by rfl) (hne : Nat.beq g (4096 + t) = false := by rfl) : Has ⟨e, o, n⟩ E O := by
  have hne' : g ≠ 4096 + t := fun e => by subst e; simp at hne
  have := Rw.opn (σ := ⟨e, o, n⟩) g v 0 off t s' ty' (l.map en) ⟨false, true, s, ty, [z]⟩ (by rw [go_lk]; exact ho) hrg rfl rfl (by simp) hc hne'
  refine has_rw this ?_
  simp only [List.length_map, List.getD_cons_zero, List.set_cons_zero, hz]
  exact h

/-- an object becomes rich: nil slices become slices of its own -/
theorem has_enrich {g2 : Nat} (ho : lkO o g = some (v, ⟨false, var, s, ty, es⟩)) (hrg : rich g = false) (hg2 : g2 = 4096 + g) (he : Each (Enr false) es es')
    (h : Has ⟨e.map (fun p => (p.1, ren g g2 p.2)), (g2, some (v, ⟨false, var, s, ty, es'⟩)) :: (g, none) :: o, n⟩ E O) : Has ⟨e, o, n⟩ E O := by
  have := Rw.enrich (σ := ⟨e, o, n⟩) g g2 v ⟨false, var, s, ty, es⟩ es' (by rw [go_lk]; exact ho) rfl (.inr ⟨hrg, hg2⟩) (by rw [hrg]; exact he)
  refine has_rw this ?_
  have hb : Nat.beq g g2 = false := by
    cases hb : Nat.beq g g2
    · rfl
    · have := Nat.eq_of_beq_eq_true hb; omega
  rw [hb]
  exact h
/-- cells of a rich object: nil slices become slices of its own -/
theorem has_enrich_r (ho : lkO o g = some (v, ⟨false, var, s, ty, es⟩)) (hrg : rich g = true) (he : Each (Enr true) es es')
    (h : Has ⟨e.map (fun p => (p.1, ren g g p.2)), (g, some (v, ⟨false, var, s, ty, es'⟩)) :: (g, some (v, ⟨false, var, s, ty, es'⟩)) :: o, n⟩ E O) : Has ⟨e, o, n⟩ E O := by
  have := Rw.enrich (σ := ⟨e, o, n⟩) g g v ⟨false, var, s, ty, es⟩ es' (by rw [go_lk]; exact ho) rfl (.inl ⟨rfl, hrg⟩) (by rw [hrg]; exact he)
  refine has_rw this ?_
  simpa using h
theorem enr_nils {s' ty' : Nat} {l : List (List α)} (en : α → D) (hs : 0 < s') (hl : ∀ q ∈ l, q = []) : Each (Enr false) (l.map fun _ => .nils) (l.map (eR s' ty' en)) := by
  refine ⟨by simp, fun i e e' h1 h2 => ?_⟩
  rw [List.getElem?_map, Option.map_eq_some_iff] at h1 h2
  obtain ⟨q, hq, rfl⟩ := h1
  obtain ⟨q', hq', rfl⟩ := h2
  rw [hq] at hq'; cases hq'
  have := hl q (List.mem_of_getElem? hq)
  subst this
  refine ⟨rfl, fun j c c' h1 h2 => ?_⟩
  rcases j with _ | j
  · simp only [cells, List.getElem?_cons_zero, Option.some.injEq] at h1 h2
    subst h1; subst h2
    exact .inr ⟨rfl, s', ty', hs, rfl⟩
  · simp [cells] at h1
/-- slices of its own are frozen -/
theorem has_frows (ho : lkO o g = some (v, ⟨false, var, s, ty, es⟩)) (he : Each Frr es es') (h : Has ⟨e, (g, some (v, ⟨false, var, s, ty, es'⟩)) :: o, n⟩ E O) (hrg : rich g = true := by rfl) : Has ⟨e, o, n⟩ E O := by
  have := Rw.frows (σ := ⟨e, o, n⟩) g v ⟨false, var, s, ty, es⟩ es' (by rw [go_lk]; exact ho) hrg rfl he
  exact has_rw this h
theorem frr_rows {s' ty' : Nat} {l : List (List α)} (en : α → D) (hp : ∀ q, plainE (en q) = true) : Each Frr (l.map (eR s' ty' en)) (l.map (eL en)) := by
  refine ⟨by simp, fun i e e' h1 h2 => ?_⟩
  rw [List.getElem?_map, Option.map_eq_some_iff] at h1 h2
  obtain ⟨q, hq, rfl⟩ := h1
  obtain ⟨q', hq', rfl⟩ := h2
  rw [hq] at hq'; cases hq'
  refine ⟨rfl, fun j c c' h1 h2 => ?_⟩
  rcases j with _ | j
  · simp only [cells, List.getElem?_cons_zero, Option.some.injEq] at h1 h2
    subst h1; subst h2
    exact .inr ⟨s', ty', _, rfl, fun e he => by
      obtain ⟨p, _, rfl⟩ := List.mem_map.1 he
      exact hp p, rfl⟩
  · simp [cells] at h1
/-- nil slices are empty ones -/
theorem has_nilsl (ho : lkO o g = some (v, ⟨false, false, s, ty, es⟩)) (he : es.map nrm = es') (h : Has ⟨e, (g, some (v, ⟨false, false, s, ty, es'⟩)) :: o, n⟩ E O) (hrg : rich g = false := by rfl) : Has ⟨e, o, n⟩ E O := by
  subst he
  have := Rw.nilsl (σ := ⟨e, o, n⟩) g v ⟨false, false, s, ty, es⟩ (by rw [go_lk]; exact ho) hrg rfl rfl
  exact has_rw this h
theorem nils_map {l : List (List α)} (en : α → D) (hl : ∀ q ∈ l, q = []) : (l.map fun _ => D.nils).map nrm = l.map (eL en) := by
  rw [List.map_map]
  refine List.map_congr_left fun q hq => ?_
  rw [hl q hq]
  rfl
/-- a variable that is not written any more -/
theorem has_fvar (ho : lkO o g = some (v, ⟨false, true, s, ty, [z]⟩)) (hc : (cells z).all isFro = true) (h : Has ⟨e.map (fun p => (p.1, frp g v z p.2)), (g, none) :: o.map (fun p => (p.1, frO g v z p.2)), n⟩ E O) : Has ⟨e, o, n⟩ E O := by
  have := Rw.fvar (σ := ⟨e, o, n⟩) g v ⟨false, true, s, ty, [z]⟩ z (by rw [go_lk]; exact ho) rfl rfl rfl hc
  exact has_rw this h
end
end Go.Dw
