/-
  THE LAYER Dw, PART 15: every operation does what 'evalOp' says: all of them.
-/
import Derived.Test.YtlphpepmbcbmiaaDwr
namespace Go.Dw

section
variable {N : Nat} {w0 : World} {F0 : Fz} {M : Nat → Prop} {B0 : Bt} {σ : S} {F : Fz} {β : Bt} {a : Act} {w : World} {P : Program}

theorem aggT_spec {t : TypeId} (hi : P.cellsOf t ≠ 0 ∨ aggT P t = true) : True := trivial

theorem info_of_under {t : TypeId} {d : TypeDesc} (h : P.underlying t = some d) : P.info? t ≠ none := by
  unfold Program.underlying at h
  intro e
  rw [e] at h
  cases h

theorem info_of_cells {t : TypeId} (h : 0 < P.cellsOf t) : P.info? t ≠ none := by
  intro e
  simp [Program.cellsOf, e] at h

theorem under_of_agg {t : TypeId} (h : aggT P t = true) : (P.underlying t).isSome = true := by
  unfold aggT at h
  cases hu : P.underlying t with
  | none => rw [hu] at h; cases h
  | some d => rfl

theorem snd_new {Γ : Specs} (h : Sim N w0 F0 M B0 σ F β a w) {nv : Nat} (hnv : β nv = none) {o : Oper} {t : Nat} (hdst : o.dst = some t) (ht : t < N) (htr : rich t = false) {e : TypeId} (ho : o.op = .alloc e) {z : D} (hz : zeroD P e = some z) (hs : 0 < P.cellsOf e) :
    Snd P N w0 F0 M B0 σ β a w o nv ((evalOp Γ nv o.dst (.new z (P.cellsOf e) e)).run σ) := by
  obtain ⟨i, zv, hi, hzv, hone, hsz, rfl⟩ := zeroD_ok hz
  obtain ⟨c1, c2, c3⟩ := cells_valD (F := F) zv hone
  intro K Q hK
  have hrun : (execOp a.eval o).run P w = .ok (.value (.pointer (some ⟨w.heap.size, 0, none⟩))) (w.alloc (.cells zv.cells e)) := by
    unfold execOp; rw [ho]
    simp [Instr.alloc, zeroValue, typeInfo, hi, hzv, newVar, newRow]
  unfold Oper.wp
  rw [hrun]
  simp only [evalOp, R.run, Oper.upon, hdst, Option.getD_some] at hK ⊢
  refine hK _ _ _ _ (h.alloc (nv := nv) (t := t) (tt := t) hnv ht (C := zv.cells) (o := ⟨false, true, P.cellsOf e, e, [valD zv]⟩) (cap := 1) (d := .optr t nv 0 0) (v := .pointer (some ⟨w.heap.size, 0, none⟩)) (w1 := w) rfl rfl rfl rfl rfl (fun hr => by rw [htr] at hr; cases hr) ?_ ?_) (upB_sub _ hnv) (fun v hv => upB_ne _ _ hv)
  · exact OwnOK.var_new (w1 := w) hs hsz (by rw [c1, hsz]) (fun j c hj => by
      obtain ⟨x, x1, x2, x3⟩ := c3 j c hj
      exact ⟨x, x1, x2, Cel.of_fro x3⟩)
  · exact ⟨_, w.heap.size, upB_self _ _ _, rfl, by simp⟩

theorem snd_box {Γ : Specs} (h : Sim N w0 F0 M B0 σ F β a w) {nv : Nat} (hnv : β nv = none) {o : Oper} {t : Nat} (hdst : o.dst = some t) (ht : t < N) (htr : rich t = false) {e : TypeId} {x : Operand} (ho : o.op = .box e x) {y : Arg} (hy : cArg x = some y) (hs : 0 < P.cellsOf e)
    (hc : ((evalOp Γ nv o.dst (.box y (P.cellsOf e) e)).run σ).c) : Snd P N w0 F0 M B0 σ β a w o nv ((evalOp Γ nv o.dst (.box y (P.cellsOf e) e)).run σ) := by
  have hv := fun hp => rdA_ok h hy hp
  simp only [evalOp, R.run_bind, R.run_pure, hdst, Option.getD_some] at hc ⊢
  generalize ((rdA y).run σ).2 = d at *
  generalize ((rdA y).run σ).1 = p at *
  obtain ⟨hp, hk, hl⟩ := hc
  have hvx := hv hp
  obtain ⟨x1, x2, x3⟩ := val_cells hvx hk
  intro K Q hK
  have hrun : (execOp a.eval o).run P w = .ok (.value (.pointer (some ⟨w.heap.size, 0, none⟩))) (w.alloc (.cells (a.eval x).cells e)) := by
    unfold execOp; rw [ho]
    simp [Instr.box, newVar, newRow]
  unfold Oper.wp
  rw [hrun]
  simp only [Oper.upon, hdst] at hK ⊢
  refine hK _ _ _ _ (h.alloc (nv := nv) (t := t) (tt := t) hnv ht (C := (a.eval x).cells) (o := ⟨false, true, P.cellsOf e, e, [d]⟩) (cap := 1) (d := .optr t nv 0 0) (v := .pointer (some ⟨w.heap.size, 0, none⟩)) (w1 := w) rfl rfl rfl rfl rfl (fun hr => by rw [htr] at hr; cases hr) ?_ ?_) (upB_sub _ hnv) (fun v hv => upB_ne _ _ hv)
  · exact OwnOK.var_new (w1 := w) hs (by rw [x1, hl]) hl (fun j c hj => by
      obtain ⟨v, v1, v2, v3⟩ := x3 j c hj
      exact ⟨v, by simpa using v1, v2, v3.mono (Fsub.refl _) (upB_sub _ hnv)⟩)
  · exact ⟨_, w.heap.size, upB_self _ _ _, rfl, by simp⟩

theorem snd_mkS {Γ : Specs} (h : Sim N w0 F0 M B0 σ F β a w) {nv : Nat} (hnv : β nv = none) {o : Oper} {t : Nat} (hdst : o.dst = some t) (ht : t < N) (htr : rich t = false) {tt e : TypeId} {xl xc : Operand} (ho : o.op = .makeSlice tt xl xc) (hu : P.underlying tt = some (.slice e)) {z : D} (hz : zeroD P e = some z) (hs : 0 < P.cellsOf e)
    {yl yc : Arg} (hyl : cArg xl = some yl) (hyc : cArg xc = some yc)
    (hc : ((evalOp Γ nv o.dst (.mkS (P.cellsOf e) e (P.bytesOf e) (rawN z) yl yc)).run σ).c) : Snd P N w0 F0 M B0 σ β a w o nv ((evalOp Γ nv o.dst (.mkS (P.cellsOf e) e (P.bytesOf e) (rawN z) yl yc)).run σ) := by
  obtain ⟨i, zv, hi, hzv, hone, hsz, rfl⟩ := zeroD_ok hz
  have hraw : rawN (valD zv) = valD zv ∨ rawN (valD zv) = nrm (valD zv) := by cases valD zv <;> simp [rawN]
  have hbi : P.bytesOf e = i.bytes := by simp [Program.bytesOf, hi]
  have hsi : P.cellsOf e = i.size := by simp [Program.cellsOf, hi]
  have hvl := fun hp => rdA_ok h hyl hp
  have hvc := fun hp => rdA_ok h hyc hp
  simp only [evalOp, R.run_bind, hdst, Option.getD_some] at hc ⊢
  generalize ((rdA yl).run σ).2 = dl at *
  generalize ((rdA yl).run σ).1 = pl at *
  generalize ((rdA yc).run σ).2 = dc at *
  generalize ((rdA yc).run σ).1 = pc at *
  split at hc
  · rename_i kl l kc c
    simp only [R.run_pure] at hc ⊢
    obtain ⟨h1, h2, h3, h4, h5, h6⟩ := hc
    have e1 := val_int (hvl h1)
    have e2 := val_int (hvc h2)
    have hbytes : (i.bytes : Int) * c ≤ 281474976710656 := by
      have : i.bytes * c.toNat ≤ 65536 * 16777216 := Nat.mul_le_mul (by rw [← hbi]; exact h6) (by omega)
      have h' : ((i.bytes * c.toNat : Nat) : Int) ≤ 1099511627776 := by omega
      rw [Int.natCast_mul] at h'
      have : (c.toNat : Int) = c := by omega
      rw [this] at h'
      omega
    have hmk := run_make (P := P) w tt e i zv hu hi hzv kl kc l c h3 h4 hbytes (by omega)
    intro K Q hK
    have hrun : (execOp a.eval o).run P w = .ok (.value (.slice (some ⟨w.heap.size, 0, none⟩) l.toNat c.toNat)) (w.alloc (.cells (madeCells zv.cells (c.toNat * i.size)) e)) := by
      unfold execOp; rw [ho]
      simp [e1, e2, hmk]
    unfold Oper.wp
    rw [hrun]
    simp only [Oper.upon, hdst] at hK ⊢
    refine hK _ _ _ _ (h.alloc (nv := nv) (t := t) (tt := t) hnv ht (C := madeCells zv.cells (c.toNat * i.size)) (o := ⟨false, false, P.cellsOf e, e, List.replicate l.toNat (rawN (valD zv))⟩) (cap := c.toNat) (d := .osl t nv 0 l.toNat) (v := .slice (some ⟨w.heap.size, 0, none⟩) l.toNat c.toNat) (w1 := w) rfl rfl rfl rfl rfl (fun hr => by rw [htr] at hr; cases hr) ?_ ?_) (upB_sub _ hnv) (fun v hv => upB_ne _ _ hv)
    · refine OwnOK.row_new (w1 := w) hs (by rw [size_madeCells, hsi]) (by simp; omega) (by simp only [maxLen]; omega) (fun q hq => ?_) ?_
      · rw [List.mem_replicate] at hq
        rcases hraw with e | e
        · rw [hq.2, e, (cells_valD (F := F) zv hone).1, hsz]
        · rw [hq.2, e, cells_valD_nrm hone, hsz]
      · rcases hraw with e | e
        · rw [e]; exact zeros_ok hone hsz hs (by rw [hsi]; exact Nat.mul_le_mul_right _ (by omega))
        · rw [e]; exact zeros_ok' hone hsz hs (by rw [hsi]; exact Nat.mul_le_mul_right _ (by omega))
    · exact ⟨_, _, upB_self _ _ _, rfl, by simp; omega, fun _ => rfl, fun _ => ⟨_, rfl, by simp⟩⟩
  · exact hc.elim

theorem snd_bldS {Γ : Specs} (h : Sim N w0 F0 M B0 σ F β a w) {nv : Nat} (hnv : β nv = none) {o : Oper} {t : Nat} (hdst : o.dst = some t) (ht : t < N) (htr : rich t = false) {tt e : TypeId} {len : Nat} {parts : Array (Nat × Operand)} (ho : o.op = .buildSlice tt len parts) (hu : P.underlying tt = some (.slice e)) {z : D} (hz : zeroD P e = some z) (hs : 0 < P.cellsOf e) (hlen : len * P.cellsOf e ≤ 16777216)
    {ps : List (Nat × Arg)} (hps : cElems parts.toList = some ps)
    (hc : ((evalOp Γ nv o.dst (.bldS (P.cellsOf e) e (nrm z) len ps)).run σ).c) : Snd P N w0 F0 M B0 σ β a w o nv ((evalOp Γ nv o.dst (.bldS (P.cellsOf e) e (nrm z) len ps)).run σ) := by
  obtain ⟨i, zv, hi, hzv, hone, hsz, rfl⟩ := zeroD_ok hz
  have hsi : P.cellsOf e = i.size := by simp [Program.cellsOf, hi]
  have hel := fun hc => rdElems_ok h parts.toList ps hps hc
  simp only [evalOp, R.run_bind, R.run_pure, hdst, Option.getD_some] at hc ⊢
  generalize ((rdElems ps).run σ).2.1 = rs at *
  generalize ((rdElems ps).run σ).2.2 = ws at *
  obtain ⟨h1, h2⟩ := hc
  obtain ⟨f1, l1, r1⟩ := hel h1
  obtain ⟨F1, hF1, hS1, _⟩ := h.freeze f1
  have hp := r1 ws F1 f1 (fun _ hp => hp) hF1 hS1
  obtain ⟨C', g1, g2, g3, g4, g5⟩ := fillS_ok (F := F1) hs (parts.toList.map fun p => (p.1, a.eval p.2)) rs (List.replicate len (nrm (valD zv))) (madeCells zv.cells (len * P.cellsOf e))
    (by simp [size_madeCells]) (fun q hq => by rw [List.mem_replicate] at hq; rw [hq.2, cells_valD_nrm hone, hsz]) (zeros_ok' hone hsz hs (Nat.le_refl _))
    (fun p hp => by have := h2 p hp; simpa using this) (by simp [l1]) hp
  rw [size_madeCells] at g2
  simp only [List.length_replicate] at g3
  intro K Q hK
  have hrun : (execOp a.eval o).run P w = .ok (.value (.slice (some ⟨w.heap.size, 0, none⟩) len len)) (w.alloc (.cells C' e)) := by
    unfold execOp; rw [ho]
    have hmap : (parts.map fun (i, x) => (i, a.eval x)).toList = parts.toList.map fun p => (p.1, a.eval p.2) := by simp
    by_cases h0 : len * i.size = 0
    · have hnot : ¬ 16777216 < len * i.size := by omega
      have hmade : madeCells zv.cells (len * P.cellsOf e) = #[] := by rw [hsi, h0]; simp [madeCells, Array.range_zero']
      rw [hmade, hsi] at g1
      have hpl : ∀ p ∈ rs, False := by
        intro p hp'
        have := (h2 p hp').2.2
        have : len = 0 := by
          rcases Nat.eq_zero_or_pos len with hl | hl
          · exact hl
          · have := Nat.mul_pos hl (by rw [← hsi]; exact hs : 0 < i.size)
            omega
        omega
      have hrs : rs = [] := List.eq_nil_iff_forall_not_mem.2 hpl
      have hparts : parts = #[] := by
        have : parts.toList.length = 0 := by rw [← l1, hrs]; rfl
        apply Array.eq_empty_of_size_eq_zero
        simpa using this
      subst hparts
      simp only [List.map_nil, Instr.fill, Option.some.injEq] at g1
      subst g1
      simp [Instr.buildSlice, run_underlying hu, sizeOf, typeInfo, hi, h0, Instr.fill, newRow, Array.range_zero']
    · have hb := run_buildSlice (P := P) w tt e len (parts.map fun (i, x) => (i, a.eval x)) C' i zv hu hi hzv (by rw [← hsi]; omega) h0 (by rw [hmap, ← hsi]; exact g1)
      simp only [Sem.run_bind, hb, Result.andThen_ok]
      rfl
  unfold Oper.wp
  rw [hrun]
  simp only [Oper.upon, hdst] at hK ⊢
  have hA := hS1.alloc (nv := nv) (t := t) (tt := t) hnv ht (c := ((rdElems ps).run σ).1 ∧ ∀ p ∈ rs, known p.2 = true ∧ (cells p.2).length = P.cellsOf e ∧ p.1 < len) (C := C') (o := ⟨false, false, P.cellsOf e, e, fillS (List.replicate len (nrm (valD zv))) rs⟩) (cap := len) (d := .osl t nv 0 len) (v := .slice (some ⟨w.heap.size, 0, none⟩) len len) (w1 := w) rfl rfl rfl rfl rfl (fun hr => by rw [htr] at hr; cases hr)
    (OwnOK.row_new (w1 := w) hs g2 (by rw [g3]; exact Nat.le_refl _) (by
      have : len ≤ len * P.cellsOf e := Nat.le_mul_of_pos_right _ hs
      simp only [maxLen]; omega) g4 g5) ⟨_, _, upB_self _ _ _, rfl, by simp, fun _ => rfl, fun _ => ⟨_, rfl, by simp⟩⟩
  refine hK _ _ F1 (upB β nv ⟨some w.heap.size, len, P.cellsOf e⟩) ?_ (upB_sub _ hnv) (fun v hv => upB_ne _ _ hv)
  have e' : (σ.app ⟨((rdElems ps).run σ).1 ∧ ∀ p ∈ rs, known p.2 = true ∧ (cells p.2).length = P.cellsOf e ∧ p.1 < len, put1 (some t) (.osl t nv 0 len), putO (some t) (some (nv, ⟨false, false, P.cellsOf e, e, fillS (List.replicate len (nrm (valD zv))) rs⟩)) ++ ws⟩) = (S.mk σ.e (ws ++ σ.o) σ.n).app ⟨((rdElems ps).run σ).1 ∧ ∀ p ∈ rs, known p.2 = true ∧ (cells p.2).length = P.cellsOf e ∧ p.1 < len, put1 (some t) (.osl t nv 0 len), putO (some t) (some (nv, ⟨false, false, P.cellsOf e, e, fillS (List.replicate len (nrm (valD zv))) rs⟩))⟩ := by
    simp [S.app]
  rw [e']
  exact hA

theorem snd_app {Γ : Specs} (h : Sim N w0 F0 M B0 σ F β a w) {nv : Nat} (hnv : β nv = none) {o : Oper} {t : Nat} (hdst : o.dst = some t) (ht : t < N) (htr : rich t = false) {tt e : TypeId} {x y : Operand} (ho : o.op = .call { callee := .builtin .append, args := #[x, y], argTypes := #[tt, tt] })
    (hu : P.underlying tt = some (.slice e)) {i : TypeInfo} (hi : P.info? e = some i) {z : D} (hz : zeroD P e = some z) (hs : 0 < P.cellsOf e) (hby : i.bytes ≤ 65536) {ax ay : Arg} (hx : cArg x = some ax) (hy : cArg y = some ay)
    (hc : ((evalOp Γ nv o.dst (.app (P.cellsOf e) e i.bytes ax ay)).run σ).c) : Snd P N w0 F0 M B0 σ β a w o nv ((evalOp Γ nv o.dst (.app (P.cellsOf e) e i.bytes ax ay)).run σ) := by
  obtain ⟨i', zv, hi', hzv, hone, hsz, rfl⟩ := zeroD_ok hz
  rw [hi] at hi'; cases hi'
  have hsi : P.cellsOf e = i.size := by simp [Program.cellsOf, hi]
  have hvx := fun hp => rdA_ok h hx hp
  have hvy := fun hp => rdA_ok h hy hp
  simp only [evalOp, source, R.run_bind, R.run_pure, hdst, Option.getD_some] at hc ⊢
  generalize ((rdA ax).run σ).2 = dx at *
  generalize ((rdA ax).run σ).1 = px at *
  generalize ((rdA ay).run σ).2 = dy at *
  generalize ((rdA ay).run σ).1 = py at *
  have hc' := hc
  obtain ⟨h1, h2, h3, h4, h5, h6, h7, h8⟩ := hc
  obtain ⟨v', w', β', r1, r2, r3, r4⟩ := append_ok (P := P) h hnv ht htr (hvx h1) (hvy h2) (ty := o.type) hu hi hzv hsi.symm hsz hs hby h3 h4 h5 h7 h8 (px = true ∧ py = true ∧ ((view dy).run σ).1 ∧ ((target (P.cellsOf e) e dx).run σ).1 ∧ ((target (P.cellsOf e) e dx).run σ).2.1.length + ((view dy).run σ).2.length ≤ 16777216 ∧ i.bytes ≤ 65536 ∧ (∀ q ∈ ((view dy).run σ).2, (cells q).length = P.cellsOf e) ∧ (((target (P.cellsOf e) e dx).run σ).2.2.2 = true → ∀ q ∈ ((target (P.cellsOf e) e dx).run σ).2.1 ++ ((view dy).run σ).2, plainE q = true))
  intro K Q hK
  have hrun : (execOp a.eval o).run P w = .ok (.value v') w' := by
    unfold execOp; rw [ho]
    simp [resolve, invoke, builtin, r1]
  unfold Oper.wp
  rw [hrun]
  simp only [Oper.upon, hdst] at hK ⊢
  exact hK _ _ _ _ r4 r2 r3

theorem snd_st {Γ : Specs} (h : Sim N w0 F0 M B0 σ F β a w) {nv : Nat} {o : Oper} (hdst : o.dst = none) {tt : TypeId} {xa xv : Operand} (ho : o.op = .store tt xa xv) {aa av : Arg} (ha : cArg xa = some aa) (hv : cArg xv = some av) (hs : 0 < P.cellsOf tt)
    (hc : ((evalOp Γ nv o.dst (.st (P.cellsOf tt) aa av)).run σ).c) : Snd P N w0 F0 M B0 σ β a w o nv ((evalOp Γ nv o.dst (.st (P.cellsOf tt) aa av)).run σ) := by
  have hti := info_of_cells hs
  have hva := fun hp => rdA_ok h ha hp
  have hvv := fun hp => rdA_ok h hv hp
  simp only [evalOp, R.run_bind] at hc ⊢
  generalize ((rdA aa).run σ).2 = da at *
  generalize ((rdA aa).run σ).1 = pa at *
  generalize ((rdA av).run σ).2 = d at *
  generalize ((rdA av).run σ).1 = pv at *
  cases da <;> try exact hc.elim
  case optr g v i off =>
    simp only [R.run] at hc ⊢
    cases hg : σ.go g with
    | none => rw [hg] at hc; exact hc.elim
    | some p =>
      obtain ⟨v', ow⟩ := p
      rw [hg] at hc
      simp only at hc ⊢
      have fin : ∀ {σ1 : S} {F1 : Fz} (hF1 : Fsub F F1) (_ : Sim N w0 F0 M B0 σ1 F1 β a w) (u : Out) (w' : World), (Instr.storeAt tt (a.eval xa) (a.eval xv)).run P w = .ok () w' → Sim N w0 F0 M B0 (σ.app u) F1 β a w' → Snd P N w0 F0 M B0 σ β a w o nv u := by
        intro σ1 F1 _ _ u w' hr hS K Q hK
        have hrun : (execOp a.eval o).run P w = .ok .skip w' := by
          unfold execOp; rw [ho]; simp [hr]
        unfold Oper.wp
        rw [hrun]
        simp only [Oper.upon]
        have : a.put o.dst undef = a := by rw [hdst]; rfl
        rw [this]
        exact hK _ _ _ _ hS (Bsub.refl _) (fun _ _ => rfl)
      by_cases hrg : rich g = true
      · rw [if_pos hrg] at hc ⊢
        simp only [R.run_bind, R.run_ret] at hc ⊢
        obtain ⟨h1, h2, h3, rfl, h4, h5, h6, h7, h8, h9⟩ := hc
        obtain ⟨w', r1, r2⟩ := store_rich (P := P) h hg hrg h4 h5 (hva h1) (hvv h2) h6 h3 h7 h8 h9 tt hti rfl hs True
        refine fin (Fsub.refl _) h _ w' r1 ?_
        exact r2
      rw [if_neg hrg] at hc ⊢
      have hng : rich g = false := by simpa using hrg
      by_cases hvar : ow.var = true
      · rw [if_pos hvar] at hc ⊢
        simp only [R.run] at hc ⊢
        obtain ⟨h1, h2, rfl, h4, h5, h6, h7, h8⟩ := hc
        obtain ⟨w', r1, r2⟩ := store_ok (P := P) h hg hng h4 h5 (hva h1) (hvv h2) (fun e => by rw [hvar] at e; cases e) h6 h7 h8 tt hti rfl hs (pa = true ∧ pv = true ∧ v = v ∧ ow.fz = false ∧ i < ow.es.length ∧ known d = true ∧ (cells d).length = P.cellsOf tt ∧ off + P.cellsOf tt ≤ (cells (ow.es.getD i .top)).length)
        exact fin (Fsub.refl _) h _ w' r1 r2
      · rw [if_neg hvar] at hc ⊢
        have hvar' : ow.var = false := by simpa using hvar
        simp only [R.run_bind, R.run_pure] at hc ⊢
        have hres := fun hx hc => res_ok h d (x := a.eval xv) hx hc
        generalize ((res d).run σ).2.1 = d' at *
        generalize ((res d).run σ).2.2 = ws at *
        obtain ⟨h1, h2, h3, rfl, h4, h5, h6, h7, h8, h9⟩ := hc
        obtain ⟨f1, r1⟩ := hres (hvv h2) h3
        obtain ⟨F1, hF1, hS1, _⟩ := h.freeze f1
        have hfro := r1 ws F1 f1 (fun _ hp => hp) hF1 hS1
        have hgo : (S.mk σ.e (ws ++ σ.o) σ.n).go g = some (v, ow) := by
          rcases f1.go g with ⟨v2, o2, _, _, k3, _⟩ | ⟨_, k2⟩
          · simp only [List.all_eq_true] at h9
            have := h9 _ k3
            simp at this
          · rw [k2]; exact hg
        obtain ⟨w', q1, q2⟩ := store_ok (P := P) hS1 hgo hng h4 h5 (d := d') (x := a.eval xv) ((hva h1).mono hF1 (Bsub.refl _)) (Val.of_fro hfro) (fun _ => hfro) h6 h7 h8 tt hti rfl hs True
        refine fin hF1 hS1 _ w' q1 ?_
        have e' : ∀ (c : Prop) (x : Nat × Obj?), (σ.app ⟨c, [], x :: ws⟩) = (S.mk σ.e (ws ++ σ.o) σ.n).app ⟨True, [], [x]⟩ := by
          intro c x; simp [S.app]
        rw [e']
        exact q2

/-- a load -/
theorem snd_ld {Γ : Specs} (h : Sim N w0 F0 M B0 σ F β a w) {nv : Nat} (hnv : β nv = none) {o : Oper} (hd : ∀ t, o.dst = some t → t < N) {t : TypeId} {x : Operand} (ho : o.op = .load t x) {n : Nat} {agg : Bool} {y : Arg} (hy : cArg x = some y)
    (h1 : aggT P t = agg) (h2 : (P.underlying t).isSome = true) (h3 : agg = true → P.info? t ≠ none ∧ n = P.cellsOf t) (h4 : agg = false → n = 1)
    (hc : ((evalOp Γ nv o.dst (.ld n agg y)).run σ).c) : Snd P N w0 F0 M B0 σ β a w o nv ((evalOp Γ nv o.dst (.ld n agg y)).run σ) := by
  have hv := fun hp => rdA_ok h hy hp
  simp only [evalOp, R.run_bind] at hc ⊢
  generalize ((rdA y).run σ).2 = d at *
  generalize ((rdA y).run σ).1 = p at *
  have old : ∀ (c : Prop), p = true → ((atPtr d).run σ).1 → ((atPtr d).run σ).2.2 + n ≤ (cells ((atPtr d).run σ).2.1).length → Snd P N w0 F0 M B0 σ β a w o nv ⟨c, put1 o.dst (partD (cells ((atPtr d).run σ).2.1) ((atPtr d).run σ).2.2 n agg), []⟩ := by
    intro c q1 q2 q3
    obtain ⟨v, r1, r2⟩ := load_ok (P := P) h (hv q1) q2 t n agg h1 h2 h3 h4 q3
    exact Snd.pure' h hd (v := v) (by unfold execOp; rw [ho]; simp [r1]) (Env.of_val r2)
  by_cases hptr : ∃ g v i off, d = .optr g v i off
  · obtain ⟨g, v, i, off, rfl⟩ := hptr
    simp only [R.run] at hc ⊢
    cases hg : σ.go g with
    | none => rw [hg] at hc; exact hc.2.1.elim
    | some q =>
      obtain ⟨v', ow⟩ := q
      rw [hg] at hc
      simp only at hc ⊢
      have old' : ∀ (c : Prop), p = true → (v = v' ∧ i < ow.es.length) → off + n ≤ (cells (ow.es.getD i .top)).length → Snd P N w0 F0 M B0 σ β a w o nv ⟨c, put1 o.dst (partD (cells (ow.es.getD i .top)) off n agg), []⟩ := by
        intro c q1 q2 q3
        have := old c q1 (by simp only [atPtr, R.run, hg]; exact q2) (by simp only [atPtr, R.run, hg]; exact q3)
        simpa only [atPtr, R.run, hg] using this
      split at hc
      · -- taken out
        rename_i s ty es hr hp
        simp only [R.run] at hc ⊢
        obtain ⟨q1, ⟨rfl, q2⟩, q3, q4, q5, rfl, rfl, q6⟩ := hc
        obtain ⟨t', ht'⟩ := Option.isSome_iff_exists.1 q5
        rw [ht'] at q6
        simp only [Option.getD_some] at q6
        have hrow : (cells (ow.es.getD i .top))[off]? = some (.row s ty es) := by
          have hlt : off < (cells (ow.es.getD i .top)).length := by omega
          simp only [partD, Bool.false_eq_true, if_false] at hp
          generalize cells (ow.es.getD i .top) = l at hp hlt ⊢
          rw [List.getD_eq_getElem?_getD, List.getElem?_eq_getElem hlt] at hp
          rw [List.getElem?_eq_getElem hlt]
          exact congrArg some hp
        obtain ⟨b, L, xv, e1, e2, e3⟩ := open_ok h hnv (hd t' ht') hg hr q4 q2 hrow q6 (hv q1) True
        intro K Q hK
        have hagg := run_isAgg (P := P) h2 w
        rw [h1] at hagg
        have hrun : (execOp a.eval o).run P w = .ok (.value xv) w := by
          unfold execOp; rw [ho]
          simp [Instr.loadAt, Instr.sureAddr, loadVar, hagg, e1, e2]
        unfold Oper.wp
        rw [hrun]
        simp only [Oper.upon, ht', Option.getD_some] at hK ⊢
        exact hK _ _ _ _ e3 (upB_sub _ hnv) (fun v hv => upB_ne _ _ hv)
      · simp only [R.run] at hc ⊢
        exact old' _ hc.1 hc.2.1 hc.2.2
  · cases d <;> first | exact (hptr ⟨_, _, _, _, rfl⟩).elim | (simp only [R.run_bind, R.run_pure] at hc ⊢; exact old _ hc.1 hc.2.1 hc.2.2)

end
end Go.Dw
