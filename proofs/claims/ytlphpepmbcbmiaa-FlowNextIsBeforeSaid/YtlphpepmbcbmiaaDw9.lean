/-
  THE LAYER Dw, PART 9: stores; append.
-/
import Derived.Test.YtlphpepmbcbmiaaDw8
namespace Go.Dw

theorem splice_get (C : Array Value) (xs : List Value) (p : Nat) (h : p + xs.length ≤ C.size) (q : Nat) :
    (C.toList.take p ++ xs ++ C.toList.drop (p + xs.length)).toArray[q]? = if p ≤ q ∧ q < p + xs.length then xs[q - p]? else C[q]? := by
  have hp : (C.toList.take p).length = p := by simp; omega
  rw [List.getElem?_toArray, List.append_assoc]
  by_cases h1 : q < p
  · rw [if_neg (by omega), List.getElem?_append_left (by omega), List.getElem?_take]
    simp [h1]
  · rw [List.getElem?_append_right (by omega), hp]
    by_cases h2 : q < p + xs.length
    · rw [if_pos ⟨by omega, h2⟩, List.getElem?_append_left (by omega)]
    · rw [if_neg (by omega), List.getElem?_append_right (by omega), List.getElem?_drop]
      have : p + xs.length + (q - p - xs.length) = q := by omega
      rw [this]
      simp

section
variable {N : Nat} {w0 : World} {F0 : Fz} {M : Nat → Prop} {B0 : Bt} {σ : S} {F : Fz} {β : Bt} {a : Act} {w : World}

theorem cells_of_one {d : D} {v : Value} (h : Cel F β d v) (h1 : v.oneCell' = true) : cells d = [d] := by
  cases d <;> try rfl
  cases h
  cases h1

theorem cells_mem_one {d : D} {x : Value} (h : Val F β d x) (hk : known d = true) : ∀ c ∈ cells d, cells c = [c] := by
  intro c hc
  obtain ⟨_, _, h3⟩ := val_cells h hk
  obtain ⟨j, hj⟩ := List.mem_iff_getElem?.1 hc
  obtain ⟨v, _, h1, h2⟩ := h3 j c hj
  exact cells_of_one h2 h1

theorem cells_setE {e : D} {off : Nat} {new : List D} (hle : off + new.length ≤ (cells e).length) (h1 : ∀ c ∈ new, cells c = [c]) (hpos : 0 < new.length ∨ ∃ cs, e = .agg cs) :
    cells (setE e off new) = setAt (cells e) off new := by
  unfold setE
  cases e with
  | agg cs => rfl
  | _ =>
    simp only [cells, List.length_singleton] at hle ⊢
    rcases hpos with hpos | ⟨cs, h⟩
    · match new, h1, hle, hpos with
      | [d], h1, hle, _ =>
        simp only [List.length_singleton] at hle
        have : off = 0 := by omega
        subst this
        exact h1 d (by simp)
      | _ :: _ :: _, _, hle, _ => simp at hle; omega
    · cases h

/-- the object g is written; others go out of use -/
theorem Sim.write (h : Sim N w0 F0 M B0 σ F β a w) {g v b : Nat} {o : Own} {L : Loc} (hg : σ.go g = some (v, o)) (hfz : o.fz = false) (hL : β v = some L) (hb : L.b = some b) {c : Prop} {C C' : Array Value} (hC : w.heap[b]? = some (.cells C o.ty (0, 0)))
    {es' : List D} {ws : List (Nat × Obj?)} (hws : ∀ p ∈ ws, p.2 = none) (hown' : OwnOK F β (w.setRow b C') L { o with es := es' })
    (hrich : ∀ φ, RichOK F β w0.heap.size M σ w φ → ∃ φ', RichOK F β w0.heap.size M (σ.app ⟨c, [], (g, some (v, { o with es := es' })) :: ws⟩) (w.setRow b C') φ') :
    Sim N w0 F0 M B0 (σ.app ⟨c, [], (g, some (v, { o with es := es' })) :: ws⟩) F β a (w.setRow b C') := by
  obtain ⟨s1, s2, s3⟩ := h.sep g v o L b hg hfz hL hb
  have hgo : ∀ g' v' o', (σ.app ⟨c, [], (g, some (v, { o with es := es' })) :: ws⟩).go g' = some (v', o') → (g' = g ∧ v' = v ∧ o' = { o with es := es' }) ∨ (g' ≠ g ∧ σ.go g' = some (v', o')) := by
    intro g' v' o' hg'
    rw [S.go_app] at hg'
    simp only [look] at hg'
    split at hg'
    · rename_i q hq
      split at hq
      · rename_i e
        cases hq; cases hg'
        exact .inl ⟨e, rfl, rfl⟩
      · have := hws _ (look_mem hq)
        simp only at this
        subst this
        cases hg'
    · rename_i hq
      split at hq
      · cases hq
      · rename_i e; exact .inr ⟨e, hg'⟩
  have hsz : (w.setRow b C').heap.size = w.heap.size := by simp [World.setRow]
  refine h.change (row := fun x => x = b) rfl rfl rfl (by omega) (fun b' _ hne => setRow_other w b b' C' hne) ?_ (Fsub.refl _) (fun _ _ _ _ => rfl) ?_ ?_ (Bsub.refl _) h.size h.defers (fun t => h.env t) ?_ ?_ hrich
  · rintro b' rfl
    exact s3.imp id And.left
  · intro b' i x hx
    have hne : b' ≠ b := by rintro rfl; rw [s1 i] at hx; cases hx
    rw [World.cell?_of_block (w := w) (setRow_other w b b' C' hne)]
    exact h.frz b' i x hx
  · intro b' i x hx
    rw [hsz]; exact h.fin b' i x hx
  · intro g' v' o' hg'
    rcases hgo g' v' o' hg' with ⟨rfl, rfl, rfl⟩ | ⟨hne, hg'⟩
    · refine .inr ⟨L, hL, hfz, hown', fun b' hb' => ?_⟩
      rw [hb] at hb'; cases hb'
      exact ⟨s1, by rw [hsz]; exact s2, s3, .inl rfl⟩
    · refine .inl ⟨hg', fun L' b' hf hL' hb' => ?_⟩
      rintro rfl
      exact hne (h.dist g' g v' v o' o L' L b' hg' hg hf hfz hL' hL hb' hb)
  · intro g1 g2 v1 v2 o1 o2 L1 L2 b' hg1 hg2 hf1 hf2 hL1 hL2 hb1 hb2 _
    have key : ∀ g' v' o', (σ.app ⟨c, [], (g, some (v, { o with es := es' })) :: ws⟩).go g' = some (v', o') → ∃ o'', σ.go g' = some (v', o'') ∧ o''.fz = o'.fz := by
      intro g' v' o' hg'
      rcases hgo g' v' o' hg' with ⟨rfl, rfl, rfl⟩ | ⟨_, hg'⟩
      · exact ⟨o, hg, rfl⟩
      · exact ⟨o', hg', rfl⟩
    obtain ⟨p1, q1, r1⟩ := key _ _ _ hg1
    obtain ⟨p2, q2, r2⟩ := key _ _ _ hg2
    exact h.dist g1 g2 v1 v2 p1 p2 L1 L2 b' q1 q2 (r1.trans hf1) (r2.trans hf2) hL1 hL2 hb1 hb2

/-- a store through a pointer to an own object: the cells 'cs' stand for the value's -/
theorem store_gen {P : Program} (h : Sim N w0 F0 M B0 σ F β a w) {g v i off n : Nat} {o : Own} (hg : σ.go g = some (v, o)) (hfz : o.fz = false) (hi : i < o.es.length) {cs : List D} {x px : Value}
    (hpx : Val F β (.optr g v i off) px) (hxn : x.cells.size = n) (hx2 : ∀ y ∈ x.cells, y.oneCell' = true) (hn : cs.length = n) (hone : ∀ c ∈ cs, cells c = [c])
    (hx : ∀ (j : Nat) c, cs[j]? = some c → ∃ y, x.cells[j]? = some y ∧ y.oneCell' = true ∧ (if o.var then Cel F β c y else Fro F c y))
    (hle : off + n ≤ (cells (o.es.getD i .top)).length) (t : TypeId) (hti : P.info? t ≠ none) (htn : n = P.cellsOf t) (hnpos : 0 < n) (c : Prop) {ws : List (Nat × Obj?)} (hws : ∀ p ∈ ws, p.2 = none)
    (hrich : ∀ φ L b C C', RichOK F β w0.heap.size M σ w φ → β v = some L → L.b = some b → L.s = o.s → w.heap[b]? = some (.cells C o.ty (0, 0)) → C'.size = C.size →
      (∀ j, j < n → C'[i * o.s + off + j]? = x.cells[j]?) → (∀ q, (q < i * o.s + off ∨ i * o.s + off + n ≤ q) → C'[q]? = C[q]?) →
      ∃ φ', RichOK F β w0.heap.size M (σ.app ⟨c, [], (g, some (v, { o with es := o.es.set i (setE (o.es.getD i .top) off cs) })) :: ws⟩) (w.setRow b C') φ') :
    ∃ w', (Instr.storeAt t px x).run P w = .ok () w' ∧ Sim N w0 F0 M B0 (σ.app ⟨c, [], (g, some (v, { o with es := o.es.set i (setE (o.es.getD i .top) off cs) })) :: ws⟩) F β a w' := by
  obtain ⟨ti, hti⟩ := Option.ne_none_iff_exists'.1 hti
  have hsz : P.cellsOf t = ti.size := by simp [Program.cellsOf, hti]
  obtain ⟨L, b, hL, hb, rfl⟩ := hpx
  obtain ⟨L', hL', _, hkk⟩ := h.own g v o hg
  rw [hL] at hL'; cases hL'
  have hok := hkk hfz
  obtain ⟨e1, e2, e3, e4, e5, e6⟩ := hok
  rw [hb] at e6
  obtain ⟨C, hC, hCs, hcell⟩ := e6
  have hget : o.es[i]? = some (o.es.getD i .top) := by simp [hi]
  have hlen := e5 _ (List.mem_of_getElem? hget)
  have hxn : x.cells.toList.length = n := by rw [Array.length_toList, hxn]
  have hfit : i * o.s + off + n ≤ C.size := by
    rw [hCs]
    have : (i + 1) * o.s ≤ L.cap * o.s := Nat.mul_le_mul_right _ (by omega)
    rw [Nat.add_mul] at this
    omega
  have hrun := run_storeCells_at (P := P) b (i * L.s + off) o.ty x.cells.toList 0 C w hC (by rw [hxn, e1]; omega) (fun v hv => hx2 v (by simpa using hv))
  simp only [Nat.add_zero] at hrun
  obtain ⟨C', hC'⟩ : ∃ C', C' = (C.toList.take (i * L.s + off) ++ x.cells.toList ++ C.toList.drop (i * L.s + off + x.cells.toList.length)).toArray := ⟨_, rfl⟩
  obtain ⟨w', hw'⟩ : ∃ w', w' = w.setRow b C' := ⟨_, rfl⟩
  rw [← hC', ← hw'] at hrun
  have hsize : x.cells.size = ti.size := by rw [← hsz, ← htn, ← hxn, Array.length_toList]
  refine ⟨w', by simp [Instr.storeAt, Instr.sureAddr, storeVar, sizeOf, typeInfo, hti, hsize, hrun], ?_⟩
  subst hw'
  have hCz : C'.size = C.size := by
    subst hC'
    simp only [List.size_toArray, List.length_append, List.length_take, List.length_drop, Array.length_toList] at hxn ⊢
    rw [hxn, e1]
    omega
  have hsp := fun q => splice_get C x.cells.toList (i * L.s + off) (by rw [hxn, e1]; exact hfit) q
  have hget' : ∀ q, C'[q]? = if i * L.s + off ≤ q ∧ q < i * L.s + off + x.cells.toList.length then x.cells.toList[q - (i * L.s + off)]? else C[q]? := by
    intro q; subst hC'; exact hsp q
  refine h.write hg hfz hL hb hC hws ?_ fun φ hφ => hrich φ L b C C' hφ hL hb e1 hC hCz (fun j hj => ?_) fun q hq => ?_
  · have hsetE := cells_setE (e := o.es.getD i .top) (off := off) (new := cs) (by rw [hn]; exact hle) hone (.inl (by omega))
    obtain ⟨sa1, sa2⟩ := setAt_get cs (cells (o.es.getD i .top)) off
    refine ⟨e1, e2, by simpa using e3, e4, ?_, ?_⟩
    · intro e he
      rcases List.mem_or_eq_of_mem_set he with hm | hm
      · exact e5 e hm
      · subst hm; rw [hsetE, sa1]; exact hlen
    · rw [hb]
      refine ⟨_, setRow_heap w b C _ o.ty _ hC, by rw [hCz]; exact hCs, ?_⟩
      intro i' j e cc he hj
      simp only at he
      simp only
      rw [hget', hxn, e1]
      by_cases hii : i' = i
      · subst hii
        rw [List.getElem?_set_self hi] at he
        cases he
        rw [hsetE, sa2, hn] at hj
        by_cases hcond : off ≤ j ∧ j < off + n ∧ j < (cells (o.es.getD i' .top)).length
        · rw [if_pos hcond] at hj
          rw [if_pos ⟨by omega, by omega⟩]
          have e' : i' * o.s + j - (i' * o.s + off) = j - off := by omega
          rw [e']
          obtain ⟨y, y1, y2, y3⟩ := hx _ _ hj
          exact ⟨y, by simpa using y1, y2, y3⟩
        · rw [if_neg hcond] at hj
          have hjl : j < (cells (o.es.getD i' .top)).length := (List.getElem?_eq_some_iff.1 hj).1
          rw [if_neg (by omega)]
          exact hcell i' j _ cc hget hj
      · rw [List.getElem?_set_ne (fun e => hii e.symm)] at he
        have hjl : j < o.s := by rw [← e5 e (List.mem_of_getElem? he)]; exact (List.getElem?_eq_some_iff.1 hj).1
        rw [if_neg]
        · exact hcell i' j e cc he hj
        · rintro ⟨c1, c2⟩
          rcases Nat.lt_or_gt_of_ne hii with hlt | hgt
          · have : (i' + 1) * o.s ≤ i * o.s := Nat.mul_le_mul_right _ hlt
            rw [Nat.add_mul] at this; omega
          · have : (i + 1) * o.s ≤ i' * o.s := Nat.mul_le_mul_right _ hgt
            rw [Nat.add_mul] at this; omega
  · rw [hget', hxn, e1, if_pos (by omega)]
    rw [show i * o.s + off + j - (i * o.s + off) = j by omega]
    simp
  · rw [hget', hxn, e1, if_neg (by omega)]

/-- a store through a pointer to an own object -/
theorem store_ok {P : Program} (h : Sim N w0 F0 M B0 σ F β a w) {g v i off n : Nat} {o : Own} (hg : σ.go g = some (v, o)) (hng : Dw.rich g = false) (hfz : o.fz = false) (hi : i < o.es.length) {d : D} {x px : Value}
    (hpx : Val F β (.optr g v i off) px) (hx : Val F β d x) (hfro : o.var = false → Fro F d x) (hk : known d = true) (hn : (cells d).length = n) (hle : off + n ≤ (cells (o.es.getD i .top)).length) (t : TypeId) (hti : P.info? t ≠ none) (htn : n = P.cellsOf t) (hnpos : 0 < n) (c : Prop) :
    ∃ w', (Instr.storeAt t px x).run P w = .ok () w' ∧ Sim N w0 F0 M B0 (σ.app ⟨c, [], [(g, some (v, { o with es := o.es.set i (setE (o.es.getD i .top) off (cells d)) }))]⟩) F β a w' := by
  obtain ⟨x1, x2, x3⟩ := val_cells hx hk
  refine store_gen h hg hfz hi hpx (by rw [x1, hn]) x2 hn (cells_mem_one hx hk) (fun j cc hj => ?_) hle t hti htn hnpos c (ws := []) (fun p hp => by cases hp) fun φ L b C C' hφ hL hb _ hC _ _ _ => ⟨φ, ?_⟩
  · obtain ⟨y, y1, y2, y3⟩ := x3 j cc hj
    refine ⟨y, y1, y2, ?_⟩
    split
    · exact y3
    · rename_i hv
      obtain ⟨_, _, f3⟩ := fro_cells (hfro (by simpa using hv)) hk
      obtain ⟨y', z1, z2, z3⟩ := f3 _ _ hj
      rw [y1] at z1; cases z1
      exact z3
  · have hgo : ∀ g', (σ.app ⟨c, [], [(g, some (v, { o with es := o.es.set i (setE (o.es.getD i .top) off (cells d)) }))]⟩).go g' = if g' = g then some (v, { o with es := o.es.set i (setE (o.es.getD i .top) off (cells d)) }) else σ.go g' := by
      intro g'
      have := S.go_new (c := c) (we := []) (t := g) (nv := v) (o := { o with es := o.es.set i (setE (o.es.getD i .top) off (cells d)) }) σ g'
      exact this
    have hsz : (w.setRow b C').heap.size = w.heap.size := by simp [World.setRow]
    have hbφ : ∀ g i j b', φ g i j b' → b' ≠ b := by
      rintro g1 i1 j1 b' h1 rfl
      exact hφ.sep g1 i1 j1 b' g v o L h1 hg hfz hL hb
    refine hφ.keep (Fsub.refl _) (Bsub.refl _) (by omega) (fun _ _ _ _ _ _ => rfl) (fun g1 i1 j1 b' h1 => setRow_other w b b' C' (hbφ g1 i1 j1 b' h1)) (fun g1 v1 o1 h1 => ?_) (fun g1 v1 o1 hr h1 hf => ?_) (fun g1 i1 j1 b' g2 v2 o2 L2 h1 h2 hf hL2 => ?_)
    · obtain ⟨L1, hL1, _⟩ := h.own g1 v1 o1 h1
      exact ⟨L1, hL1⟩
    · rw [hgo] at h1
      split at h1
      · rename_i e; subst e; rw [hng] at hr; cases hr
      · rename_i hne
        refine .inl ⟨o1, h1, hf, rfl, rfl, fun i' j' e' c' he hj _ => ⟨⟨e', he, hj⟩, fun L1 b1 C1 x1 hL1 hb1 hC1 hx1 => ⟨C1, ?_, hx1⟩⟩⟩
        have : b1 ≠ b := by
          rintro rfl
          exact hne (h.dist g1 g v1 v o1 o L1 L b1 h1 hg hf hfz hL1 hL hb1 hb)
        rw [setRow_other w b b1 C' this] at hC1
        exact hC1
    · rw [hgo] at h2
      split at h2
      · rename_i e; subst e; cases h2
        exact hφ.sep g1 i1 j1 b' g2 v o L2 h1 hg hfz hL2
      · exact hφ.sep g1 i1 j1 b' g2 v2 o2 L2 h1 h2 hf hL2

/-- what a slice holds -/
theorem view_ok (h : Sim N w0 F0 M B0 σ F β a w) {d : D} {x : Value} (hx : Val F β d x) (hc : ((view d).run σ).1) {s : Nat} (hs : ∀ e ∈ ((view d).run σ).2, (cells e).length = s) :
    ∃ A cap, x = .slice A ((view d).run σ).2.length cap ∧ (0 < ((view d).run σ).2.length → ∃ b o, A = some ⟨b, o, none⟩ ∧
      ∀ (i j : Nat) e c, ((view d).run σ).2[i]? = some e → (cells e)[j]? = some c → ∃ y, w.cell? ⟨b, o + (i * s + j), none⟩ = some y ∧ y.oneCell' = true ∧ Fro F c y) := by
  cases d <;> try exact hc.elim
  case sl es =>
    simp only [view, R.run] at hs ⊢
    cases hx with
    | sl0 A cap => exact ⟨A, cap, rfl, fun h => absurd h (by simp)⟩
    | sl es b o c s' vf hc' hs' hF h1 hh =>
      refine ⟨_, c, rfl, fun hpos => ⟨b, o, rfl, fun i j e cc he hj => ?_⟩⟩
      have : s' = s := by
        have hm := List.getElem_mem (l := es) (n := 0) hpos
        rw [← hs _ hm, hs' _ hm]
      subst this
      exact ⟨vf i j, by rw [← Nat.add_assoc]; exact h.frz _ _ _ (hF i j e cc he hj), h1 i j e cc he hj, hh i j e cc he hj⟩
  case nils =>
    cases hx
    exact ⟨none, 0, rfl, fun h => absurd h (by simp [view, R.run])⟩
  case osl g v i0 n =>
    simp only [view, R.run] at hc hs ⊢
    cases hg : σ.go g with
    | none => rw [hg] at hc; exact hc.elim
    | some p =>
      obtain ⟨v', o⟩ := p
      rw [hg] at hc hs
      simp only [R.run] at hc hs ⊢
      obtain ⟨rfl, hvar, hin⟩ := hc
      obtain ⟨L, A, hL, rfl, hcap, _, hpos⟩ := hx
      have hlen : ((o.es.drop i0).take n).length = n := by simp; omega
      refine ⟨A, L.cap - i0, by rw [hlen], fun hp => ?_⟩
      rw [hlen] at hp
      obtain ⟨b, hb, rfl⟩ := hpos hp
      obtain ⟨L', hL', hz, hk⟩ := h.own g v o hg
      rw [hL] at hL'; cases hL'
      have hidx : ∀ (k : Nat) e, ((o.es.drop i0).take n)[k]? = some e → o.es[i0 + k]? = some e := by
        intro k e he
        rw [List.getElem?_take] at he
        split at he
        · rwa [List.getElem?_drop] at he
        · cases he
      have hos : o.s = s := by
        have hm : ((o.es.drop i0).take n)[0]? = some (((o.es.drop i0).take n)[0]'(by omega)) := List.getElem?_eq_getElem (by omega)
        rw [← hs _ (List.mem_of_getElem? hm)]
        have hm' := List.mem_of_getElem? (hidx 0 _ hm)
        cases hfz : o.fz with
        | true => exact ((hz hfz).2.2.2.2.1 _ hm').symm
        | false => exact ((hk hfz).2.2.2.2.1 _ hm').symm
      refine ⟨b, i0 * L.s, rfl, fun i j e cc he hj => ?_⟩
      have hLs : L.s = o.s := by
        cases hfz : o.fz with
        | true => exact (hz hfz).2.1
        | false => exact (hk hfz).1
      have e' : i0 * L.s + (i * s + j) = (i0 + i) * o.s + j := by rw [hLs, hos, Nat.add_mul]; omega
      rw [e']
      cases hfz : o.fz with
      | true =>
        obtain ⟨_, _, _, _, _, h5⟩ := hz hfz
        rw [hb] at h5
        obtain ⟨y, y1, y2, y3⟩ := h5 _ j e cc (hidx i e he) hj
        exact ⟨y, h.frz _ _ _ y1, y2, y3⟩
      | false =>
        obtain ⟨_, _, _, _, _, h6⟩ := hk hfz
        rw [hb] at h6
        obtain ⟨C, hC, _, hcell⟩ := h6
        obtain ⟨y, y1, y2, y3⟩ := hcell _ j e cc (hidx i e he) hj
        rw [hvar] at y3
        exact ⟨y, by simp [World.cell?, hC, y1], y2, y3⟩

/-- the cells of what is appended, as a list -/
theorem news_ok {es : List D} {s b o : Nat} (hs : ∀ e ∈ es, (cells e).length = s) (hc : ∀ (i j : Nat) e c, es[i]? = some e → (cells e)[j]? = some c → ∃ y, w.cell? ⟨b, o + (i * s + j), none⟩ = some y ∧ y.oneCell' = true ∧ Fro F c y) :
    ∃ news : List Value, news.length = es.length * s ∧ (∀ j u, news[j]? = some u → w.cell? ((⟨b, o, none⟩ : Addr).add j) = some u) ∧ (∀ u ∈ news, u.oneCell' = true) ∧
      ∀ (i j : Nat) e c, es[i]? = some e → (cells e)[j]? = some c → ∃ y, news[i * s + j]? = some y ∧ y.oneCell' = true ∧ Fro F c y := by
  let f : Nat → Value := fun q => (w.cell? ⟨b, o + q, none⟩).getD undef
  have key : ∀ q, q < es.length * s → ∃ i j e c, es[i]? = some e ∧ (cells e)[j]? = some c ∧ q = i * s + j := by
    intro q hq
    have hs0 : 0 < s := by
      rcases Nat.eq_zero_or_pos s with h0 | h0
      · subst h0; simp at hq
      · exact h0
    have hi : q / s < es.length := Nat.div_lt_of_lt_mul (by rw [Nat.mul_comm]; exact hq)
    have hj : q % s < s := Nat.mod_lt _ hs0
    have hget : es[q / s]? = some es[q / s] := List.getElem?_eq_getElem hi
    have hl := hs _ (List.getElem_mem hi)
    exact ⟨q / s, q % s, _, (cells es[q / s])[q % s]'(by omega), hget, List.getElem?_eq_getElem (by omega), by rw [Nat.mul_comm]; exact (Nat.div_add_mod q s).symm⟩
  refine ⟨(List.range (es.length * s)).map f, by simp, ?_, ?_, ?_⟩
  · intro j u hu
    simp only [List.getElem?_map, Option.map_eq_some_iff] at hu
    obtain ⟨q, hq, rfl⟩ := hu
    have hlt : j < es.length * s := by
      have := (List.getElem?_eq_some_iff.1 hq).1
      simpa using this
    rw [List.getElem?_range hlt] at hq
    cases hq
    obtain ⟨i, j', e, c, h1, h2, h3⟩ := key j hlt
    obtain ⟨y, y1, _, _⟩ := hc i j' e c h1 h2
    rw [add_none, h3, y1]
    show _ = some ((w.cell? ⟨b, o + (i * s + j'), none⟩).getD undef)
    rw [y1]; rfl
  · intro u hu
    simp only [List.mem_map, List.mem_range] at hu
    obtain ⟨q, hq, rfl⟩ := hu
    obtain ⟨i, j', e, c, h1, h2, h3⟩ := key q hq
    obtain ⟨y, y1, y2, _⟩ := hc i j' e c h1 h2
    show ((w.cell? ⟨b, o + q, none⟩).getD undef).oneCell' = true
    rw [h3, y1]; exact y2
  · intro i j e c he hj
    obtain ⟨y, y1, y2, y3⟩ := hc i j e c he hj
    refine ⟨y, ?_, y2, y3⟩
    have hlt : i * s + j < es.length * s := by
      have hil := (List.getElem?_eq_some_iff.1 he).1
      have hjl := (List.getElem?_eq_some_iff.1 hj).1
      rw [hs e (List.mem_of_getElem? he)] at hjl
      have : (i + 1) * s ≤ es.length * s := Nat.mul_le_mul_right _ hil
      rw [Nat.add_mul] at this; omega
    rw [List.getElem?_map, List.getElem?_range hlt]
    show some ((w.cell? ⟨b, o + (i * s + j), none⟩).getD undef) = some y
    rw [y1]; rfl

theorem run_append_nothing {P : Program} (w : World) (base : Nat) (t ty e : TypeId) (i : TypeInfo) (size : Nat) (ht : P.underlying t = some (.slice e)) (hi : P.info? e = some i)
    (v : Value) (n : Nat) (xs : List Value) (hown : w.ownsRow base e size v n xs) (c : Nat) : (Builtin.append_ #[t, t] ty #[v, .slice none 0 c]).run P w = .ok v w := by
  rcases hown.2 with ⟨rfl, rfl⟩ | ⟨g, cap, cur, rfl, _, _, hnc, _⟩
  · simp [Builtin.append_, run_underlying ht, sizeOf, typeInfo, hi, Builtin.lenOf, Builtin.firstCells]
  · simp [Builtin.append_, run_underlying ht, sizeOf, typeInfo, hi, Builtin.lenOf, Builtin.firstCells, hnc, storeCells]

end
end Go.Dw
