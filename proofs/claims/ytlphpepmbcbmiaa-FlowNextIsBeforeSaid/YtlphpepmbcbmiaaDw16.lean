/-
  THE LAYER Dw, PART 16: every operation does what 'evalOp' says: the theorem.
-/
import Derived.Test.YtlphpepmbcbmiaaDw15
namespace Go.Dw

section
variable {N : Nat} {w0 : World} {F0 : Fz} {M : Nat → Prop} {B0 : Bt} {σ : S} {F : Fz} {β : Bt} {a : Act} {w : World} {P : Program}

theorem int2_ok {f : Int → Int → Int} {d e : D} {x y : Value} (hx : Val F β d x) (hy : Val F β e y) (hc : (int2 f d e).1) : ∃ k m n, x = .int k m ∧ y = .int k n ∧ (int2 f d e).2 = .int k (f m n) := by
  cases d <;> try exact hc.elim
  cases e <;> try exact hc.elim
  rename_i k m k' n
  obtain rfl : k = k' := hc
  exact ⟨k, m, n, val_int hx, val_int hy, rfl⟩

theorem two_args (h : Sim N w0 F0 M B0 σ F β a w) {as : List Operand} {ys : List Arg} (hy : cArgs as = some ys) {x y : D} (hds : (rdAs ys).run σ = [x, y]) :
    ∃ p q, as = [p, q] ∧ Env F β x (a.eval p) ∧ Env F β y (a.eval q) := by
  obtain ⟨l, r⟩ := args_ok h hy
  rw [hds] at l r
  match as, l with
  | [p, q], _ => exact ⟨p, q, rfl, r 0 _ _ rfl rfl, r 1 _ _ rfl rfl⟩

theorem op_sound {Γ : Specs} (hΓ : ∀ k sp, Γ k = some sp → SpecOk P (k % 4096) sp) (h : Sim N w0 F0 M B0 σ F β a w) {o : Oper} {dop : DOp} (hop : cOp P o.type o.op = some dop) (hdst : dstOk N o.dst dop = true) {nv : Nat} (hnv : β nv = none)
    (hc : ((evalOp Γ nv o.dst dop).run σ).c) : Snd P N w0 F0 M B0 σ β a w o nv ((evalOp Γ nv o.dst dop).run σ) := by
  have hd := dst_lt hdst
  have hdr := dst_rich hdst
  cases ho : o.op with
  | move x =>
    simp only [ho, cOp, Option.bind_eq_bind, Option.bind_eq_some_iff] at hop
    obtain ⟨y, hy, he⟩ := hop; cases he
    simp only [evalOp, R.run_bind, R.run_pure]
    exact Snd.pure' h hd (by unfold execOp; rw [ho]; rfl) (arg_ok h hy)
  | assign x =>
    simp only [ho, cOp] at hop
    split at hop
    · rename_i e hu
      simp only [Option.bind_eq_bind, Option.bind_eq_some_iff] at hop
      obtain ⟨y, hy, he⟩ := hop; cases he
      obtain ⟨t, ht, htN⟩ := dst_some hdst (by simp) (by simp)
      refine snd_asg h hnv ht htN (hdr _ ht) ho hy (fun s ty e => ?_) hc
      split at e
      · rename_i hpos; cases e; exact hpos
      · cases e
    · simp only [Option.bind_eq_bind, Option.bind_eq_some_iff] at hop
      obtain ⟨y, hy, he⟩ := hop; cases he
      obtain ⟨t, ht, htN⟩ := dst_some hdst (by simp) (by simp)
      exact snd_asg h hnv ht htN (hdr _ ht) ho hy (fun s ty e => by cases e) hc
  | pick c x y =>
    simp only [ho, cOp, Option.bind_eq_bind, Option.bind_eq_some_iff] at hop
    obtain ⟨ac, hac, ax, hax, ay, hay, he⟩ := hop; cases he
    have h1 := fun hp => rdA_ok h hac hp
    have h2 := fun hp => rdA_ok h hax hp
    have h3 := fun hp => rdA_ok h hay hp
    simp only [evalOp, R.run_bind] at hc ⊢
    generalize ((rdA ac).run σ).2 = dc at *
    generalize ((rdA ac).run σ).1 = pc at *
    generalize ((rdA ax).run σ).2 = dx at *
    generalize ((rdA ax).run σ).1 = px at *
    generalize ((rdA ay).run σ).2 = dy at *
    generalize ((rdA ay).run σ).1 = py at *
    split at hc
    · rename_i bc bx by'
      simp only [R.run_pure] at hc ⊢
      obtain ⟨q1, q2, q3⟩ := hc
      have e1 := val_bool (h1 q1)
      cases bc with
      | true =>
        have e2 := val_bool (h2 (q2 rfl))
        refine Snd.pure' h hd (v := .bool bx) (by unfold execOp; rw [ho]; simp [e1, e2, asBool]) (Env.of_fro (by simpa using .bool bx))
      | false =>
        have e3 := val_bool (h3 (q3 rfl))
        refine Snd.pure' h hd (v := .bool by') (by unfold execOp; rw [ho]; simp [e1, e3, asBool]) (Env.of_fro (by simpa using .bool by'))
    · exact hc.elim
  | alloc e =>
    simp only [ho, cOp, Option.bind_eq_bind, Option.bind_eq_some_iff] at hop
    obtain ⟨z, hz, he⟩ := hop
    split at he
    · rename_i hs; cases he
      obtain ⟨t, ht, htN⟩ := dst_some hdst (by simp) (by simp)
      exact snd_new h hnv ht htN (hdr _ ht) ho hz hs
    · cases he
  | box e x =>
    simp only [ho, cOp] at hop
    split at hop
    · rename_i hs
      simp only [Option.bind_eq_bind, Option.bind_eq_some_iff] at hop
      obtain ⟨y, hy, he⟩ := hop; cases he
      obtain ⟨t, ht, htN⟩ := dst_some hdst (by simp) (by simp)
      exact snd_box h hnv ht htN (hdr _ ht) ho hy hs hc
    · cases hop
  | build t parts =>
    simp only [ho, cOp, Option.bind_eq_bind, Option.bind_eq_some_iff] at hop
    obtain ⟨z, hz, he⟩ := hop
    obtain ⟨i, zv, hi, hzv, hone, hsz, hzd⟩ := zeroD_ok hz
    obtain ⟨c1, c2, c3⟩ := cells_valD (F := F) zv hone
    have fin : ∀ (cs : List D) (places : Nat → Option (Nat × Nat)) (ps : List (Nat × Nat × Arg)), z = .agg cs → cParts places parts.toList = some ps → dop = .bld cs ps →
        (∀ C, Instr.fill places zv.cells (parts.toList.map fun p => (p.1, a.eval p.2)) = some C → (Instr.build t (parts.map fun (i, x) => (i, a.eval x))).run P w = .ok (.agg C) w) →
        Snd P N w0 F0 M B0 σ β a w o nv ((evalOp Γ nv o.dst dop).run σ) := by
      rintro cs places ps rfl hps rfl hrun
      obtain ⟨l, r⟩ := rdParts_ok h parts.toList ps hps
      simp only [evalOp, R.run_bind, R.run_pure] at hc ⊢
      generalize (rdParts ps).run σ = rs at *
      have hcs : cells (valD zv) = cs := by rw [← hzd]; rfl
      rw [hcs] at c1 c3
      have hval : ∀ (n : Nat) (rs : List (Nat × Nat × D)), fillOk n rs → ∀ p ∈ rs, known p.2.2 = true := by
        intro n rs
        induction rs with
        | nil => intro _ p hp; cases hp
        | cons q rs ih =>
          intro hf p hp
          obtain ⟨f1, _, _, f4⟩ := hf
          cases hp with
          | head => exact f1
          | tail _ hp => exact ih f4 p hp
      obtain ⟨C', f1, f2, f3, f4, f5⟩ := fill_ok (F := F) (β := β) (places := places) (parts.toList.map fun p => (p.1, a.eval p.2)) rs cs zv.cells c1 (fun j c hj => by
          obtain ⟨x, x1, x2, x3⟩ := c3 j c hj
          exact ⟨x, x1, x2, Cel.of_fro x3⟩) c2 hc (by simp [l]) (fun q i x off s d hq hd' => by
          obtain ⟨r1, r2⟩ := r q i x off s d hq hd'
          refine ⟨r1, ?_⟩
          have hk := hval _ rs hc _ (List.mem_of_getElem? hd')
          simp only at hk
          cases d <;> first | exact r2 | cases hk)
      refine Snd.pure' h hd (v := .agg C') (by unfold execOp; rw [ho]; simp [hrun C' f1]) ?_
      refine ⟨C'.toList, by simp, by simp [f3, f2, c1], fun v hv => f5 v (by simpa using hv), fun j c v hc' hv => ?_⟩
      obtain ⟨x, x1, x2, x3⟩ := f4 j c hc'
      simp only [Nat.zero_add] at x1
      rw [Array.getElem?_toList] at hv
      rw [hv] at x1; cases x1
      exact x3
    split at he
    · rename_i cs fs hu
      simp only [Option.bind_eq_some_iff] at he
      obtain ⟨ps, hps, he⟩ := he
      split at he
      · rename_i hall
        cases he
        refine fin _ _ ps rfl hps rfl (fun C hC => run_build w t _ C ?_)
        have hmap : (parts.map fun (i, x) => (i, a.eval x)).toList = parts.toList.map fun p => (p.1, a.eval p.2) := by simp
        have hplaces : fs.toList.mapM (fun f => (P.info? f.type).map fun i => (f.offset, i.size)) = some (fs.toList.map fun f => (f.offset, P.cellsOf f.type)) := by
          generalize fs.toList = l at hall
          induction l with
          | nil => rfl
          | cons f l ih =>
            simp only [List.all_cons, Bool.and_eq_true] at hall
            obtain ⟨i, hi⟩ := Option.isSome_iff_exists.1 hall.1
            simp [List.mapM_cons, hi, ih hall.2, Program.cellsOf]
        unfold Program.built
        rw [hi, hu]
        simp only [hzv, hplaces]
        rw [hmap, ← hC]
        congr 1
        funext i
        simp
      · cases he
    · rename_i cs n e hu
      simp only [Option.bind_eq_some_iff] at he
      obtain ⟨ps, hps, he⟩ := he
      split at he
      · rename_i hie
        cases he
        obtain ⟨ie, hie⟩ := Option.isSome_iff_exists.1 hie
        refine fin _ _ ps rfl hps rfl (fun C hC => run_build w t _ C ?_)
        have hmap : (parts.map fun (i, x) => (i, a.eval x)).toList = parts.toList.map fun p => (p.1, a.eval p.2) := by simp
        unfold Program.built
        rw [hi, hu]
        simp only [hzv, hie]
        rw [hmap, ← hC]
        simp [Program.cellsOf, hie]
      · cases he
    · cases he
  | buildSlice t len parts =>
    simp only [ho, cOp] at hop
    split at hop
    · rename_i e hu
      simp only [Option.bind_eq_bind, Option.bind_eq_some_iff] at hop
      obtain ⟨z, hz, ps, hps, he⟩ := hop
      split at he
      · rename_i hs
        cases he
        obtain ⟨t', ht, htN⟩ := dst_some hdst (by simp) (by simp)
        exact snd_bldS h hnv ht htN (hdr _ ht) ho hu hz hs.1 hs.2.2 hps hc
      · cases he
    · cases hop
  | load t x =>
    simp only [ho, cOp] at hop
    have key : ∀ (n : Nat) (agg : Bool) (y : Arg), cArg x = some y → dop = .ld n agg y → aggT P t = agg → (P.underlying t).isSome = true → (agg = true → P.info? t ≠ none ∧ n = P.cellsOf t) → (agg = false → n = 1) → Snd P N w0 F0 M B0 σ β a w o nv ((evalOp Γ nv o.dst dop).run σ) := by
      rintro n agg y hy rfl h1 h2 h3 h4
      exact snd_ld h hnv hd ho hy h1 h2 h3 h4 hc
    split at hop
    · rename_i hagg
      simp only [Option.bind_eq_bind, Option.bind_eq_some_iff] at hop
      obtain ⟨y, hy, he⟩ := hop; cases he
      have hu := under_of_agg hagg
      obtain ⟨td, htd⟩ := Option.isSome_iff_exists.1 hu
      exact key _ _ y hy rfl hagg hu (fun _ => ⟨info_of_under htd, rfl⟩) (fun e => by cases e)
    · rename_i hagg
      split at hop
      · rename_i hu
        simp only [Option.bind_eq_bind, Option.bind_eq_some_iff] at hop
        obtain ⟨y, hy, he⟩ := hop; cases he
        exact key _ _ y hy rfl (by simpa using hagg) hu (fun e => by cases e) (fun _ => rfl)
      · cases hop
  | store t x y =>
    simp only [ho, cOp] at hop
    split at hop
    · rename_i hs
      simp only [Option.bind_eq_bind, Option.bind_eq_some_iff] at hop
      obtain ⟨ax, hax, ay, hay, he⟩ := hop; cases he
      have hn : o.dst = none := by
        unfold dstOk at hdst
        cases hdd : o.dst with
        | none => rfl
        | some t => rw [hdd] at hdst; cases hdst
      exact snd_st h hn ho hax hay hs hc
    · cases hop
  | nilCheck x =>
    simp only [ho, cOp, Option.bind_eq_bind, Option.bind_eq_some_iff] at hop
    obtain ⟨y, hy, he⟩ := hop; cases he
    have hv := fun hp => rdA_ok h hy hp
    simp only [evalOp, R.run_bind] at hc ⊢
    generalize ((rdA y).run σ).2 = d at *
    generalize ((rdA y).run σ).1 = p at *
    cases d <;> try exact hc.elim
    case optr g v i off =>
      have hx := hv hc
      obtain ⟨L, b, h1, h2, h3⟩ := hx
      exact Snd.pure' h hd (v := a.eval x) (by unfold execOp; rw [ho]; simp [h3]) ⟨L, b, h1, h2, h3⟩
    case fptr e off =>
      have hx := hv hc
      have : ∃ b o, a.eval x = .pointer (some ⟨b, o, none⟩) := by
        generalize a.eval x = xx at hx
        cases hx with
        | fptr e b o off vf hF h1 hh => exact ⟨_, _, rfl⟩
      obtain ⟨b, o', hbo⟩ := this
      exact Snd.pure' h hd (v := a.eval x) (by unfold execOp; rw [ho]; simp [hbo]) hx
  | binOp op t x y t' =>
    have eqb : ∀ (neg : Bool) (ax ay : Arg), op = (if neg then .neq else .eql) → P.underlying t = some .bool → cArg x = some ax → cArg y = some ay → dop = .eqB neg ax ay → Snd P N w0 F0 M B0 σ β a w o nv ((evalOp Γ nv o.dst dop).run σ) := by
      rintro neg ax ay hneg hu hax hay rfl
      have h1 := fun hp => rdA_ok h hax hp
      have h2 := fun hp => rdA_ok h hay hp
      simp only [evalOp, R.run_bind] at hc ⊢
      generalize ((rdA ax).run σ).2 = dx at *
      generalize ((rdA ax).run σ).1 = px at *
      generalize ((rdA ay).run σ).2 = dy at *
      generalize ((rdA ay).run σ).1 = py at *
      split at hc
      · rename_i bx by'
        simp only [R.run_pure] at hc ⊢
        have e1 := val_bool (h1 hc.1)
        have e2 := val_bool (h2 hc.2)
        have e3 := eqB_ok (P := P) hu bx by' neg x y w
        rw [← hneg] at e3
        exact Snd.pure' h hd (v := .bool (if neg then !(bx == by') else (bx == by'))) (by unfold execOp; rw [ho]; simp only [Sem.run_bind, e1, e2] at e3 ⊢; simp [e3]) (Env.of_fro (.bool _))
      · exact hc.elim
    have eqa : ∀ (n : Nat) (neg : Bool) (ax ay : Arg), op = (if neg then .neq else .eql) → flatInt P t = some n → cArg x = some ax → cArg y = some ay → dop = .eqA n neg ax ay → Snd P N w0 F0 M B0 σ β a w o nv ((evalOp Γ nv o.dst dop).run σ) := by
      rintro n neg ax ay hneg hu hax hay rfl
      have h1 := fun hp => rdA_ok h hax hp
      have h2 := fun hp => rdA_ok h hay hp
      simp only [evalOp, R.run_bind] at hc ⊢
      generalize ((rdA ax).run σ).2 = dx at *
      generalize ((rdA ax).run σ).1 = px at *
      generalize ((rdA ay).run σ).2 = dy at *
      generalize ((rdA ay).run σ).1 = py at *
      split at hc
      · rename_i bx by'
        simp only [R.run_pure] at hc ⊢
        have e3 := eqA_ok (P := P) hu (h1 hc.1) (h2 hc.2.1) hc.2.2.1 hc.2.2.2 neg x y w
        rw [← hneg] at e3
        exact Snd.pure' h hd (v := .bool (if neg then !(eqL bx by').2 else (eqL bx by').2)) (by unfold execOp; rw [ho]; simp only [Sem.run_bind] at e3 ⊢; simp [e3]) (Env.of_fro (.bool _))
      · exact hc.elim
    have gen : (cArg x).bind (fun ax => (cArg y).bind fun ay => some (DOp.bin op ax ay)) = some dop → Snd P N w0 F0 M B0 σ β a w o nv ((evalOp Γ nv o.dst dop).run σ) := by
      intro hop
      simp only [Option.bind_eq_some_iff] at hop
      obtain ⟨ax, hax, ay, hay, he⟩ := hop; cases he
      have h1 := fun hp => rdA_ok h hax hp
      have h2 := fun hp => rdA_ok h hay hp
      simp only [evalOp, R.run_bind, R.run_pure, pure1] at hc ⊢
      obtain ⟨⟨q1, q2⟩, q3⟩ := hc
      obtain ⟨v, r1, r2⟩ := binD_ok (P := P) (h1 q1) (h2 q2) q3 t x y w
      exact Snd.pure' h hd (v := v) (by unfold execOp; rw [ho]; simp only [Sem.run_bind] at r1 ⊢; simp [r1]) (Env.of_val r2)
    simp only [ho, cOp] at hop
    split at hop
    · rename_i hu
      simp only [Option.bind_eq_bind, Option.bind_eq_some_iff] at hop
      obtain ⟨ax, hax, ay, hay, he⟩ := hop
      exact eqb false ax ay rfl hu hax hay (by cases he; rfl)
    · rename_i hu
      simp only [Option.bind_eq_bind, Option.bind_eq_some_iff] at hop
      obtain ⟨ax, hax, ay, hay, he⟩ := hop
      exact eqb true ax ay rfl hu hax hay (by cases he; rfl)
    · split at hop
      · rename_i n hn
        simp only [Option.bind_eq_bind, Option.bind_eq_some_iff] at hop
        obtain ⟨ax, hax, ay, hay, he⟩ := hop
        exact eqa n false ax ay rfl hn hax hay (by cases he; rfl)
      · exact gen hop
    · split at hop
      · rename_i n hn
        simp only [Option.bind_eq_bind, Option.bind_eq_some_iff] at hop
        obtain ⟨ax, hax, ay, hay, he⟩ := hop
        exact eqa n true ax ay rfl hn hax hay (by cases he; rfl)
      · exact gen hop
    · exact gen hop
  | unOp op t x =>
    simp only [ho, cOp, Option.bind_eq_bind, Option.bind_eq_some_iff] at hop
    obtain ⟨ax, hax, he⟩ := hop; cases he
    have h1 := fun hp => rdA_ok h hax hp
    simp only [evalOp, R.run_bind, R.run_pure, pure1] at hc ⊢
    obtain ⟨q1, q3⟩ := hc
    obtain ⟨v, r1, r2⟩ := unD_ok (P := P) (h1 q1) q3 w
    exact Snd.pure' h hd (v := v) (by unfold execOp; rw [ho]; simp [r1]) (Env.of_val r2)
  | convert s t x =>
    simp only [ho, cOp] at hop
    split at hop
    · rename_i k hu
      split at hop
      · rename_i hs
        simp only [Option.bind_eq_bind, Option.bind_eq_some_iff] at hop
        obtain ⟨ax, hax, he⟩ := hop; cases he
        have h1 := fun hp => rdA_ok h hax hp
        simp only [evalOp, R.run_bind] at hc ⊢
        generalize ((rdA ax).run σ).2 = d at *
        generalize ((rdA ax).run σ).1 = p at *
        cases d <;> try exact hc.elim
        case int k' n =>
          have e := val_int (h1 hc)
          obtain ⟨ds, hds⟩ := Option.isSome_iff_exists.1 hs
          refine Snd.pure' h hd (v := .int k (k.wrap n)) ?_ (Env.of_fro (.int _ _))
          unfold execOp; rw [ho]
          simp [convert, run_underlying hds, run_underlying hu, e, Conv.intToInt]
      · cases hop
    · cases hop
  | makeSlice t xl xc =>
    simp only [ho, cOp] at hop
    split at hop
    · rename_i e hu
      simp only [Option.bind_eq_bind, Option.bind_eq_some_iff] at hop
      obtain ⟨z, hz, he⟩ := hop
      split at he
      · rename_i hs
        simp only [Option.bind_eq_some_iff] at he
        obtain ⟨yl, hyl, yc, hyc, he⟩ := he; cases he
        obtain ⟨t', ht, htN⟩ := dst_some hdst (by simp) (by simp)
        exact snd_mkS h hnv ht htN (hdr _ ht) ho hu hz hs.1 hyl hyc hc
      · cases he
    · cases hop
  | slice t x lo hi mx =>
    cases mx with
    | some m => simp [ho, cOp] at hop
    | none =>
      simp only [ho, cOp] at hop
      have hopt : ∀ {x? : Option Operand} {y? : Option Arg} (n : Int), cOpt x? = some y? → (bound ((rdOpt y?).run σ) n).1 → (∀ d, (rdOpt y?).run σ = some d → ∃ x, x?.map a.eval = some x ∧ Val F β d x) ∧ ((rdOpt y?).run σ = none → x?.map a.eval = none) := by
        intro x? y? n hy hb
        obtain ⟨o1, o2⟩ := opt_ok h hy
        refine ⟨fun d hd => ?_, o2⟩
        obtain ⟨x, x1, x2⟩ := o1 d hd
        rw [hd] at hb
        exact ⟨x, x1, env_bound x2 hb⟩
      split at hop
      · rename_i e hu
        split at hop
        · rename_i hie
          obtain ⟨hie, hpos⟩ := hie
          have hie' : P.info? e ≠ none := by intro e'; rw [e'] at hie; cases hie
          simp only [Option.bind_eq_bind, Option.bind_eq_some_iff] at hop
          obtain ⟨ax, hax, alo, halo, ahi, hahi, he⟩ := hop; cases he
          have h1 := fun hp => rdA_ok h hax hp
          simp only [evalOp, R.run_bind, R.run_pure, pure1] at hc ⊢
          generalize ((rdA ax).run σ).2 = d at *
          generalize ((rdA ax).run σ).1 = p at *
          obtain ⟨⟨q1, q2⟩, q3⟩ := hc
          have hb : ∃ n : Int, (bound ((rdOpt alo).run σ) 0).1 ∧ (bound ((rdOpt ahi).run σ) n).1 := by
            cases d <;> first | exact q3.elim | (exact ⟨_, q3.1, q3.2.1⟩) | skip
          obtain ⟨n, hb1, hb2⟩ := hb
          obtain ⟨l1, l2⟩ := hopt 0 halo hb1
          obtain ⟨m1, m2⟩ := hopt n hahi hb2
          obtain ⟨v, r1, r2⟩ := slice_ok (P := P) h hu hie' (h1 q1) (fun g v i n L e1 e2 _ => by
              subst e1
              simp only [fits, R.run] at q2
              cases hg : σ.go g with
              | none => rw [hg] at q2; exact q2.elim
              | some pp =>
                obtain ⟨v', ow⟩ := pp
                rw [hg] at q2
                obtain ⟨_, rfl, q4⟩ := q2
                obtain ⟨L', e3, hz, hk⟩ := h.own g v ow hg
                rw [e2] at e3; cases e3
                rw [← q4]
                cases hfz : ow.fz with
                | true => exact (hz hfz).2.1
                | false => exact (hk hfz).1) (fun es q e1 hq => by
              subst e1
              exact q2.2 q hq) l1 l2 m1 m2 (fun s e1 => by
              subst e1
              have q2' : P.cellsOf e = 0 := q2
              omega) q3
          exact Snd.pure' h hd (v := v) (by unfold execOp; rw [ho]; simp [r1]) (Env.of_val r2)
        · cases hop
      · rename_i hu
        simp only [Option.bind_eq_bind, Option.bind_eq_some_iff] at hop
        obtain ⟨ax, hax, alo, halo, ahi, hahi, he⟩ := hop; cases he
        have h1 := fun hp => rdA_ok h hax hp
        simp only [evalOp, R.run_bind, R.run_pure, pure1] at hc ⊢
        generalize ((rdA ax).run σ).2 = d at *
        generalize ((rdA ax).run σ).1 = p at *
        obtain ⟨⟨q1, q2⟩, q3⟩ := hc
        cases d <;> try exact q3.elim
        case str s =>
          obtain ⟨l1, l2⟩ := hopt 0 halo q3.1
          obtain ⟨m1, m2⟩ := hopt s.length hahi q3.2.1
          obtain ⟨v, r1, r2⟩ := sliceStr_ok (P := P) hu (h1 q1) l1 l2 m1 m2 q3 w
          exact Snd.pure' h hd (v := v) (by unfold execOp; rw [ho]; simp [r1]) (Env.of_val r2)
        case sl es => exact absurd q2.1 (by omega)
        case nils => exact absurd q2 (by simp [fits, R.run])
        case osl g v i n =>
          simp only [fits, R.run] at q2
          split at q2
          · exact absurd q2.1 (by omega)
          · exact q2.elim
      · cases hop
  | fieldAddr s x f =>
    simp only [ho, cOp] at hop
    split at hop
    · rename_i fs hu
      simp only [Option.bind_eq_bind, Option.bind_eq_some_iff] at hop
      obtain ⟨fd, hfd, hop⟩ := hop
      split at hop
      · rename_i hs
        simp only [Option.bind_eq_some_iff] at hop
        obtain ⟨ax, hax, he⟩ := hop; cases he
        obtain ⟨fi, hfi⟩ := Option.ne_none_iff_exists'.1 (info_of_cells hs)
        have hsz : fi.size ≠ 0 := by
          have : P.cellsOf fd.type = fi.size := by simp [Program.cellsOf, hfi]
          omega
        have h1 := fun hp => rdA_ok h hax hp
        have hrun : ∀ b o', a.eval x = .pointer (some ⟨b, o', none⟩) → (execOp a.eval o).run P w = .ok (.value (.pointer (some ⟨b, o' + fd.offset, none⟩))) w := by
          intro b o' e1
          unfold execOp; rw [ho]
          simp [Instr.fieldAt, run_underlying hu, hfd, e1, Instr.sureAddr, fieldPlace, sizeOf, typeInfo, hfi, hsz, add_none]
        simp only [evalOp, R.run_bind] at hc ⊢
        generalize ((rdA ax).run σ).2 = d at *
        generalize ((rdA ax).run σ).1 = p at *
        cases d <;> try exact hc.elim
        case optr g v i off =>
          obtain ⟨L, b, k1, k2, k3⟩ := h1 hc
          exact Snd.pure' h hd (hrun _ _ k3) ⟨L, b, k1, k2, by rw [Nat.add_assoc]⟩
        case fptr e off =>
          have hx := h1 hc
          generalize hxx : a.eval x = xx at hx hrun
          cases hx with
          | fptr e b o' off vf hF h1' hh =>
            refine Snd.pure' h hd (hrun _ _ rfl) (Env.of_fro ?_)
            rw [Nat.add_assoc]
            exact .fptr e b o' (off + fd.offset) vf hF h1' hh
      · cases hop
    · cases hop
  | field s x f =>
    simp only [ho, cOp] at hop
    split at hop
    · rename_i fs hu
      simp only [Option.bind_eq_bind, Option.bind_eq_some_iff] at hop
      obtain ⟨fd, hfd, hop⟩ := hop
      have key : ∀ (n : Nat) (agg : Bool) (y : Arg), cArg x = some y → dop = .fld fd.offset n agg y → aggT P fd.type = agg → (P.underlying fd.type).isSome = true → (agg = true → P.info? fd.type ≠ none ∧ n = P.cellsOf fd.type) → (agg = false → n = 1) → Snd P N w0 F0 M B0 σ β a w o nv ((evalOp Γ nv o.dst dop).run σ) := by
        rintro n agg y hy rfl g1 g2 g3 g4
        have hv := fun hp => rdA_ok h hy hp
        simp only [evalOp, R.run_bind] at hc ⊢
        generalize ((rdA y).run σ).2 = d at *
        generalize ((rdA y).run σ).1 = p at *
        cases d <;> try exact hc.elim
        case agg cs =>
          obtain ⟨q1, q2⟩ := hc
          obtain ⟨vs, e1, hl, hone, hcel⟩ := hv q1
          obtain ⟨v, r1, r2⟩ := partD_ok (P := P) hl hone hcel fd.type fd.offset n agg g1 g2 g3 g4 q2 w
          exact Snd.pure' h hd (v := v) (by unfold execOp; rw [ho]; simp [Instr.field, run_underlying hu, hfd, e1, asAgg, r1]) (Env.of_val r2)
      split at hop
      · rename_i hagg
        simp only [Option.bind_eq_some_iff] at hop
        obtain ⟨y, hy, he⟩ := hop; cases he
        have hu' := under_of_agg hagg
        obtain ⟨td, htd⟩ := Option.isSome_iff_exists.1 hu'
        exact key _ _ y hy rfl hagg hu' (fun _ => ⟨info_of_under htd, rfl⟩) (fun e => by cases e)
      · rename_i hagg
        split at hop
        · rename_i hu'
          simp only [Option.bind_eq_some_iff] at hop
          obtain ⟨y, hy, he⟩ := hop; cases he
          exact key _ _ y hy rfl (by simpa using hagg) hu' (fun e => by cases e) (fun _ => rfl)
        · cases hop
    · cases hop
  | indexAddr t x i =>
    simp only [ho, cOp] at hop
    split at hop
    · rename_i e hu
      split at hop
      · rename_i hie
        have hie' : P.info? e ≠ none := by intro e'; rw [e'] at hie; cases hie
        simp only [Option.bind_eq_bind, Option.bind_eq_some_iff] at hop
        obtain ⟨ax, hax, ai, hai, he⟩ := hop; cases he
        have h1 := fun hp => rdA_ok h hax hp
        have h2 := fun hp => rdA_ok h hai hp
        simp only [evalOp, R.run_bind] at hc ⊢
        generalize ((rdA ax).run σ).2 = d at *
        generalize ((rdA ax).run σ).1 = p at *
        generalize ((rdA ai).run σ).2 = di at *
        generalize ((rdA ai).run σ).1 = pi at *
        split at hc
        · rename_i g v i0 n k j
          simp only [R.run] at hc ⊢
          cases hg : σ.go g with
          | none => rw [hg] at hc; exact hc.elim
          | some pp =>
            obtain ⟨v', ow⟩ := pp
            rw [hg] at hc
            simp only [R.run] at hc ⊢
            obtain ⟨q1, q2, q3, q4, q5, q6, q7⟩ := hc
            have e2 := val_int (h2 q2)
            obtain ⟨y, r1, r2⟩ := (ixA_ok (P := P) h hu hie' (h1 q1) k j).1 g v i0 n v' ow rfl hg ⟨q3, q5⟩ q6 q7
            exact Snd.pure' h hd (v := y) (by unfold execOp; rw [ho]; simp [e2, r1]) (Env.of_val r2)
        · rename_i es k j
          simp only [R.run_pure] at hc ⊢
          obtain ⟨q1, q2, q3, q4, q5⟩ := hc
          have e2 := val_int (h2 q2)
          obtain ⟨y, r1, r2⟩ := (ixA_ok (P := P) h hu hie' (h1 q1) k j).2 es rfl q3 q4 q5
          exact Snd.pure' h hd (v := y) (by unfold execOp; rw [ho]; simp [e2, r1]) (Env.of_val r2)
        · exact hc.elim
      · cases hop
    · rename_i n e hu
      split at hop
      · rename_i hie
        obtain ⟨ie, hie⟩ := Option.isSome_iff_exists.1 hie
        simp only [Option.bind_eq_bind, Option.bind_eq_some_iff] at hop
        obtain ⟨ax, hax, ai, hai, he⟩ := hop; cases he
        have h1 := fun hp => rdA_ok h hax hp
        have h2 := fun hp => rdA_ok h hai hp
        have hsz : P.cellsOf e = ie.size := by simp [Program.cellsOf, hie]
        have hrun : ∀ b o' k j, a.eval x = .pointer (some ⟨b, o', none⟩) → a.eval i = .int k j → 0 ≤ j → j < (n : Int) → (execOp a.eval o).run P w = .ok (.value (.pointer (some ⟨b, o' + j.toNat * P.cellsOf e, none⟩))) w := by
          intro b o' k j e1 e2 e3 e4
          have hj : 0 ≤ j ∧ j < (n : Int) := ⟨e3, e4⟩
          unfold execOp; rw [ho]
          simp [Instr.indexAt, asIntOf, run_underlying hu, e1, e2, Instr.sureAddr, sizeOf, typeInfo, hie, hj, add_none, hsz]
        simp only [evalOp, R.run_bind] at hc ⊢
        generalize ((rdA ax).run σ).2 = d at *
        generalize ((rdA ax).run σ).1 = p at *
        generalize ((rdA ai).run σ).2 = di at *
        generalize ((rdA ai).run σ).1 = pi at *
        split at hc
        · rename_i g v i0 off k j
          simp only [R.run_pure] at hc ⊢
          obtain ⟨q1, q2, q3, q4⟩ := hc
          obtain ⟨L, b, k1, k2, k3⟩ := h1 q1
          exact Snd.pure' h hd (hrun _ _ k j k3 (val_int (h2 q2)) q3 q4) ⟨L, b, k1, k2, by rw [Nat.add_assoc]⟩
        · rename_i e' off k j
          simp only [R.run_pure] at hc ⊢
          obtain ⟨q1, q2, q3, q4⟩ := hc
          have hx := h1 q1
          generalize hxx : a.eval x = xx at hx hrun
          cases hx with
          | fptr e' b o' off vf hF h1' hh =>
            refine Snd.pure' h hd (hrun _ _ k j rfl (val_int (h2 q2)) q3 q4) (Env.of_fro ?_)
            rw [Nat.add_assoc]
            exact .fptr e' b o' _ vf hF h1' hh
        · exact hc.elim
      · cases hop
    · cases hop
  | index t x i =>
    simp only [ho, cOp] at hop
    split at hop
    · rename_i hu
      simp only [Option.bind_eq_bind, Option.bind_eq_some_iff] at hop
      obtain ⟨ax, hax, ai, hai, he⟩ := hop; cases he
      have h1 := fun hp => rdA_ok h hax hp
      have h2 := fun hp => rdA_ok h hai hp
      simp only [evalOp, R.run_bind] at hc ⊢
      generalize ((rdA ax).run σ).2 = d at *
      generalize ((rdA ax).run σ).1 = p at *
      generalize ((rdA ai).run σ).2 = di at *
      generalize ((rdA ai).run σ).1 = pi at *
      split at hc
      · rename_i s k j
        simp only [R.run_pure] at hc ⊢
        obtain ⟨q1, q2, q3, q4⟩ := hc
        have e1 := val_str (h1 q1)
        have e2 := val_int (h2 q2)
        have hlt : j.toNat < s.length := by omega
        refine Snd.pure' h hd (v := .int .u8 (s.getD j.toNat 0).toNat) ?_ (Env.of_fro (.int _ _))
        unfold execOp; rw [ho]
        have e3 : (⟨s.toArray⟩ : ByteArray)[j.toNat]? = some (s.getD j.toNat 0) := by
          have hb : j.toNat < (⟨s.toArray⟩ : ByteArray).size := by simpa [ByteArray.size] using hlt
          rw [getElem?_pos (⟨s.toArray⟩ : ByteArray) j.toNat hb]
          have : (⟨s.toArray⟩ : ByteArray)[j.toNat]'hb = s[j.toNat] := rfl
          rw [this]
          simp [hlt]
        simp [Instr.index, asIntOf, run_underlying hu, e1, e2, q3, e3]
      · exact hc.elim
    · rename_i n e hu
      split at hop
      · rename_i hie
        obtain ⟨hie, hue⟩ := hie
        obtain ⟨ie, hie⟩ := Option.isSome_iff_exists.1 hie
        have hsz : P.cellsOf e = ie.size := by simp [Program.cellsOf, hie]
        have key : ∀ (s : Nat) (agg : Bool) (y yi : Arg), cArg x = some y → cArg i = some yi → dop = .ix s n agg y yi → aggT P e = agg → s = P.cellsOf e → (agg = false → s = 1) → Snd P N w0 F0 M B0 σ β a w o nv ((evalOp Γ nv o.dst dop).run σ) := by
          rintro s agg y yi hy hyi rfl g1 g2 g4
          have h1 := fun hp => rdA_ok h hy hp
          have h2 := fun hp => rdA_ok h hyi hp
          simp only [evalOp, R.run_bind] at hc ⊢
          generalize ((rdA y).run σ).2 = d at *
          generalize ((rdA y).run σ).1 = p at *
          generalize ((rdA yi).run σ).2 = di at *
          generalize ((rdA yi).run σ).1 = pi at *
          split at hc
          · rename_i cs k j
            simp only [R.run_pure] at hc ⊢
            obtain ⟨q1, q2, q3, q4, q5⟩ := hc
            obtain ⟨vs, e1, hl, hone, hcel⟩ := h1 q1
            have e2 := val_int (h2 q2)
            have hle : j.toNat * s + s ≤ cs.length := by
              have : (j.toNat + 1) * s ≤ n * s := Nat.mul_le_mul_right _ (by omega)
              rw [Nat.add_mul] at this
              omega
            obtain ⟨v, r1, r2⟩ := partD_ok (P := P) hl hone hcel e (j.toNat * s) s agg g1 hue (fun _ => ⟨by rw [hie]; simp, g2⟩) g4 hle w
            have hj : 0 ≤ j ∧ j < (n : Int) := ⟨q3, q4⟩
            refine Snd.pure' h hd (v := v) ?_ (Env.of_val r2)
            unfold execOp; rw [ho]
            rw [g2, hsz] at r1
            simp [Instr.index, asIntOf, run_underlying hu, e1, e2, hj, sizeOf, typeInfo, hie, r1]
          · exact hc.elim
        split at hop
        · rename_i hagg
          simp only [Option.bind_eq_bind, Option.bind_eq_some_iff] at hop
          obtain ⟨y, hy, yi, hyi, he⟩ := hop; cases he
          exact key _ _ y yi hy hyi rfl hagg rfl (fun e => by cases e)
        · rename_i hagg
          split at hop
          · rename_i h1
            simp only [Option.bind_eq_bind, Option.bind_eq_some_iff] at hop
            obtain ⟨y, hy, yi, hyi, he⟩ := hop; cases he
            exact key _ _ y yi hy hyi rfl (by simpa using hagg) h1.symm (fun _ => rfl)
          · cases hop
      · cases hop
    · cases hop
  | extract x i =>
    simp only [ho, cOp, Option.bind_eq_bind, Option.bind_eq_some_iff] at hop
    obtain ⟨y, hy, he⟩ := hop; cases he
    have h1 := fun hp => rdA_ok h hy hp
    simp only [evalOp, R.run_bind] at hc ⊢
    generalize ((rdA y).run σ).2 = d at *
    generalize ((rdA y).run σ).1 = p at *
    cases d <;> try exact hc.elim
    case tup ds =>
      obtain ⟨q1, q2⟩ := hc
      obtain ⟨vs, e1, hl, hcel⟩ := h1 q1
      have hlt : i < vs.length := by omega
      refine Snd.pure' h hd (v := vs[i]) (by unfold execOp; rw [ho]; simp [Instr.extract, e1, hlt]) (Env.of_val (Val.of_cel ?_))
      refine hcel i _ _ ?_ (List.getElem?_eq_getElem hlt)
      simp [q2]
  | makeFunc fn first caps =>
    simp only [ho, cOp] at hop
    split at hop
    · rename_i f
      split at hop
      · rename_i hfirst
        simp only [Option.bind_eq_bind, Option.bind_eq_some_iff] at hop
        obtain ⟨ys, hy, he⟩ := hop; cases he
        obtain ⟨l, r⟩ := args_ok h hy
        simp only [evalOp, R.run_bind, R.run_pure] at hc ⊢
        have hf : first = #[] := Array.eq_empty_of_size_eq_zero hfirst
        refine Snd.pure' h hd (v := .func (.func f) #[] (caps.toList.map a.eval).toArray) ?_ ?_
        · unfold execOp; rw [ho]
          have : (caps.toList.map a.eval).toArray = caps.map a.eval := by apply Array.ext'; simp
          simp [Instr.makeFunc, hf]
          exact this.symm
        · refine ⟨caps.toList.map a.eval, rfl, by simp [l], fun j c v hc' hv => ?_⟩
          have := r j c v hc' hv
          have hk := hc c (List.mem_of_getElem? hc')
          cases c <;> first | exact this | cases hk
      · cases hop
    · cases hop
  | call c =>
    simp only [ho, cOp] at hop
    obtain ⟨cal, as, ts⟩ := c
    unfold cCall at hop
    simp only at hop
    split at hop
    · rename_i f _ _
      simp only [Option.bind_eq_bind, Option.bind_eq_some_iff] at hop
      obtain ⟨fa, hf, ys, hy, he⟩ := hop; cases he
      exact snd_call hΓ h hnv hd hdr ho hf hy hc
    · rename_i x t has hts
      have e1 : as = #[x] := by apply Array.ext'; simpa using has
      have e2 : ts = #[t] := by apply Array.ext'; simpa using hts
      subst e1; subst e2
      have fin : ∀ (str : Bool) (y : Arg), cArg x = some y → dop = .len str y → (str = false → ∃ e, P.underlying t = some (.slice e)) → (str = true → P.underlying t = some .string) → Snd P N w0 F0 M B0 σ β a w o nv ((evalOp Γ nv o.dst dop).run σ) := by
        rintro str y hy rfl g1 g2
        have hv := fun hp => rdA_ok h hy hp
        simp only [evalOp, R.run_bind] at hc ⊢
        generalize ((rdA y).run σ).2 = d at *
        generalize ((rdA y).run σ).1 = p at *
        have hrun : ∀ A n c, str = false → a.eval x = .slice A n c → (execOp a.eval o).run P w = .ok (.value (.int .i64 n)) w := by
          intro A n c hs hx
          obtain ⟨e, hu⟩ := g1 hs
          unfold execOp; rw [ho]
          simp [resolve, invoke, builtin, Builtin.len_, run_underlying hu, hx, goInt]
        cases d <;> try exact hc.elim
        case sl es =>
          obtain ⟨q1, q2⟩ := hc
          have hx := hv q1
          have : ∃ A c, a.eval x = .slice A es.length c := by
            generalize a.eval x = xx at hx
            cases hx with
            | sl0 A c => exact ⟨A, c, rfl⟩
            | sl es b o c s vf hc hs hF h1 hh => exact ⟨_, c, rfl⟩
          obtain ⟨A, c, hA⟩ := this
          exact Snd.pure' h hd (hrun A _ c q2 hA) (Env.of_fro (.int _ _))
        case osl g v i n =>
          obtain ⟨q1, q2⟩ := hc
          obtain ⟨L, A, _, hA, _⟩ := hv q1
          exact Snd.pure' h hd (hrun A _ _ q2 hA) (Env.of_fro (.int _ _))
        case nils =>
          obtain ⟨q1, q2⟩ := hc
          exact Snd.pure' h hd (hrun none 0 0 q2 (val_nils (hv q1))) (Env.of_fro (.int _ _))
        case str s =>
          obtain ⟨q1, q2⟩ := hc
          have e1 := val_str (hv q1)
          refine Snd.pure' h hd (v := .int .i64 s.length) ?_ (Env.of_fro (.int _ _))
          unfold execOp; rw [ho]
          have e3 : (⟨s.toArray⟩ : ByteArray).size = s.length := by simp [ByteArray.size]
          simp [resolve, invoke, builtin, Builtin.len_, run_underlying (g2 q2), e1, goInt, e3]
      split at hop
      · rename_i e hu
        simp only [Option.bind_eq_bind, Option.bind_eq_some_iff] at hop
        obtain ⟨y, hy, he⟩ := hop; cases he
        exact fin false y hy rfl (fun _ => ⟨e, hu⟩) (fun e => by cases e)
      · rename_i hu
        simp only [Option.bind_eq_bind, Option.bind_eq_some_iff] at hop
        obtain ⟨y, hy, he⟩ := hop; cases he
        exact fin true y hy rfl (fun e => by cases e) (fun _ => hu)
      · cases hop
    · rename_i x y t u has hts
      have e1 : as = #[x, y] := by apply Array.ext'; simpa using has
      have e2 : ts = #[t, u] := by apply Array.ext'; simpa using hts
      subst e1; subst e2
      split at hop
      · rename_i e e' hu hu'
        simp only [Option.bind_eq_bind, Option.bind_eq_some_iff] at hop
        obtain ⟨i, hi, _, _, z, hz, he⟩ := hop
        split at he
        · rename_i hcond
          obtain ⟨rfl, hs, _, hby, _⟩ := hcond
          simp only [Option.bind_eq_some_iff] at he
          obtain ⟨ax, hax, ay, hay, he⟩ := he; cases he
          obtain ⟨t', ht, htN⟩ := dst_some hdst (by simp) (by simp)
          exact snd_app h hnv ht htN (hdr _ ht) ho hu hi hz hs hby hax hay hc
        · cases he
      · cases hop
    · rename_i as' hcal has
      simp only [Option.bind_eq_bind, Option.bind_eq_some_iff] at hop
      obtain ⟨ys, hy, he⟩ := hop; cases he
      simp only [evalOp, R.run_bind] at hc ⊢
      generalize hds : (rdAs ys).run σ = ds at *
      split at hc
      · rename_i x y
        simp only [R.run_pure, pure1] at hc ⊢
        obtain ⟨⟨q1, q2⟩, q3⟩ := hc
        obtain ⟨p, q, has', e1, e2⟩ := two_args h hy hds
        obtain ⟨k, m, n, r1, r2, r3⟩ := int2_ok (e1.strip q1) (e2.strip q2) q3
        have hasA : as = #[p, q] := by apply Array.ext'; simpa using has'
        subst hasA
        rw [r3]
        refine Snd.pure' h hd (v := .int k (maxI m n)) ?_ (Env.of_fro (.int _ _))
        unfold execOp; rw [ho]
        simp [resolve, invoke, builtin, Builtin.max_, Builtin.max2, r1, r2, maxI]
      · exact hc.elim
    · rename_i as' hcal has
      simp only [Option.bind_eq_bind, Option.bind_eq_some_iff] at hop
      obtain ⟨ys, hy, he⟩ := hop; cases he
      simp only [evalOp, R.run_bind] at hc ⊢
      generalize hds : (rdAs ys).run σ = ds at *
      split at hc
      · rename_i x y
        simp only [R.run_pure, pure1] at hc ⊢
        obtain ⟨⟨q1, q2⟩, q3⟩ := hc
        obtain ⟨p, q, has', e1, e2⟩ := two_args h hy hds
        obtain ⟨k, m, n, r1, r2, r3⟩ := int2_ok (e1.strip q1) (e2.strip q2) q3
        have hasA : as = #[p, q] := by apply Array.ext'; simpa using has'
        subst hasA
        rw [r3]
        refine Snd.pure' h hd (v := .int k (minI m n)) ?_ (Env.of_fro (.int _ _))
        unfold execOp; rw [ho]
        simp [resolve, invoke, builtin, Builtin.min_, Builtin.min2, r1, r2, minI]
      · exact hc.elim
    · cases hop
  | _ => simp [ho, cOp] at hop

end
end Go.Dw
