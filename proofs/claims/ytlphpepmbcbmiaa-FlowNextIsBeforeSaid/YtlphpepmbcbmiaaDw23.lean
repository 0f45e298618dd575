/-
  THE LAYER Dw, PART 23: functions: the theorem.
-/
import Derived.Test.YtlphpepmbcbmiaaDw22
namespace Go.Dw

section
variable {N : Nat} {P : Program}

/-- an object of the start -/
def ini (p : (Nat × D) × Hd) : Nat × Obj? := (8192 + p.1.1, some (p.1.1, ⟨false, true, p.2.s, p.2.ty, [p.1.2]⟩))

/-- what is handed over, with its places -/
structure Ini (F : Fz) (w : World) (ptr : List (Nat × (Nat × Nat))) (O : List (Nat × Obj?)) (keys : List Nat) (Mb : List Hd) (K : List (Nat × D)) : Prop where
  len : K.length = Mb.length
  keys : K.map Prod.fst = keys
  obj : O = (K.zip Mb).map ini
  ok : ∀ (k : Nat) key d m, K[k]? = some (key, d) → Mb[k]? = some m → HdOk F w m d ∧ look ptr key = some (m.s, m.ty)
  apart : ∀ (k k' : Nat) m m', k < k' → Mb[k]? = some m → Mb[k']? = some m' → Apart m m'
/-- names for what is handed over -/
def Nam (K : List (Nat × D)) (Mb : List Hd) (PB : Bt) : Prop := ∀ (k : Nat) key d m, K[k]? = some (key, d) → Mb[k]? = some m → PB key = some ⟨some m.b, 1, m.s⟩

theorem Nam.cons {K : List (Nat × D)} {Mb : List Hd} {p : Nat × D} {m : Hd} {PB : Bt} (h : Nam (p :: K) (m :: Mb) PB) : PB p.1 = some ⟨some m.b, 1, m.s⟩ ∧ Nam K Mb PB :=
  ⟨h 0 p.1 p.2 m rfl rfl, fun k key d m' h1 h2 => h (k + 1) key d m' (by simpa using h1) (by simpa using h2)⟩
theorem Nam.append {K1 K2 : List (Nat × D)} {M1 M2 : List Hd} {PB : Bt} (hl : K1.length = M1.length) (h : Nam (K1 ++ K2) (M1 ++ M2) PB) : Nam K1 M1 PB ∧ Nam K2 M2 PB := by
  refine ⟨fun k key d m h1 h2 => h k key d m ?_ ?_, fun k key d m h1 h2 => h (K1.length + k) key d m ?_ ?_⟩
  · rw [List.getElem?_append_left (List.getElem?_eq_some_iff.1 h1).1]; exact h1
  · rw [List.getElem?_append_left (List.getElem?_eq_some_iff.1 h2).1]; exact h2
  · rw [List.getElem?_append_right (by omega)]; simpa using h1
  · rw [List.getElem?_append_right (by omega), show K1.length + k - M1.length = k by omega]; exact h2

theorem Ini.nil {F : Fz} {w : World} {ptr : List (Nat × (Nat × Nat))} : Ini F w ptr [] [] [] [] := ⟨rfl, rfl, rfl, fun k key d m h => by simp at h, fun k k' m m' _ h => by simp at h⟩
theorem Ini.cons {F : Fz} {w : World} {ptr : List (Nat × (Nat × Nat))} {O : List (Nat × Obj?)} {keys : List Nat} {Mb : List Hd} {K : List (Nat × D)} (h : Ini F w ptr O keys Mb K) {j : Nat} {d : D} {m : Hd} (hp : look ptr j = some (m.s, m.ty)) (hd : HdOk F w m d) (hM : ∀ m' ∈ Mb, Apart m m') :
    Ini F w ptr ((8192 + j, some (j, ⟨false, true, m.s, m.ty, [d]⟩)) :: O) (j :: keys) (m :: Mb) ((j, d) :: K) := by
  refine ⟨by simp [h.len], by simp [h.keys], by simp [h.obj, ini], fun k key d' m' h1 h2 => ?_, fun k k' m1 m2 hlt h1 h2 => ?_⟩
  · rcases k with _ | k
    · simp only [List.getElem?_cons_zero, Option.some.injEq, Prod.mk.injEq] at h1 h2
      obtain ⟨rfl, rfl⟩ := h1
      subst h2
      exact ⟨hd, hp⟩
    · simp only [List.getElem?_cons_succ] at h1 h2
      exact h.ok k key d' m' h1 h2
  · rcases k' with _ | k'
    · omega
    · simp only [List.getElem?_cons_succ] at h2
      rcases k with _ | k
      · simp only [List.getElem?_cons_zero, Option.some.injEq] at h1
        subst h1
        exact hM m2 (List.mem_of_getElem? h2)
      · simp only [List.getElem?_cons_succ] at h1
        exact h.apart k k' m1 m2 (by omega) h1 h2
theorem Ini.append {F : Fz} {w : World} {ptr : List (Nat × (Nat × Nat))} {O1 O2 : List (Nat × Obj?)} {k1 k2 : List Nat} {M1 M2 : List Hd} {K1 K2 : List (Nat × D)} (h1 : Ini F w ptr O1 k1 M1 K1) (h2 : Ini F w ptr O2 k2 M2 K2) (hM : ∀ m ∈ M1, ∀ m' ∈ M2, Apart m m') :
    Ini F w ptr (O1 ++ O2) (k1 ++ k2) (M1 ++ M2) (K1 ++ K2) := by
  refine ⟨by simp [h1.len, h2.len], by simp [h1.keys, h2.keys], by rw [h1.obj, h2.obj, List.zip_append h1.len, List.map_append], fun k key d m q1 q2 => ?_, fun k k' m m' hlt q1 q2 => ?_⟩
  · by_cases hk : k < K1.length
    · rw [List.getElem?_append_left hk] at q1
      rw [List.getElem?_append_left (by rw [← h1.len]; exact hk)] at q2
      exact h1.ok k key d m q1 q2
    · rw [List.getElem?_append_right (by omega)] at q1
      rw [List.getElem?_append_right (by rw [← h1.len]; omega), ← h1.len] at q2
      exact h2.ok _ key d m q1 q2
  · by_cases hk : k' < M1.length
    · rw [List.getElem?_append_left (by omega)] at q1
      rw [List.getElem?_append_left hk] at q2
      exact h1.apart k k' m m' hlt q1 q2
    · rw [List.getElem?_append_right (by omega)] at q2
      by_cases hk2 : k < M1.length
      · rw [List.getElem?_append_left hk2] at q1
        exact hM m (List.mem_of_getElem? q1) m' (List.mem_of_getElem? q2)
      · rw [List.getElem?_append_right (by omega)] at q1
        exact h2.apart _ _ m m' (by omega) q1 q2

theorem caps_ini {F : Fz} {w : World} {ptr : List (Nat × (Nat × Nat))} {j : Nat} {ds : List D} {xs : List Value} {Mb : List Hd} (h : CapsOk F w ptr j ds xs Mb) :
    ∃ K, Ini F w ptr (capO ptr j ds) (capKeys ptr j ds) Mb K ∧ (initC ptr j ds).length = xs.length ∧ ∀ PB, Nam K Mb PB → ∀ (q : Nat) d x, (initC ptr j ds)[q]? = some d → xs[q]? = some x → Ref F PB d x := by
  induction h with
  | nil j => exact ⟨[], Ini.nil, rfl, fun PB _ q d x hq => by simp [initC] at hq⟩
  | val j d ds x xs M hp hx _ ih =>
    obtain ⟨K, k1, k2, k3⟩ := ih
    refine ⟨K, by simpa [capO, capKeys, hp] using k1, by simp [initC, k2], fun PB hPB q d' x' hq hx' => ?_⟩
    simp only [initC, hp] at hq
    rcases q with _ | q
    · simp only [List.getElem?_cons_zero, Option.some.injEq] at hq hx'
      subst hq; subst hx'
      exact Ref.of_fro hx
    · simp only [List.getElem?_cons_succ] at hq hx'
      exact k3 PB hPB q d' x' hq hx'
  | ptr j d ds xs M m hp hd hM _ ih =>
    obtain ⟨K, k1, k2, k3⟩ := ih
    refine ⟨(j, d) :: K, by simpa [capO, capKeys, hp] using k1.cons hp hd hM, by simp [initC, k2], fun PB hPB q d' x' hq hx' => ?_⟩
    obtain ⟨n1, n2⟩ := hPB.cons
    simp only [initC, hp] at hq
    rcases q with _ | q
    · simp only [List.getElem?_cons_zero, Option.some.injEq] at hq hx'
      subst hq; subst hx'
      exact ⟨_, m.b, n1, rfl, by simp⟩
    · simp only [List.getElem?_cons_succ] at hq hx'
      exact k3 PB n2 q d' x' hq hx'

theorem args_ini {F : Fz} {w : World} {ptr : List (Nat × (Nat × Nat))} {j : Nat} {ds : List D} {xs : List Value} {Mb : List Hd} (h : ArgsOk F w ptr j ds xs Mb) :
    ∃ K, Ini F w ptr (initO ptr j ds) (argKeys ptr j ds) Mb K ∧ ∀ PB, Nam K Mb PB → ∀ t d, look (initE ptr j ds) t = some d → ∃ x, j ≤ t ∧ xs[t - j]? = some x ∧ Env F PB d x := by
  have tail : ∀ {j : Nat} {d0 : D} {ds : List D} {x0 : Value} {xs : List Value} {PB : Bt}, Env F PB (initD ptr j d0) x0 → (∀ t d, look (initE ptr (j + 1) ds) t = some d → ∃ x, j + 1 ≤ t ∧ xs[t - (j + 1)]? = some x ∧ Env F PB d x) →
      ∀ t d, look (initE ptr j (d0 :: ds)) t = some d → ∃ x, j ≤ t ∧ (x0 :: xs)[t - j]? = some x ∧ Env F PB d x := by
    intro j d0 ds x0 xs PB h0 hr t d ht
    simp only [initE, look] at ht
    split at ht
    · rename_i e
      cases ht
      subst e
      exact ⟨x0, Nat.le_refl _, by simp, h0⟩
    · obtain ⟨x', q1, q2, q3⟩ := hr t d ht
      refine ⟨x', by omega, ?_, q3⟩
      rw [show t - j = (t - (j + 1)) + 1 by omega, List.getElem?_cons_succ]
      exact q2
  induction h with
  | nil j => exact ⟨[], Ini.nil, fun PB _ t d ht => by simp [initE, look] at ht⟩
  | val j d ds x xs M hp hn hx _ ih =>
    obtain ⟨K, k1, k3⟩ := ih
    have hm : initO ptr j (d :: ds) = initO ptr (j + 1) ds ∧ argKeys ptr j (d :: ds) = argKeys ptr (j + 1) ds ∧ initD ptr j d = d := by
      cases d <;> first | exact (hn _ _ rfl).elim | (refine ⟨?_, ?_, ?_⟩ <;> simp [initO, argKeys, initD, hp])
    obtain ⟨m1, m2, m3⟩ := hm
    rw [m1, m2]
    exact ⟨K, k1, fun PB hPB => tail (by rw [m3]; exact Env.of_fro hx) (k3 PB hPB)⟩
  | ptr j d ds xs M m hp hd hM _ ih =>
    obtain ⟨K, k1, k3⟩ := ih
    refine ⟨(j, d) :: K, by simpa [initO, argKeys, hp] using k1.cons hp hd hM, fun PB hPB => ?_⟩
    obtain ⟨n1, n2⟩ := hPB.cons
    exact tail (by simp only [initD, hp]; exact ⟨_, m.b, n1, rfl, by simp⟩) (k3 PB n2)
  | clo j f caps vs ds xs M1 M2 hp hc hM _ ih =>
    obtain ⟨K, k1, k3⟩ := ih
    obtain ⟨K1, c1, c2, c3⟩ := caps_ini hc
    refine ⟨K1 ++ K, by simpa [initO, argKeys, hp] using c1.append k1 hM, fun PB hPB => ?_⟩
    obtain ⟨n1, n2⟩ := hPB.append c1.len
    exact tail (by simp only [initD, hp]; exact ⟨vs, rfl, c2, c3 PB n1⟩) (k3 PB n2)

theorem sim_init {sp : Spec} {F : Fz} {w : World} {ds : List D} {xs : List Value} {Mb : List Hd} (hF : Fok F w) (hfin : ∀ b i x, F b i = some x → b < w.heap.size) (h : ArgsOk F w sp.ptr 0 ds xs Mb) {k : Nat} (hN : xs.length + k = N)
    (hok : ptrOk sp.ptr = true) (hkeys : argKeys sp.ptr 0 ds = sp.ptr.map Prod.fst) :
    ∃ (PB : Bt) (K : List (Nat × D)), Sim N w F (Wr Mb) PB (initS sp ds) F PB { tmps := xs.toArray ++ Array.replicate k undef, defers := [] } w ∧ (∀ v, 262144 ≤ v → PB v = none) ∧ Nam K Mb PB ∧ K.length = Mb.length ∧ K.map Prod.fst = sp.ptr.map Prod.fst ∧
      ∀ (i : Nat) key d m, K[i]? = some (key, d) → Mb[i]? = some m → look sp.ptr key = some (m.s, m.ty) := by
  obtain ⟨K, hI, hE⟩ := args_ini h
  simp only [ptrOk, Bool.and_eq_true, decide_eq_true_eq] at hok
  obtain ⟨hlt, hnd⟩ := hok
  have hKn : (K.map Prod.fst).Nodup := by rw [hI.keys, hkeys]; exact hnd
  have hzl : (K.zip Mb).length = K.length := by simp [hI.len]
  -- each place has one entry
  have huk : ∀ (i i' : Nat) key d d', K[i]? = some (key, d) → K[i']? = some (key, d') → i = i' := by
    intro i i' key d d' h1 h2
    have e1 : (K.map Prod.fst)[i]? = some key := by simp [h1]
    have e2 : (K.map Prod.fst)[i']? = some key := by simp [h2]
    have l1 := (List.getElem?_eq_some_iff.1 e1).1
    exact (List.getElem?_inj l1 hKn).1 (e1.trans e2.symm)
  let PB : Bt := fun v => ((K.zip Mb).find? fun p => p.1.1 == v).map fun p => ⟨some p.2.b, 1, p.2.s⟩
  have hPB : ∀ v L, PB v = some L → ∃ (i : Nat) (d : D) (m : Hd), K[i]? = some (v, d) ∧ Mb[i]? = some m ∧ L = ⟨some m.b, 1, m.s⟩ := by
    intro v L hv
    simp only [PB, Option.map_eq_some_iff] at hv
    obtain ⟨⟨⟨key, d⟩, m⟩, h1, rfl⟩ := hv
    have hk := List.find?_some h1
    simp only [beq_iff_eq] at hk
    subst hk
    obtain ⟨i, hi⟩ := List.getElem?_of_mem (List.mem_of_find?_eq_some h1)
    rw [List.getElem?_zip_eq_some] at hi
    exact ⟨i, d, m, hi.1, hi.2, rfl⟩
  have hnam : Nam K Mb PB := by
    intro i key d m h1 h2
    have hm : ((key, d), m) ∈ K.zip Mb := List.mem_of_getElem? (i := i) (by rw [List.getElem?_zip_eq_some]; exact ⟨h1, h2⟩)
    cases hf : (K.zip Mb).find? fun p => p.1.1 == key with
    | none =>
      have := List.find?_eq_none.1 hf _ hm
      simp at this
    | some p =>
      have hv : PB key = some ⟨some p.2.b, 1, p.2.s⟩ := by simp only [PB, hf]; rfl
      obtain ⟨i', d', m', q1, q2, q3⟩ := hPB key _ hv
      have := huk i i' key d d' h1 q1
      subst this
      rw [h2] at q2; cases q2
      rw [hv, q3]
  have hgo : ∀ g v o, (initS sp ds).go g = some (v, o) → ∃ (i : Nat) (d : D) (m : Hd), K[i]? = some (v, d) ∧ Mb[i]? = some m ∧ g = 8192 + v ∧ o = ⟨false, true, m.s, m.ty, [d]⟩ := by
    intro g v o hg
    simp only [S.go, initS] at hg
    cases hl : look (initO sp.ptr 0 ds) g with
    | none => rw [hl] at hg; cases hg
    | some y =>
      rw [hl] at hg
      simp only [Option.getD_some] at hg
      subst hg
      have hm := look_mem hl
      rw [hI.obj, List.mem_map] at hm
      obtain ⟨⟨⟨key, d⟩, m⟩, h1, h2⟩ := hm
      obtain ⟨i, hi⟩ := List.getElem?_of_mem h1
      rw [List.getElem?_zip_eq_some] at hi
      simp only [ini, Prod.mk.injEq, Option.some.injEq] at h2
      obtain ⟨rfl, rfl, rfl⟩ := h2
      exact ⟨i, d, m, hi.1, hi.2, rfl, rfl⟩
  have hap : ∀ (i i' : Nat) m m' b, Mb[i]? = some m → Mb[i']? = some m' → m.own b → m'.own b → i = i' := by
    intro i i' m m' b h1 h2 h3 h4
    rcases Nat.lt_trichotomy i i' with hl | hl | hl
    · exact (hI.apart i i' m m' hl h1 h2 b h3 h4).elim
    · exact hl
    · exact (hI.apart i' i m' m hl h2 h1 b h4 h3).elim
  refine ⟨PB, K, ?_, ?_, hnam, hI.len, by rw [hI.keys, hkeys], fun i key d m h1 h2 => (hI.ok i key d m h1 h2).2⟩
  · refine { nam := Bsub.refl _, size := by simp [hN], defers := rfl, env := fun t => ?_, own := ?_, dist := ?_, sep := ?_, rich := ?_, frz := hF, fin := hfin, step := Stp.refl _ _ _ }
    · simp only [S.ge, initS]
      cases hl : look (initE sp.ptr 0 ds) t with
      | none => exact Env.top _
      | some d =>
        obtain ⟨x, _, q2, q3⟩ := hE PB hnam t d hl
        simp only [Nat.sub_zero] at q2
        have hlt : t < xs.length := (List.getElem?_eq_some_iff.1 q2).1
        have : (xs.toArray ++ Array.replicate k undef).getD t undef = x := by
          rw [Array.getD_eq_getD_getElem?, Array.getElem?_append_left (by simpa using hlt)]
          simp [q2]
        simp only [Option.getD_some, this]
        exact q3
    · intro g v o hg
      obtain ⟨i, d, m, h1, h2, rfl, rfl⟩ := hgo g v o hg
      exact ⟨_, hnam i v d m h1 h2, fun e => (by cases e), fun _ => (hI.ok i v d m h1 h2).1.var.keep (Fsub.refl _) (noB_sub _) (fun _ _ => rfl)⟩
    · intro g g' v v' o o' L L' b hg hg' _ _ hL hL' hb hb'
      obtain ⟨i, d, m, h1, h2, rfl, _⟩ := hgo g v o hg
      obtain ⟨i', d', m', h1', h2', rfl, _⟩ := hgo g' v' o' hg'
      rw [hnam i v d m h1 h2] at hL; cases hL; cases hb
      rw [hnam i' v' d' m' h1' h2'] at hL'; cases hL'
      have hbb : m'.b = m.b := Option.some.inj hb'
      have := hap i i' m m' m.b h2 h2' (.inl rfl) (.inl hbb.symm)
      subst this
      rw [h1] at h1'; cases h1'; rfl
    · intro g v o L b hg _ hL hb
      obtain ⟨i, d, m, h1, h2, rfl, rfl⟩ := hgo g v o hg
      rw [hnam i v d m h1 h2] at hL; cases hL; cases hb
      have hz := (hI.ok i v d m h1 h2).1
      exact ⟨hz.none_, hz.lt, .inr ⟨⟨m, List.mem_of_getElem? h2, .inl rfl⟩, .inl rfl⟩⟩
    · refine ⟨fun g i j b => ∃ (q : Nat) (key : Nat) (d : D) (m : Hd), K[q]? = some (key, d) ∧ Mb[q]? = some m ∧ g = 8192 + key ∧ i = 0 ∧ m.φ j b, ?_, ?_, ?_, ?_, ?_, ?_, ?_⟩
      · intro g v o L b C i j e x s ty es _ hg _ hL hb hC he hj hx
        obtain ⟨q, d, m, h1, h2, rfl, rfl⟩ := hgo g v o hg
        rw [hnam q v d m h1 h2] at hL; cases hL; cases hb
        rcases i with _ | i
        · simp only [List.getElem?_cons_zero, Option.some.injEq] at he
          subst he
          exact ((hI.ok q v d m h1 h2).1.row C j x s ty es hC hj (by simpa using hx)).keep (Fsub.refl _) (fun _ _ => rfl) (fun b hb => ⟨q, v, d, m, h1, h2, rfl, rfl, hb⟩)
        · simp at he
      · intro g v o L b C i j e x u n _ hg _ hL hb hC he hj hx
        obtain ⟨q, d, m, h1, h2, rfl, rfl⟩ := hgo g v o hg
        rcases i with _ | i
        · simp only [List.getElem?_cons_zero, Option.some.injEq] at he
          subst he
          exact ((hI.ok q v d m h1 h2).1.hole j u n hj).elim
        · simp at he
      · rintro g i j b ⟨q, key, d, m, h1, h2, _, _, hb⟩
        exact (hI.ok q key d m h1 h2).1.fno j b hb
      · rintro g i j b ⟨q, key, d, m, h1, h2, _, _, hb⟩
        exact (hI.ok q key d m h1 h2).1.flt j b hb
      · rintro g i j b ⟨q, key, d, m, h1, h2, _, _, hb⟩
        exact .inr ⟨m, List.mem_of_getElem? h2, .inr ⟨j, hb⟩⟩
      · rintro g i j b g' v' o' L' ⟨q, key, d, m, h1, h2, _, _, hb⟩ hg' _ hL' hLb
        obtain ⟨q', d', m', h1', h2', rfl, rfl⟩ := hgo g' v' o' hg'
        rw [hnam q' v' d' m' h1' h2'] at hL'; cases hL'
        have hbb : m'.b = b := Option.some.inj hLb
        have := hap q q' m m' b h2 h2' (.inr ⟨j, hb⟩) (.inl hbb.symm)
        subst this
        rw [h2] at h2'; cases h2'
        exact (hI.ok q key d m h1 h2).1.fne j b hb hbb.symm
      · rintro g i j g' i' j' b ⟨q, key, d, m, h1, h2, rfl, rfl, hb⟩ ⟨q', key', d', m', h1', h2', rfl, rfl, hb'⟩
        have := hap q q' m m' b h2 h2' (.inr ⟨j, hb⟩) (.inr ⟨j', hb'⟩)
        subst this
        rw [h1] at h1'; cases h1'
        rw [h2] at h2'; cases h2'
        exact ⟨rfl, rfl, (hI.ok q key d m h1 h2).1.dis j j' b hb hb'⟩
  · intro v hv
    cases hh : PB v with
    | none => rfl
    | some L =>
      obtain ⟨i, d, m, h1, _⟩ := hPB v L hh
      have hm : v ∈ sp.ptr.map Prod.fst := by
        rw [← hkeys, ← hI.keys]
        exact List.mem_map.2 ⟨_, List.mem_of_getElem? h1, rfl⟩
      have := List.all_eq_true.1 hlt v hm
      simp only [Nat.blt_eq] at this
      omega

section
variable {w0 : World} {F0 : Fz} {M : Nat → Prop} {B0 : Bt} {σ : S} {F : Fz} {β : Bt} {a : Act} {w : World}

/-- what the variables that were handed over hold in the end -/
theorem effR_ok (h : Sim N w0 F0 M B0 σ F β a w) : ∀ (ptr : List (Nat × (Nat × Nat))) (Ms : List Hd), ptr.length = Ms.length → (∀ (k : Nat) key s ty m, ptr[k]? = some (key, (s, ty)) → Ms[k]? = some m → s = m.s ∧ ty = m.ty ∧ β key = some ⟨some m.b, 1, m.s⟩) → ((effR ptr).run σ).1 →
    FzList σ ((effR ptr).run σ).2.2 ∧ (∀ (k : Nat) key s ty m, ptr[k]? = some (key, (s, ty)) → Ms[k]? = some m → ∃ o, σ.go (8192 + key) = some (key, o) ∧ o.fz = false ∧ o.var = true) ∧
      ∀ (ws : List (Nat × Obj?)) F' φ, FzList σ ws → (∀ p ∈ ((effR ptr).run σ).2.2, p ∈ ws) → Fsub F F' → Sim N w0 F0 M B0 ⟨σ.e, ws ++ σ.o, σ.n⟩ F' β a w → RichOK F' β w0.heap.size M ⟨σ.e, ws ++ σ.o, σ.n⟩ w φ →
        ∀ (k : Nat) key s ty m, ptr[k]? = some (key, (s, ty)) → Ms[k]? = some m → HdOk F' w ⟨m.b, m.s, m.ty, φ (8192 + key) 0⟩ (((effR ptr).run σ).2.1.getD k .top) ∧ ∃ o, (S.mk σ.e (ws ++ σ.o) σ.n).go (8192 + key) = some (key, o) ∧ o.fz = false
  | [], _, _, _, _ => ⟨FzList.nil σ, fun k key s ty m hk => by simp at hk, fun _ _ _ _ _ _ _ _ k key s ty m hk => by simp at hk⟩
  | _ :: _, [], hl, _, _ => by simp at hl
  | (j, (s, ty)) :: ptr, m :: Ms, hl, hB, hc => by
    simp only [effR, R.run_bind, R.run_pure] at hc ⊢
    obtain ⟨c1, c2⟩ := hc
    obtain ⟨rfl, rfl, hβ⟩ := hB 0 j s ty m rfl rfl
    obtain ⟨f1, o, g1, g2, g3, r1⟩ := retE_ok h hβ rfl ⟨rfl, rfl⟩ c1
    obtain ⟨f2, g4, r2⟩ := effR_ok h ptr Ms (by simpa using hl) (fun k key s ty m' h1 h2 => hB (k + 1) key s ty m' (by simpa using h1) (by simpa using h2)) c2
    refine ⟨f1.append f2, fun k key s ty m' h1 h2 => ?_, fun ws F' φ q1 q2 q3 q4 q5 k key s ty m' h1 h2 => ?_⟩
    · rcases k with _ | k
      · simp only [List.getElem?_cons_zero, Option.some.injEq, Prod.mk.injEq] at h1
        obtain ⟨rfl, _⟩ := h1
        exact ⟨o, g1, g2, g3⟩
      · simp only [List.getElem?_cons_succ] at h1 h2
        exact g4 k key s ty m' h1 h2
    · rcases k with _ | k
      · simp only [List.getElem?_cons_zero, Option.some.injEq, Prod.mk.injEq] at h1 h2
        obtain ⟨rfl, _⟩ := h1
        subst h2
        obtain ⟨z1, z2⟩ := r1 ws F' φ q1 (fun p hp => q2 p (by simp [hp])) q3 q4 q5
        exact ⟨by simpa using z1, o, z2, g2⟩
      · simp only [List.getElem?_cons_succ] at h1 h2
        have := r2 ws F' φ q1 (fun p hp => q2 p (by simp [hp])) q3 q4 q5 k key s ty m' h1 h2
        simpa using this

end

theorem take_get {α : Type} {l : List α} {q i : Nat} {x : α} (h : (l.take q)[i]? = some x) : l[i]? = some x := by
  rw [List.getElem?_take] at h
  split at h
  · exact h
  · cases h

/-- FROM A BODY TO A SPEC. -/
theorem fun_ok {Γ : Specs} (hΓ : ∀ k sp, Γ k = some sp → SpecOk P (k % 4096) sp) {f : Nat} {fn : Func} {c : Code} {sp : Spec} {dc : DCode} {rs : List DRes} (hf : P.funcs[f]? = some fn) (hname : (fn.name == "runtime.NumGoroutine") = false) (hb : fn.body = some c)
    (hc : cCode P fn.ntmps c = some dc) (hr : fn.results.toList.mapM (cRes P) = some rs) {np : Nat} (hnp : np ≤ fn.ntmps) (hpre : ∀ ds, sp.pre ds → ds.length = np ∧ argKeys sp.ptr 0 ds = sp.ptr.map Prod.fst) (hptr : ptrOk sp.ptr = true) (hok : FunOk Γ sp np rs dc) (hni : inplOf sp.kind = none) : SpecOk P f sp := by
  refine ⟨⟨fn, hf, hname, by rw [hb]; rfl⟩, (fun q hq => by rw [hni] at hq; cases hq), fun _ w F ds xs Mb hF hfin hA hp => ?_⟩
  have hlen : ds.length = xs.length := by
    clear hp
    generalize 0 = j at hA
    induction hA with
    | nil => rfl
    | val _ _ _ _ _ _ _ _ _ _ ih => simp [ih]
    | ptr _ _ _ _ _ _ _ _ _ _ ih => simp [ih]
    | clo _ _ _ _ _ _ _ _ _ _ _ _ ih => simp [ih]
  obtain ⟨hdl, hkeys⟩ := hpre ds hp
  obtain ⟨PB, K, hS, hfresh, hnam, hKl, hKf, hKp⟩ := sim_init (N := fn.ntmps) (k := fn.ntmps - xs.length) hF hfin hA (by omega) hptr hkeys
  refine calls_of_wp hf hb ?_
  have e0 : (xs.toArray.size) = xs.length := by simp
  rw [e0]
  obtain ⟨τ0, hchg0, hok0⟩ := hok ds hp ⟨hdl, hkeys⟩
  obtain ⟨F00, B00, hS0, hfresh0⟩ := hS.chg hfresh hchg0
  refine wp_mono (code_sound hΓ c dc hc _ τ0 F00 B00 _ w hS0 hfresh0 hok0) fun e a' w' hq => ?_
  obtain ⟨τ1, F1, β1, k1', kf1, k3⟩ := hq
  have fin0 : ∀ τ F' β', Sim fn.ntmps w F (Wr Mb) PB τ F' β' a' w' → RetOk sp rs ds τ → (a'.defers = [] ∧ ∃ v, (results fn a'.tmps).run P w' = .ok v w' ∧ SpecPost sp w F ds Mb (.returned v) w') := by
    intro τ F' β' k1
    rintro ⟨r1, r2, r3⟩
    have hpl : sp.ptr.length = Mb.length := by
      have := congrArg List.length hKf
      simpa [hKl] using this.symm
    have hnd : (sp.ptr.map Prod.fst).Nodup := by
      simp only [ptrOk, Bool.and_eq_true, decide_eq_true_eq] at hptr
      exact hptr.2
    have hBk : ∀ (k : Nat) key s ty m, sp.ptr[k]? = some (key, (s, ty)) → Mb[k]? = some m → s = m.s ∧ ty = m.ty ∧ β' key = some ⟨some m.b, 1, m.s⟩ := by
      intro k key s ty m h1 h2
      have hkl : k < K.length := by rw [hKl]; exact (List.getElem?_eq_some_iff.1 h2).1
      obtain ⟨⟨key', d⟩, hK⟩ : ∃ p, K[k]? = some p := ⟨_, List.getElem?_eq_getElem hkl⟩
      have e1 : (K.map Prod.fst)[k]? = some key' := by simp [hK]
      have e2 : (sp.ptr.map Prod.fst)[k]? = some key := by simp [h1]
      rw [hKf, e2] at e1
      cases e1
      have hl := hKp k key d m hK h2
      have hl2 : look sp.ptr key = some (s, ty) := by
        cases hq : look sp.ptr key with
        | none => exact absurd (List.mem_of_getElem? h1) (look_none hq _)
        | some y =>
          have hm := look_mem hq
          obtain ⟨k', hk'⟩ := List.getElem?_of_mem hm
          have e3 : (sp.ptr.map Prod.fst)[k']? = some key := by simp [hk']
          have := (List.getElem?_inj (List.getElem?_eq_some_iff.1 e2).1 hnd).1 (e2.trans e3.symm)
          subst this
          rw [h1] at hk'; cases hk'; rfl
      rw [hl2] at hl
      cases hl
      exact ⟨rfl, rfl, k1.nam _ _ (hnam k key d m hK h2)⟩
    obtain ⟨fe, ge, be⟩ := effR_ok k1 sp.ptr Mb hpl hBk r1
    have ending : ∀ (ws : List (Nat × Obj?)) (v : Value) (ρ : Nat → Prop), FzList τ ws → (∀ p ∈ ((effR sp.ptr).run τ).2.2, p ∈ ws) → (∀ F2 φ, Fsub F' F2 → Sim fn.ntmps w F (Wr Mb) PB ⟨τ.e, ws ++ τ.o, τ.n⟩ F2 β' a' w' → RichOK F2 β' w.heap.size (Wr Mb) ⟨τ.e, ws ++ τ.o, τ.n⟩ w' φ → ResOk w F2 w' (sp.res ds) v (fun b => ρ b ∨ (Mb = [] ∧ ∃ g i j, φ g i j b)) sp.kind ∧ (Mb ≠ [] → ∀ g j b, φ g 0 j b → ¬ ρ b)) →
        SpecPost sp w F ds Mb (.returned v) w' := by
      intro ws v ρ hws hsub hres
      obtain ⟨F2, hF2, hS2, _⟩ := k1.freeze hws
      obtain ⟨φ, hφ⟩ := hS2.rich
      obtain ⟨q1, q2⟩ := hres F2 φ hF2 hS2 hφ
      have hbe := be ws F2 φ hws hsub hF2 hS2 hφ
      have hpk : ∀ (k : Nat) m, Mb[k]? = some m → ∃ key s ty, sp.ptr[k]? = some (key, (s, ty)) := by
        intro k m hk
        have hlt : k < sp.ptr.length := by rw [hpl]; exact (List.getElem?_eq_some_iff.1 hk).1
        exact ⟨_, _, _, List.getElem?_eq_getElem hlt⟩
      refine ⟨v, F2, fun k j b => ∃ key st m, sp.ptr[k]? = some (key, st) ∧ Mb[k]? = some m ∧ φ (8192 + key) 0 j b, _, rfl, hS2.frz, hS2.fin, hS2.step, q1, ?_, ?_⟩
      · rw [← r2]
        refine ⟨fun k m hk => ?_, fun k j b ⟨key, st, m, h1, h2, _⟩ => (List.getElem?_eq_some_iff.1 h2).1, fun k j b ⟨key, st, m, h1, h2, h3⟩ => hφ.new _ _ _ _ h3, fun k j k' j' b ⟨key, st, m, h1, h2, h3⟩ ⟨key', st', m', h1', h2', h3'⟩ => ?_, fun k j b m ⟨key, st, m1, h1, h2, h3⟩ hm e => ?_⟩
        · obtain ⟨key, s, ty, hp⟩ := hpk k m hk
          have hz := (hbe k key s ty m hp hk).1
          refine ⟨hz.var, hz.none_, hz.lt, ?_, ?_, ?_, ?_, ?_, hz.hole⟩
          · rintro j b ⟨key', st, m', h1, h2, h3⟩
            rw [hp] at h1; cases h1
            exact hz.fno j b h3
          · rintro j b ⟨key', st, m', h1, h2, h3⟩
            rw [hp] at h1; cases h1
            exact hz.flt j b h3
          · rintro j b ⟨key', st, m', h1, h2, h3⟩
            rw [hp] at h1; cases h1
            exact hz.fne j b h3
          · rintro j j' b ⟨key', st, m', h1, h2, h3⟩ ⟨key'', st', m'', h1', h2', h3'⟩
            rw [hp] at h1; cases h1
            rw [hp] at h1'; cases h1'
            exact hz.dis j j' b h3 h3'
          · intro C j x s' ty' es hC hj hx
            exact (hz.row C j x s' ty' es hC hj hx).keep (Fsub.refl _) (fun _ _ => rfl) (fun b hb => ⟨key, (s, ty), m, hp, hk, hb⟩)
        · have hkk := (hφ.dis _ _ _ _ _ _ _ h3 h3').1
          have : key = key' := by omega
          subst this
          have e2 : (sp.ptr.map Prod.fst)[k]? = some key := by simp [h1]
          have e3 : (sp.ptr.map Prod.fst)[k']? = some key := by simp [h1']
          exact (List.getElem?_inj (List.getElem?_eq_some_iff.1 e2).1 hnd).1 (e2.trans e3.symm)
        · obtain ⟨k', hk'⟩ := List.getElem?_of_mem hm
          obtain ⟨key', s', ty', hp'⟩ := hpk k' m hk'
          obtain ⟨_, o', z1, z2⟩ := hbe k' key' s' ty' m hp' hk'
          obtain ⟨_, _, hβ⟩ := hBk k' key' s' ty' m hp' hk'
          subst e
          exact hφ.sep _ _ _ _ _ _ _ _ h3 z1 z2 hβ rfl
      · rintro k j b ⟨key, st, m, h1, h2, h3⟩ (hρ | ⟨hM0, _⟩)
        · exact q2 (fun e => by rw [e] at h2; simp at h2) _ _ _ h3 hρ
        · rw [hM0] at h2; simp at h2
    refine ⟨k1.defers, ?_⟩
    have one : (sp.kind = .val ∨ sp.kind = .ground) → ∀ r, rs = [r] → ((retV r).run τ).1 → ((retV r).run τ).2.1 = sp.res ds → ∃ v, (results fn a'.tmps).run P w' = .ok v w' ∧ SpecPost sp w F ds Mb (.returned v) w' := by
      rintro hk r rfl c1 c2
      simp only [retV, R.run_bind, R.run_pure] at c1 c2
      obtain ⟨d1, d2⟩ := c1
      obtain ⟨vs, v1, v2, v3⟩ := results_run (P := P) k1 hr (fun r' hr' => by simp only [List.mem_singleton] at hr'; subst hr'; exact d1)
      have hl1 : vs.length = 1 := v2
      rw [dif_pos hl1] at v1
      refine ⟨_, v1, ?_⟩
      have hval := v3 0 r vs[0] rfl (List.getElem?_eq_getElem (by omega))
      obtain ⟨f1, g1⟩ := res_ok k1 _ hval d2
      refine ending (((res ((resR r).run τ).2).run τ).2.2 ++ ((effR sp.ptr).run τ).2.2) _ (fun _ => False) (f1.append fe) (fun p hp => by simp [hp]) (fun F2 φ hF2 hS2 _ => ⟨?_, fun _ _ _ _ _ => id⟩)
      have := g1 _ F2 (f1.append fe) (fun p hp => by simp [hp]) hF2 hS2
      rw [c2] at this
      rcases hk with hk | hk <;> (rw [hk]; exact this)
    have many : (sp.kind = .val ∨ sp.kind = .ground) → ((retVs rs).run τ).1 → .tup ((retVs rs).run τ).2.1 = sp.res ds → rs.length ≠ 1 → ∃ v, (results fn a'.tmps).run P w' = .ok v w' ∧ SpecPost sp w F ds Mb (.returned v) w' := by
      intro hk c1 c2 c3
      obtain ⟨vs, v1, v2, v3⟩ := results_run (P := P) k1 hr (retVs_conds rs c1)
      have hl1 : ¬ vs.length = 1 := by rw [v2]; exact c3
      rw [dif_neg hl1] at v1
      refine ⟨_, v1, ?_⟩
      obtain ⟨f1, l1, g1⟩ := retVs_ok k1 rs vs v2.symm (fun i r v h1 h2 _ => v3 i r v h1 h2) c1
      refine ending (((retVs rs).run τ).2.2 ++ ((effR sp.ptr).run τ).2.2) _ (fun _ => False) (f1.append fe) (fun p hp => by simp [hp]) (fun F2 φ hF2 hS2 _ => ⟨?_, fun _ _ _ _ _ => id⟩)
      have hh := g1 _ F2 (f1.append fe) (fun p hp => by simp [hp]) hF2 hS2
      have : Fro F2 (sp.res ds) (.tuple vs.toArray) := by
        rw [← c2]
        exact .tup _ vs l1 hh
      rcases hk with hk | hk <;> (rw [hk]; exact this)
    cases hk : sp.kind with
    | inpl r fl fk => rw [hk] at hni; cases hni
    | val =>
      rw [hk] at r3
      match rs, r3, one, many with
      | [r], r3, one, _ => exact one (.inl hk) r rfl r3.1 r3.2
      | [], r3, _, many => exact many (.inl hk) r3.1 r3.2.1 r3.2.2
      | _ :: _ :: _, r3, _, many => exact many (.inl hk) r3.1 r3.2.1 r3.2.2
    | ground =>
      rw [hk] at r3
      match rs, r3, one, many with
      | [r], r3, one, _ => exact one (.inr hk) r rfl r3.1 r3.2
      | [], r3, _, many => exact many (.inr hk) r3.1 r3.2.1 r3.2.2
      | _ :: _ :: _, r3, _, many => exact many (.inr hk) r3.1 r3.2.1 r3.2.2
    | row s ty =>
      rw [hk] at r3
      match rs, r3, hr with
      | [r], ⟨d1, d2, d3, d4⟩, hr =>
        obtain ⟨vs, v1, v2, v3⟩ := results_run (P := P) k1 hr (fun r' hr' => by simp only [List.mem_singleton] at hr'; subst hr'; exact d1)
        have hl1 : vs.length = 1 := v2
        rw [dif_pos hl1] at v1
        refine ⟨_, v1, ?_⟩
        have hval := v3 0 r vs[0] rfl (List.getElem?_eq_getElem (by omega))
        obtain ⟨es, L, g, v, o, g1, g2, n1, n2, n3, n4, n5, n6, n7, g3⟩ := retS_ok k1 hval d2
        refine ending _ _ (fun b => L.b = some b) fe (fun p hp => hp) (fun F2 φ hF2 hS2 hφ => ?_)
        obtain ⟨g4, g6, g5⟩ := g3 _ F2 d4 hF2 hS2
        rw [hk]
        refine ⟨⟨es, L, d3.symm.trans g1, g2, g4, fun b hb => ⟨((g5 b hb).1).resolve_right (fun z => by cases z.1), (g5 b hb).2.1, (g5 b hb).2.2, .inl hb⟩⟩, fun _ g' j b hb hLb => ?_⟩
        exact hφ.sep g' 0 j b g v o L hb g6 n2 n5 hLb
      | [], r3, _ => exact r3.elim
      | _ :: _ :: _, r3, _ => exact r3.elim
    | mat s ty =>
      rw [hk] at r3
      match rs, r3, hr with
      | [r], ⟨d1, d2, d3, d4⟩, hr =>
        obtain ⟨vs, v1, v2, v3⟩ := results_run (P := P) k1 hr (fun r' hr' => by simp only [List.mem_singleton] at hr'; subst hr'; exact d1)
        have hl1 : vs.length = 1 := v2
        rw [dif_pos hl1] at v1
        refine ⟨_, v1, ?_⟩
        have hval := v3 0 r vs[0] rfl (List.getElem?_eq_getElem (by omega))
        have hM0 : Mb = [] := args_noptr d4 hA
        have hpe : (effR sp.ptr).run τ = (True, [], []) := by rw [d4]; rfl
        obtain ⟨es, L, g, v, o, g1, g2, n1, n2, n3, n4, n5, ⟨n0, rfl⟩, n7, g3⟩ := retS_ok k1 hval d2
        refine ending [] _ (fun b => L.b = some b) (FzList.nil _) (fun p hp => by rw [hpe] at hp; cases hp) (fun F2 φ hF2 hS2 hφ => ?_)
        obtain ⟨g4, g6, g5⟩ := g3 [] F2 (by simp) hF2 hS2
        have hidx : ∀ (i : Nat) e, (o.es.take n0)[i]? = some e → o.es[i]? = some e := fun i e he => take_get he
        have hnew : ∀ b, w.heap.size ≤ b ∨ Wr Mb b → w.heap.size ≤ b := by
          rintro b (hb | ⟨m, hm, _⟩)
          · exact hb
          · rw [hM0] at hm; cases hm
        rw [hk]
        refine ⟨⟨_, L, fun i j b => φ g i j b, d3.symm.trans g1, g2, g4, fun b hb => ⟨hnew b ((g5 b hb).1.imp id And.right), (g5 b hb).2.1, (g5 b hb).2.2, .inl hb⟩, fun i j b hb => ⟨hnew b (hφ.new _ _ _ _ hb), hφ.lt _ _ _ _ hb, hφ.none_ _ _ _ _ hb, .inr ⟨hM0, g, i, j, hb⟩, hφ.sep g i j b g v o L hb g6 n2 n5⟩,
          fun i j i' j' b h1 h2 => (hφ.dis _ _ _ _ _ _ _ h1 h2).2, fun b C i j e x s' ty' es' hb hC he hj hx => hφ.row g v o L b C i j e x s' ty' es' n1 g6 n2 n5 hb (by rw [n4]; exact hC) (hidx i e he) hj (by rw [n3]; exact hx), fun i j e u n he hj => n7 rfl e (List.mem_of_getElem? (hidx i e he)) _ (List.mem_of_getElem? hj) u n rfl⟩, fun hne => absurd hM0 hne⟩
      | [], r3, _ => exact r3.elim
      | _ :: _ :: _, r3, _ => exact r3.elim
    | ptr s ty =>
      rw [hk] at r3
      match rs, r3, hr with
      | [r], ⟨d1, d2, d3, d4⟩, hr =>
        obtain ⟨vs, v1, v2, v3⟩ := results_run (P := P) k1 hr (fun r' hr' => by simp only [List.mem_singleton] at hr'; subst hr'; exact d1)
        have hl1 : vs.length = 1 := v2
        rw [dif_pos hl1] at v1
        refine ⟨_, v1, ?_⟩
        have hval := v3 0 r vs[0] rfl (List.getElem?_eq_getElem (by omega))
        obtain ⟨f1, g, v, o, b, g1, g2, g3, g4, g5, g6, g7⟩ := retP_ok k1 hval d2
        refine ending (((retP s ty ((resR r).run τ).2).run τ).2.2.1 ++ ((effR sp.ptr).run τ).2.2) _ (fun b' => b' = b) (f1.append fe) (fun p hp => by simp [hp]) (fun F2 φ hF2 hS2 _ => ⟨?_, fun hne => absurd (args_noptr d4 hA) hne⟩)
        obtain ⟨z1, z2, z3, z4⟩ := g7 _ F2 (f1.append fe) (fun p hp => by simp [hp]) hF2 hS2
        rw [hk]
        refine ⟨b, g6, by rw [← d3]; exact z1, ?_, z3, z2, .inl rfl⟩
        rcases z4 with z4 | ⟨m, hm, _⟩
        · exact z4
        · rw [args_noptr d4 hA] at hm; cases hm
      | [], r3, _ => exact r3.elim
      | _ :: _ :: _, r3, _ => exact r3.elim
    | tupPtr q s ty =>
      rw [hk] at r3
      have r3' : q < rs.length ∧ rs.length ≠ 1 ∧ sp.ptr = [] ∧ ((retVs (rs.take q)).run τ).1 ∧ ((retVs (rs.drop (q + 1))).run τ).1 ∧ ((resR (rs.getD q (.t 0))).run τ).1 ∧ ((retP s ty ((resR (rs.getD q (.t 0))).run τ).2).run τ).1 ∧
          .tup (((retVs (rs.take q)).run τ).2.1 ++ ((retP s ty ((resR (rs.getD q (.t 0))).run τ).2).run τ).2.1 :: ((retVs (rs.drop (q + 1))).run τ).2.1) = sp.res ds := by
        cases rs with
        | nil => exact r3
        | cons r0 rs => cases rs <;> exact r3
      obtain ⟨t1, t2, t3, t4, t5, t6, t7, t8⟩ := r3'
      have hq : rs[q]? = some (rs.getD q (.t 0)) := by simp [t1]
      generalize rs.getD q (.t 0) = rq at *
      have hsplit : rs = rs.take q ++ rq :: rs.drop (q + 1) := by
        obtain ⟨hl, he⟩ := List.getElem?_eq_some_iff.1 hq
        rw [← he, ← List.drop_eq_getElem_cons hl, List.take_append_drop]
      have conds : ∀ r ∈ rs, ((resR r).run τ).1 := by
        intro r hr'
        rw [hsplit, List.mem_append, List.mem_cons] at hr'
        rcases hr' with h1 | rfl | h1
        · exact retVs_conds _ t4 r h1
        · exact t6
        · exact retVs_conds _ t5 r h1
      obtain ⟨vs, v1, v2, v3⟩ := results_run (P := P) k1 hr conds
      rw [dif_neg (by rw [v2]; exact t2)] at v1
      refine ⟨_, v1, ?_⟩
      have hvl : q < vs.length := by omega
      have hvq : vs[q]? = some vs[q] := List.getElem?_eq_getElem hvl
      obtain ⟨fP, g, v, o, b, g1, g2, g3, g4, g5, g6, g7⟩ := retP_ok k1 (v3 q rq vs[q] hq hvq) t7
      obtain ⟨fA, lA, gA⟩ := retVs_ok k1 (rs.take q) (vs.take q) (by simp [v2]) (fun i r v h1 h2 _ => v3 i r v (take_get h1) (take_get h2)) t4
      obtain ⟨fB, lB, gB⟩ := retVs_ok k1 (rs.drop (q + 1)) (vs.drop (q + 1)) (by simp [v2]) (fun i r v h1 h2 _ => v3 (q + 1 + i) r v (by rw [← List.getElem?_drop]; exact h1) (by rw [← List.getElem?_drop]; exact h2)) t5
      refine ending (((retVs (rs.take q)).run τ).2.2 ++ (((retP s ty ((resR rq).run τ).2).run τ).2.2.1 ++ (((retVs (rs.drop (q + 1))).run τ).2.2 ++ ((effR sp.ptr).run τ).2.2))) _ (fun b' => b' = b) (fA.append (fP.append (fB.append fe))) (fun p hp => by simp [hp]) (fun F2 φ hF2 hS2 _ => ⟨?_, fun hne => absurd (args_noptr t3 hA) hne⟩)
      have hws := fA.append (fP.append (fB.append fe))
      obtain ⟨z1, z2, z3, z4⟩ := g7 _ F2 hws (fun p hp => by simp [hp]) hF2 hS2
      have zA := gA _ F2 hws (fun p hp => by simp [hp]) hF2 hS2
      have zB := gB _ F2 hws (fun p hp => by simp [hp]) hF2 hS2
      have lA' : ((retVs (rs.take q)).run τ).2.1.length = q := by rw [lA]; simp; omega
      rw [hk]
      refine ⟨_, vs, b, t8.symm, rfl, ?_, ?_, ?_, ?_, ?_, z3, z2, .inl rfl⟩
      · simp only [List.length_append, List.length_cons, lA', lB, List.length_drop]; omega
      · intro j c x hj hc hx
        rcases Nat.lt_trichotomy j q with h1 | h1 | h1
        · rw [List.getElem?_append_left (by omega)] at hc
          exact zA j c x hc (by rw [List.getElem?_take]; simp [h1, hx])
        · exact absurd h1 hj
        · obtain ⟨i, rfl⟩ : ∃ i, j = q + 1 + i := ⟨j - (q + 1), by omega⟩
          rw [List.getElem?_append_right (by omega), lA', show q + 1 + i - q = i + 1 by omega, List.getElem?_cons_succ] at hc
          exact zB i c x hc (by rw [List.getElem?_drop]; exact hx)
      · rw [hvq, g6]
      · rw [List.getD_eq_getElem?_getD, List.getElem?_append_right (by omega), lA', Nat.sub_self]
        exact z1
      · rcases z4 with z4 | ⟨m, hm, _⟩
        · exact z4
        · rw [args_noptr t3 hA] at hm; cases hm
  have fin : Wk (RetOk sp rs ds) τ1 → (a'.defers = [] ∧ ∃ v, (results fn a'.tmps).run P w' = .ok v w' ∧ SpecPost sp w F ds Mb (.returned v) w') := by
    rintro ⟨τ, hc1, hr1⟩
    obtain ⟨F', β', k1, _⟩ := k1'.chg kf1 hc1
    exact fin0 τ F' β' k1 hr1
  cases e with
  | normal => exact fin k3
  | ret => exact fin k3
  | exit id => exact k3.elim
  | goto l => exact k3.elim
  | panic ch => exact k3.elim
  | outgrown => exact k3.elim

end
end Go.Dw
