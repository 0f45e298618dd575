/-
  THE LAYER: symbolic semantics of compiled code, and programs on typed data.
-/
import Derived.Test.YtcelninhkmhjkaaDoorDb
import Derived.KernelRfl
import Derived.ProofKit
import Derived.OpenShut
import Derived.Deep.Strs
import Derived.Sort.Row
import Derived.Sort.Grow
import Derived.Lib.SlicesCompact
import Derived.Shelf.Spec.TrailingZeros
import Derived.LaidMore
import Derived.MakeChecks
import Derived.Lib.TrailingZeros
namespace Go.Dw

section
variable {N : Nat} {P : Program}

/-- an object of the start -/
def ini (p : (Nat × D) × Hd) : Nat × Obj? := (8192 + p.1.1, some (p.1.1, ⟨false, true, p.2.s, p.2.ty, [p.1.2]⟩))

/-- what is handed over, with its places -/
structure Ini (F : Fz) (w : World) (ptr : List (Nat × (Nat × Nat))) (O : List (Nat × Obj?)) (keys : List Nat) (Mb : List Hd) (K : List (Nat × D)) : Prop where
  len : K.length = Mb.length
  keys : K.map Prod.fst = keys
  obj : O = (K.zip Mb).map ini
  ok : ∀ (k : Nat) key d m, K[k]? = some (key, d) → Mb[k]? = some m → HdOk F w m d ∧ look ptr key = some (m.s, m.ty)
  apart : ∀ (k k' : Nat) m m', k < k' → Mb[k]? = some m → Mb[k']? = some m' → Apart m m'
/-- names for what is handed over -/
def Nam (K : List (Nat × D)) (Mb : List Hd) (PB : Bt) : Prop := ∀ (k : Nat) key d m, K[k]? = some (key, d) → Mb[k]? = some m → PB key = some ⟨some m.b, 1, m.s⟩

theorem Nam.cons {K : List (Nat × D)} {Mb : List Hd} {p : Nat × D} {m : Hd} {PB : Bt} (h : Nam (p :: K) (m :: Mb) PB) : PB p.1 = some ⟨some m.b, 1, m.s⟩ ∧ Nam K Mb PB :=
  ⟨h 0 p.1 p.2 m rfl rfl, fun k key d m' h1 h2 => h (k + 1) key d m' (by simpa using h1) (by simpa using h2)⟩
theorem Nam.append {K1 K2 : List (Nat × D)} {M1 M2 : List Hd} {PB : Bt} (hl : K1.length = M1.length) (h : Nam (K1 ++ K2) (M1 ++ M2) PB) : Nam K1 M1 PB ∧ Nam K2 M2 PB := by
  refine ⟨fun k key d m h1 h2 => h k key d m ?_ ?_, fun k key d m h1 h2 => h (K1.length + k) key d m ?_ ?_⟩
  · rw [List.getElem?_append_left (List.getElem?_eq_some_iff.1 h1).1]; exact h1
  · rw [List.getElem?_append_left (List.getElem?_eq_some_iff.1 h2).1]; exact h2
  · rw [List.getElem?_append_right (by omega)]; simpa using h1
  · rw [List.getElem?_append_right (by omega), show K1.length + k - M1.length = k by omega]; exact h2

theorem Ini.nil {F : Fz} {w : World} {ptr : List (Nat × (Nat × Nat))} : Ini F w ptr [] [] [] [] := ⟨rfl, rfl, rfl, fun k key d m h => by simp at h, fun k k' m m' _ h => by simp at h⟩
theorem Ini.cons {F : Fz} {w : World} {ptr : List (Nat × (Nat × Nat))} {O : List (Nat × Obj?)} {keys : List Nat} {Mb : List Hd} {K : List (Nat × D)} (h : Ini F w ptr O keys Mb K) {j : Nat} {d : D} {m : Hd} (hp : look ptr j = some (m.s, m.ty)) (hd : HdOk F w m d) (hM : ∀ m' ∈ Mb, Apart m m') :
    Ini F w ptr ((8192 + j, some (j, ⟨false, true, m.s, m.ty, [d]⟩)) :: O) (j :: keys) (m :: Mb) ((j, d) :: K) := by
  refine ⟨by simp [h.len], by simp [h.keys], by simp [h.obj, ini], fun k key d' m' h1 h2 => ?_, fun k k' m1 m2 hlt h1 h2 => ?_⟩
  · rcases k with _ | k
    · simp only [List.getElem?_cons_zero, Option.some.injEq, Prod.mk.injEq] at h1 h2
      obtain ⟨rfl, rfl⟩ := h1
      subst h2
      exact ⟨hd, hp⟩
    · simp only [List.getElem?_cons_succ] at h1 h2
      exact h.ok k key d' m' h1 h2
  · rcases k' with _ | k'
    · omega
    · simp only [List.getElem?_cons_succ] at h2
      rcases k with _ | k
      · simp only [List.getElem?_cons_zero, Option.some.injEq] at h1
        subst h1
        exact hM m2 (List.mem_of_getElem? h2)
      · simp only [List.getElem?_cons_succ] at h1
        exact h.apart k k' m1 m2 (by omega) h1 h2
theorem Ini.append {F : Fz} {w : World} {ptr : List (Nat × (Nat × Nat))} {O1 O2 : List (Nat × Obj?)} {k1 k2 : List Nat} {M1 M2 : List Hd} {K1 K2 : List (Nat × D)} (h1 : Ini F w ptr O1 k1 M1 K1) (h2 : Ini F w ptr O2 k2 M2 K2) (hM : ∀ m ∈ M1, ∀ m' ∈ M2, Apart m m') :
    Ini F w ptr (O1 ++ O2) (k1 ++ k2) (M1 ++ M2) (K1 ++ K2) := by
  refine ⟨by simp [h1.len, h2.len], by simp [h1.keys, h2.keys], by rw [h1.obj, h2.obj, List.zip_append h1.len, List.map_append], fun k key d m q1 q2 => ?_, fun k k' m m' hlt q1 q2 => ?_⟩
  · by_cases hk : k < K1.length
    · rw [List.getElem?_append_left hk] at q1
      rw [List.getElem?_append_left (by rw [← h1.len]; exact hk)] at q2
      exact h1.ok k key d m q1 q2
    · rw [List.getElem?_append_right (by omega)] at q1
      rw [List.getElem?_append_right (by rw [← h1.len]; omega), ← h1.len] at q2
      exact h2.ok _ key d m q1 q2
  · by_cases hk : k' < M1.length
    · rw [List.getElem?_append_left (by omega)] at q1
      rw [List.getElem?_append_left hk] at q2
      exact h1.apart k k' m m' hlt q1 q2
    · rw [List.getElem?_append_right (by omega)] at q2
      by_cases hk2 : k < M1.length
      · rw [List.getElem?_append_left hk2] at q1
        exact hM m (List.mem_of_getElem? q1) m' (List.mem_of_getElem? q2)
      · rw [List.getElem?_append_right (by omega)] at q1
        exact h2.apart _ _ m m' (by omega) q1 q2

theorem caps_ini {F : Fz} {w : World} {ptr : List (Nat × (Nat × Nat))} {j : Nat} {ds : List D} {xs : List Value} {Mb : List Hd} (h : CapsOk F w ptr j ds xs Mb) :
    ∃ K, Ini F w ptr (capO ptr j ds) (capKeys ptr j ds) Mb K ∧ (initC ptr j ds).length = xs.length ∧ ∀ PB, Nam K Mb PB → ∀ (q : Nat) d x, (initC ptr j ds)[q]? = some d → xs[q]? = some x → Ref F PB d x := by
  induction h with
  | nil j => exact ⟨[], Ini.nil, rfl, fun PB _ q d x hq => by simp [initC] at hq⟩
  | val j d ds x xs M hp hx _ ih =>
    obtain ⟨K, k1, k2, k3⟩ := ih
    refine ⟨K, by simpa [capO, capKeys, hp] using k1, by simp [initC, k2], fun PB hPB q d' x' hq hx' => ?_⟩
    simp only [initC, hp] at hq
    rcases q with _ | q
    · simp only [List.getElem?_cons_zero, Option.some.injEq] at hq hx'
      subst hq; subst hx'
      exact Ref.of_fro hx
    · simp only [List.getElem?_cons_succ] at hq hx'
      exact k3 PB hPB q d' x' hq hx'
  | ptr j d ds xs M m hp hd hM _ ih =>
    obtain ⟨K, k1, k2, k3⟩ := ih
    refine ⟨(j, d) :: K, by simpa [capO, capKeys, hp] using k1.cons hp hd hM, by simp [initC, k2], fun PB hPB q d' x' hq hx' => ?_⟩
    obtain ⟨n1, n2⟩ := hPB.cons
    simp only [initC, hp] at hq
    rcases q with _ | q
    · simp only [List.getElem?_cons_zero, Option.some.injEq] at hq hx'
      subst hq; subst hx'
      exact ⟨_, m.b, n1, rfl, by simp⟩
    · simp only [List.getElem?_cons_succ] at hq hx'
      exact k3 PB n2 q d' x' hq hx'

theorem args_ini {F : Fz} {w : World} {ptr : List (Nat × (Nat × Nat))} {j : Nat} {ds : List D} {xs : List Value} {Mb : List Hd} (h : ArgsOk F w ptr j ds xs Mb) :
    ∃ K, Ini F w ptr (initO ptr j ds) (argKeys ptr j ds) Mb K ∧ ∀ PB, Nam K Mb PB → ∀ t d, look (initE ptr j ds) t = some d → ∃ x, j ≤ t ∧ xs[t - j]? = some x ∧ Env F PB d x := by
  have tail : ∀ {j : Nat} {d0 : D} {ds : List D} {x0 : Value} {xs : List Value} {PB : Bt}, Env F PB (initD ptr j d0) x0 → (∀ t d, look (initE ptr (j + 1) ds) t = some d → ∃ x, j + 1 ≤ t ∧ xs[t - (j + 1)]? = some x ∧ Env F PB d x) →
      ∀ t d, look (initE ptr j (d0 :: ds)) t = some d → ∃ x, j ≤ t ∧ (x0 :: xs)[t - j]? = some x ∧ Env F PB d x := by
    intro j d0 ds x0 xs PB h0 hr t d ht
    simp only [initE, look] at ht
    split at ht
    · rename_i e
      cases ht
      subst e
      exact ⟨x0, Nat.le_refl _, by simp, h0⟩
    · obtain ⟨x', q1, q2, q3⟩ := hr t d ht
      refine ⟨x', by omega, ?_, q3⟩
      rw [show t - j = (t - (j + 1)) + 1 by omega, List.getElem?_cons_succ]
      exact q2
  induction h with
  | nil j => exact ⟨[], Ini.nil, fun PB _ t d ht => by simp [initE, look] at ht⟩
  | val j d ds x xs M hp hn hx _ ih =>
    obtain ⟨K, k1, k3⟩ := ih
    have hm : initO ptr j (d :: ds) = initO ptr (j + 1) ds ∧ argKeys ptr j (d :: ds) = argKeys ptr (j + 1) ds ∧ initD ptr j d = d := by
      cases d <;> first | exact (hn _ _ rfl).elim | (refine ⟨?_, ?_, ?_⟩ <;> simp [initO, argKeys, initD, hp])
    obtain ⟨m1, m2, m3⟩ := hm
    rw [m1, m2]
    exact ⟨K, k1, fun PB hPB => tail (by rw [m3]; exact Env.of_fro hx) (k3 PB hPB)⟩
  | ptr j d ds xs M m hp hd hM _ ih =>
    obtain ⟨K, k1, k3⟩ := ih
    refine ⟨(j, d) :: K, by simpa [initO, argKeys, hp] using k1.cons hp hd hM, fun PB hPB => ?_⟩
    obtain ⟨n1, n2⟩ := hPB.cons
    exact tail (by simp only [initD, hp]; exact ⟨_, m.b, n1, rfl, by simp⟩) (k3 PB n2)
  | clo j f caps vs ds xs M1 M2 hp hc hM _ ih =>
    obtain ⟨K, k1, k3⟩ := ih
    obtain ⟨K1, c1, c2, c3⟩ := caps_ini hc
    refine ⟨K1 ++ K, by simpa [initO, argKeys, hp] using c1.append k1 hM, fun PB hPB => ?_⟩
    obtain ⟨n1, n2⟩ := hPB.append c1.len
    exact tail (by simp only [initD, hp]; exact ⟨vs, rfl, c2, c3 PB n1⟩) (k3 PB n2)

theorem sim_init {sp : Spec} {F : Fz} {w : World} {ds : List D} {xs : List Value} {Mb : List Hd} (hF : Fok F w) (hfin : ∀ b i x, F b i = some x → b < w.heap.size) (h : ArgsOk F w sp.ptr 0 ds xs Mb) {k : Nat} (hN : xs.length + k = N)
    (hok : ptrOk sp.ptr = true) (hkeys : argKeys sp.ptr 0 ds = sp.ptr.map Prod.fst) :
    ∃ (PB : Bt) (K : List (Nat × D)), Sim N w F (Wr Mb) PB (initS sp ds) F PB { tmps := xs.toArray ++ Array.replicate k undef, defers := [] } w ∧ (∀ v, 262144 ≤ v → PB v = none) ∧ Nam K Mb PB ∧ K.length = Mb.length ∧ K.map Prod.fst = sp.ptr.map Prod.fst ∧
      ∀ (i : Nat) key d m, K[i]? = some (key, d) → Mb[i]? = some m → look sp.ptr key = some (m.s, m.ty) := by
  obtain ⟨K, hI, hE⟩ := args_ini h
  simp only [ptrOk, Bool.and_eq_true, decide_eq_true_eq] at hok
  obtain ⟨hlt, hnd⟩ := hok
  have hKn : (K.map Prod.fst).Nodup := by rw [hI.keys, hkeys]; exact hnd
  have hzl : (K.zip Mb).length = K.length := by simp [hI.len]
  -- each place has one entry
  have huk : ∀ (i i' : Nat) key d d', K[i]? = some (key, d) → K[i']? = some (key, d') → i = i' := by
    intro i i' key d d' h1 h2
    have e1 : (K.map Prod.fst)[i]? = some key := by simp [h1]
    have e2 : (K.map Prod.fst)[i']? = some key := by simp [h2]
    have l1 := (List.getElem?_eq_some_iff.1 e1).1
    exact (List.getElem?_inj l1 hKn).1 (e1.trans e2.symm)
  let PB : Bt := fun v => ((K.zip Mb).find? fun p => p.1.1 == v).map fun p => ⟨some p.2.b, 1, p.2.s⟩
  have hPB : ∀ v L, PB v = some L → ∃ (i : Nat) (d : D) (m : Hd), K[i]? = some (v, d) ∧ Mb[i]? = some m ∧ L = ⟨some m.b, 1, m.s⟩ := by
    intro v L hv
    simp only [PB, Option.map_eq_some_iff] at hv
    obtain ⟨⟨⟨key, d⟩, m⟩, h1, rfl⟩ := hv
    have hk := List.find?_some h1
    simp only [beq_iff_eq] at hk
    subst hk
    obtain ⟨i, hi⟩ := List.getElem?_of_mem (List.mem_of_find?_eq_some h1)
    rw [List.getElem?_zip_eq_some] at hi
    exact ⟨i, d, m, hi.1, hi.2, rfl⟩
  have hnam : Nam K Mb PB := by
    intro i key d m h1 h2
    have hm : ((key, d), m) ∈ K.zip Mb := List.mem_of_getElem? (i := i) (by rw [List.getElem?_zip_eq_some]; exact ⟨h1, h2⟩)
    cases hf : (K.zip Mb).find? fun p => p.1.1 == key with
    | none =>
      have := List.find?_eq_none.1 hf _ hm
      simp at this
    | some p =>
      have hv : PB key = some ⟨some p.2.b, 1, p.2.s⟩ := by simp only [PB, hf]; rfl
      obtain ⟨i', d', m', q1, q2, q3⟩ := hPB key _ hv
      have := huk i i' key d d' h1 q1
      subst this
      rw [h2] at q2; cases q2
      rw [hv, q3]
  have hgo : ∀ g v o, (initS sp ds).go g = some (v, o) → ∃ (i : Nat) (d : D) (m : Hd), K[i]? = some (v, d) ∧ Mb[i]? = some m ∧ g = 8192 + v ∧ o = ⟨false, true, m.s, m.ty, [d]⟩ := by
    intro g v o hg
    simp only [S.go, initS] at hg
    cases hl : look (initO sp.ptr 0 ds) g with
    | none => rw [hl] at hg; cases hg
    | some y =>
      rw [hl] at hg
      simp only [Option.getD_some] at hg
      subst hg
      have hm := look_mem hl
      rw [hI.obj, List.mem_map] at hm
      obtain ⟨⟨⟨key, d⟩, m⟩, h1, h2⟩ := hm
      obtain ⟨i, hi⟩ := List.getElem?_of_mem h1
      rw [List.getElem?_zip_eq_some] at hi
      simp only [ini, Prod.mk.injEq, Option.some.injEq] at h2
      obtain ⟨rfl, rfl, rfl⟩ := h2
      exact ⟨i, d, m, hi.1, hi.2, rfl, rfl⟩
  have hap : ∀ (i i' : Nat) m m' b, Mb[i]? = some m → Mb[i']? = some m' → m.own b → m'.own b → i = i' := by
    intro i i' m m' b h1 h2 h3 h4
    rcases Nat.lt_trichotomy i i' with hl | hl | hl
    · exact (hI.apart i i' m m' hl h1 h2 b h3 h4).elim
    · exact hl
    · exact (hI.apart i' i m' m hl h2 h1 b h4 h3).elim
  refine ⟨PB, K, ?_, ?_, hnam, hI.len, by rw [hI.keys, hkeys], fun i key d m h1 h2 => (hI.ok i key d m h1 h2).2⟩
  · refine { nam := Bsub.refl _, size := by simp [hN], defers := rfl, env := fun t => ?_, own := ?_, dist := ?_, sep := ?_, rich := ?_, frz := hF, fin := hfin, step := Stp.refl _ _ _ }
    · simp only [S.ge, initS]
      cases hl : look (initE sp.ptr 0 ds) t with
      | none => exact Env.top _
      | some d =>
        obtain ⟨x, _, q2, q3⟩ := hE PB hnam t d hl
        simp only [Nat.sub_zero] at q2
        have hlt : t < xs.length := (List.getElem?_eq_some_iff.1 q2).1
        have : (xs.toArray ++ Array.replicate k undef).getD t undef = x := by
          rw [Array.getD_eq_getD_getElem?, Array.getElem?_append_left (by simpa using hlt)]
          simp [q2]
        simp only [Option.getD_some, this]
        exact q3
    · intro g v o hg
      obtain ⟨i, d, m, h1, h2, rfl, rfl⟩ := hgo g v o hg
      exact ⟨_, hnam i v d m h1 h2, fun e => (by cases e), fun _ => (hI.ok i v d m h1 h2).1.var.keep (Fsub.refl _) (noB_sub _) (fun _ _ => rfl)⟩
    · intro g g' v v' o o' L L' b hg hg' _ _ hL hL' hb hb'
      obtain ⟨i, d, m, h1, h2, rfl, _⟩ := hgo g v o hg
      obtain ⟨i', d', m', h1', h2', rfl, _⟩ := hgo g' v' o' hg'
      rw [hnam i v d m h1 h2] at hL; cases hL; cases hb
      rw [hnam i' v' d' m' h1' h2'] at hL'; cases hL'
      have hbb : m'.b = m.b := Option.some.inj hb'
      have := hap i i' m m' m.b h2 h2' (.inl rfl) (.inl hbb.symm)
      subst this
      rw [h1] at h1'; cases h1'; rfl
    · intro g v o L b hg _ hL hb
      obtain ⟨i, d, m, h1, h2, rfl, rfl⟩ := hgo g v o hg
      rw [hnam i v d m h1 h2] at hL; cases hL; cases hb
      have hz := (hI.ok i v d m h1 h2).1
      exact ⟨hz.none_, hz.lt, .inr ⟨⟨m, List.mem_of_getElem? h2, .inl rfl⟩, by simp [rich]; omega⟩⟩
    · refine ⟨fun g i j b => ∃ (q : Nat) (key : Nat) (d : D) (m : Hd), K[q]? = some (key, d) ∧ Mb[q]? = some m ∧ g = 8192 + key ∧ i = 0 ∧ m.φ j b, ?_, ?_, ?_, ?_, ?_, ?_, ?_⟩
      · intro g v o L b C i j e x s ty es _ hg _ hL hb hC he hj hx
        obtain ⟨q, d, m, h1, h2, rfl, rfl⟩ := hgo g v o hg
        rw [hnam q v d m h1 h2] at hL; cases hL; cases hb
        rcases i with _ | i
        · simp only [List.getElem?_cons_zero, Option.some.injEq] at he
          subst he
          exact ((hI.ok q v d m h1 h2).1.row C j x s ty es hC hj (by simpa using hx)).keep (Fsub.refl _) (fun _ _ => rfl) (fun b hb => ⟨q, v, d, m, h1, h2, rfl, rfl, hb⟩)
        · simp at he
      · intro g v o L b C i j e x u n _ hg _ hL hb hC he hj hx
        obtain ⟨q, d, m, h1, h2, rfl, rfl⟩ := hgo g v o hg
        rcases i with _ | i
        · simp only [List.getElem?_cons_zero, Option.some.injEq] at he
          subst he
          exact ((hI.ok q v d m h1 h2).1.hole j u n hj).elim
        · simp at he
      · rintro g i j b ⟨q, key, d, m, h1, h2, _, _, hb⟩
        exact (hI.ok q key d m h1 h2).1.fno j b hb
      · rintro g i j b ⟨q, key, d, m, h1, h2, _, _, hb⟩
        exact (hI.ok q key d m h1 h2).1.flt j b hb
      · rintro g i j b ⟨q, key, d, m, h1, h2, _, _, hb⟩
        exact .inr ⟨m, List.mem_of_getElem? h2, .inr ⟨j, hb⟩⟩
      · rintro g i j b g' v' o' L' ⟨q, key, d, m, h1, h2, _, _, hb⟩ hg' _ hL' hLb
        obtain ⟨q', d', m', h1', h2', rfl, rfl⟩ := hgo g' v' o' hg'
        rw [hnam q' v' d' m' h1' h2'] at hL'; cases hL'
        have hbb : m'.b = b := Option.some.inj hLb
        have := hap q q' m m' b h2 h2' (.inr ⟨j, hb⟩) (.inl hbb.symm)
        subst this
        rw [h2] at h2'; cases h2'
        exact (hI.ok q key d m h1 h2).1.fne j b hb hbb.symm
      · rintro g i j g' i' j' b ⟨q, key, d, m, h1, h2, rfl, rfl, hb⟩ ⟨q', key', d', m', h1', h2', rfl, rfl, hb'⟩
        have := hap q q' m m' b h2 h2' (.inr ⟨j, hb⟩) (.inr ⟨j', hb'⟩)
        subst this
        rw [h1] at h1'; cases h1'
        rw [h2] at h2'; cases h2'
        exact ⟨rfl, rfl, (hI.ok q key d m h1 h2).1.dis j j' b hb hb'⟩
  · intro v hv
    cases hh : PB v with
    | none => rfl
    | some L =>
      obtain ⟨i, d, m, h1, _⟩ := hPB v L hh
      have hm : v ∈ sp.ptr.map Prod.fst := by
        rw [← hkeys, ← hI.keys]
        exact List.mem_map.2 ⟨_, List.mem_of_getElem? h1, rfl⟩
      have := List.all_eq_true.1 hlt v hm
      simp only [Nat.blt_eq] at this
      omega

section
variable {w0 : World} {F0 : Fz} {M : Nat → Prop} {B0 : Bt} {σ : S} {F : Fz} {β : Bt} {a : Act} {w : World}

/-- what the variables that were handed over hold in the end -/
theorem effR_ok (h : Sim N w0 F0 M B0 σ F β a w) : ∀ (ptr : List (Nat × (Nat × Nat))) (Ms : List Hd), ptr.length = Ms.length → (∀ (k : Nat) key s ty m, ptr[k]? = some (key, (s, ty)) → Ms[k]? = some m → s = m.s ∧ ty = m.ty ∧ β key = some ⟨some m.b, 1, m.s⟩) → ((effR ptr).run σ).1 →
    FzList σ ((effR ptr).run σ).2.2 ∧ (∀ (k : Nat) key s ty m, ptr[k]? = some (key, (s, ty)) → Ms[k]? = some m → ∃ o, σ.go (8192 + key) = some (key, o) ∧ o.fz = false ∧ o.var = true) ∧
      ∀ (ws : List (Nat × Obj?)) F' φ, FzList σ ws → (∀ p ∈ ((effR ptr).run σ).2.2, p ∈ ws) → Fsub F F' → Sim N w0 F0 M B0 ⟨σ.e, ws ++ σ.o, σ.n⟩ F' β a w → RichOK F' β w0.heap.size M ⟨σ.e, ws ++ σ.o, σ.n⟩ w φ →
        ∀ (k : Nat) key s ty m, ptr[k]? = some (key, (s, ty)) → Ms[k]? = some m → HdOk F' w ⟨m.b, m.s, m.ty, φ (8192 + key) 0⟩ (((effR ptr).run σ).2.1.getD k .top) ∧ ∃ o, (S.mk σ.e (ws ++ σ.o) σ.n).go (8192 + key) = some (key, o) ∧ o.fz = false
  | [], _, _, _, _ => ⟨FzList.nil σ, fun k key s ty m hk => by simp at hk, fun _ _ _ _ _ _ _ _ k key s ty m hk => by simp at hk⟩
  | _ :: _, [], hl, _, _ => by simp at hl
  | (j, (s, ty)) :: ptr, m :: Ms, hl, hB, hc => by
    simp only [effR, R.run_bind, R.run_pure] at hc ⊢
    obtain ⟨c1, c2⟩ := hc
    obtain ⟨rfl, rfl, hβ⟩ := hB 0 j s ty m rfl rfl
    obtain ⟨f1, o, g1, g2, g3, r1⟩ := retE_ok h hβ rfl ⟨rfl, rfl⟩ c1
    obtain ⟨f2, g4, r2⟩ := effR_ok h ptr Ms (by simpa using hl) (fun k key s ty m' h1 h2 => hB (k + 1) key s ty m' (by simpa using h1) (by simpa using h2)) c2
    refine ⟨f1.append f2, fun k key s ty m' h1 h2 => ?_, fun ws F' φ q1 q2 q3 q4 q5 k key s ty m' h1 h2 => ?_⟩
    · rcases k with _ | k
      · simp only [List.getElem?_cons_zero, Option.some.injEq, Prod.mk.injEq] at h1
        obtain ⟨rfl, _⟩ := h1
        exact ⟨o, g1, g2, g3⟩
      · simp only [List.getElem?_cons_succ] at h1 h2
        exact g4 k key s ty m' h1 h2
    · rcases k with _ | k
      · simp only [List.getElem?_cons_zero, Option.some.injEq, Prod.mk.injEq] at h1 h2
        obtain ⟨rfl, _⟩ := h1
        subst h2
        obtain ⟨z1, z2⟩ := r1 ws F' φ q1 (fun p hp => q2 p (by simp [hp])) q3 q4 q5
        exact ⟨by simpa using z1, o, z2, g2⟩
      · simp only [List.getElem?_cons_succ] at h1 h2
        have := r2 ws F' φ q1 (fun p hp => q2 p (by simp [hp])) q3 q4 q5 k key s ty m' h1 h2
        simpa using this

end

theorem take_get {α : Type} {l : List α} {q i : Nat} {x : α} (h : (l.take q)[i]? = some x) : l[i]? = some x := by
  rw [List.getElem?_take] at h
  split at h
  · exact h
  · cases h

/-- FROM A BODY TO A SPEC. -/
theorem fun_ok {Γ : Specs} (hΓ : ∀ k sp, Γ k = some sp → SpecOk P (k % 4096) sp) {f : Nat} {fn : Func} {c : Code} {sp : Spec} {dc : DCode} {rs : List DRes} (hf : P.funcs[f]? = some fn) (hname : (fn.name == "runtime.NumGoroutine") = false) (hb : fn.body = some c)
    (hc : cCode P fn.ntmps c = some dc) (hr : fn.results.toList.mapM (cRes P) = some rs) {np : Nat} (hnp : np ≤ fn.ntmps) (hpre : ∀ ds, sp.pre ds → ds.length = np ∧ argKeys sp.ptr 0 ds = sp.ptr.map Prod.fst) (hptr : ptrOk sp.ptr = true) (hok : FunOk Γ sp np rs dc) (hni : inplOf sp.kind = none) (hno : opnOf sp.kind = none := by rfl) : SpecOk P f sp := by
  intro F00 hG0
  refine ⟨⟨fn, hf, hname, by rw [hb]; rfl⟩, (fun q hq => by rw [hni] at hq; cases hq), fun _ _ w F ds xs Mb hsub0 hF hfin hA hp => ?_, fun φ hφ => by rw [hno] at hφ; cases hφ⟩
  have hΓ : ∀ k sp, Γ k = some sp → SpecAt P F (k % 4096) sp := fun k sp h => hΓ k sp h F (hG0.mono hsub0)
  have hlen : ds.length = xs.length := by
    clear hp
    generalize 0 = j at hA
    induction hA with
    | nil => rfl
    | val _ _ _ _ _ _ _ _ _ _ ih => simp [ih]
    | ptr _ _ _ _ _ _ _ _ _ _ ih => simp [ih]
    | clo _ _ _ _ _ _ _ _ _ _ _ _ ih => simp [ih]
  obtain ⟨hdl, hkeys⟩ := hpre ds hp
  obtain ⟨PB, K, hS, hfresh, hnam, hKl, hKf, hKp⟩ := sim_init (N := fn.ntmps) (k := fn.ntmps - xs.length) hF hfin hA (by omega) hptr hkeys
  refine calls_of_wp hf hb ?_
  have e0 : (xs.toArray.size) = xs.length := by simp
  rw [e0]
  obtain ⟨τ0, hchg0, hok0⟩ := hok ds hp ⟨hdl, hkeys⟩
  obtain ⟨F00, B00, hS0, hfresh0⟩ := hS.chg hfresh hchg0
  refine wp_mono (code_sound hΓ c dc hc _ τ0 F00 B00 _ w hS0 hfresh0 hok0) fun e a' w' hq => ?_
  obtain ⟨τ1, F1, β1, k1', kf1, k3⟩ := hq
  have fin0 : ∀ τ F' β', Sim fn.ntmps w F (Wr Mb) PB τ F' β' a' w' → RetOk sp rs ds τ → (a'.defers = [] ∧ ∃ v, (results fn a'.tmps).run P w' = .ok v w' ∧ SpecPost sp w F ds Mb (.returned v) w') := by
    intro τ F' β' k1
    rintro ⟨r1, r2, r3⟩
    have hpl : sp.ptr.length = Mb.length := by
      have := congrArg List.length hKf
      simpa [hKl] using this.symm
    have hnd : (sp.ptr.map Prod.fst).Nodup := by
      simp only [ptrOk, Bool.and_eq_true, decide_eq_true_eq] at hptr
      exact hptr.2
    have hBk : ∀ (k : Nat) key s ty m, sp.ptr[k]? = some (key, (s, ty)) → Mb[k]? = some m → s = m.s ∧ ty = m.ty ∧ β' key = some ⟨some m.b, 1, m.s⟩ := by
      intro k key s ty m h1 h2
      have hkl : k < K.length := by rw [hKl]; exact (List.getElem?_eq_some_iff.1 h2).1
      obtain ⟨⟨key', d⟩, hK⟩ : ∃ p, K[k]? = some p := ⟨_, List.getElem?_eq_getElem hkl⟩
      have e1 : (K.map Prod.fst)[k]? = some key' := by simp [hK]
      have e2 : (sp.ptr.map Prod.fst)[k]? = some key := by simp [h1]
      rw [hKf, e2] at e1
      cases e1
      have hl := hKp k key d m hK h2
      have hl2 : look sp.ptr key = some (s, ty) := by
        cases hq : look sp.ptr key with
        | none => exact absurd (List.mem_of_getElem? h1) (look_none hq _)
        | some y =>
          have hm := look_mem hq
          obtain ⟨k', hk'⟩ := List.getElem?_of_mem hm
          have e3 : (sp.ptr.map Prod.fst)[k']? = some key := by simp [hk']
          have := (List.getElem?_inj (List.getElem?_eq_some_iff.1 e2).1 hnd).1 (e2.trans e3.symm)
          subst this
          rw [h1] at hk'; cases hk'; rfl
      rw [hl2] at hl
      cases hl
      exact ⟨rfl, rfl, k1.nam _ _ (hnam k key d m hK h2)⟩
    obtain ⟨fe, ge, be⟩ := effR_ok k1 sp.ptr Mb hpl hBk r1
    have ending : ∀ (ws : List (Nat × Obj?)) (v : Value) (ρ : Nat → Prop), FzList τ ws → (∀ p ∈ ((effR sp.ptr).run τ).2.2, p ∈ ws) → (∀ F2 φ, Fsub F' F2 → Sim fn.ntmps w F (Wr Mb) PB ⟨τ.e, ws ++ τ.o, τ.n⟩ F2 β' a' w' → RichOK F2 β' w.heap.size (Wr Mb) ⟨τ.e, ws ++ τ.o, τ.n⟩ w' φ → ResOk w F2 w' (sp.res ds) v (fun b => ρ b ∨ (Mb = [] ∧ ∃ g i j, φ g i j b)) sp.kind ∧ (Mb ≠ [] → ∀ g j b, φ g 0 j b → ¬ ρ b)) →
        SpecPost sp w F ds Mb (.returned v) w' := by
      intro ws v ρ hws hsub hres
      obtain ⟨F2, hF2, hS2, _⟩ := k1.freeze hws
      obtain ⟨φ, hφ⟩ := hS2.rich
      obtain ⟨q1, q2⟩ := hres F2 φ hF2 hS2 hφ
      have hbe := be ws F2 φ hws hsub hF2 hS2 hφ
      have hpk : ∀ (k : Nat) m, Mb[k]? = some m → ∃ key s ty, sp.ptr[k]? = some (key, (s, ty)) := by
        intro k m hk
        have hlt : k < sp.ptr.length := by rw [hpl]; exact (List.getElem?_eq_some_iff.1 hk).1
        exact ⟨_, _, _, List.getElem?_eq_getElem hlt⟩
      refine ⟨v, F2, fun k j b => ∃ key st m, sp.ptr[k]? = some (key, st) ∧ Mb[k]? = some m ∧ φ (8192 + key) 0 j b, _, rfl, hS2.frz, hS2.fin, hS2.step, q1, ?_, ?_⟩
      · rw [← r2]
        refine ⟨fun k m hk => ?_, fun k j b ⟨key, st, m, h1, h2, _⟩ => (List.getElem?_eq_some_iff.1 h2).1, fun k j b ⟨key, st, m, h1, h2, h3⟩ => hφ.new _ _ _ _ h3, fun k j k' j' b ⟨key, st, m, h1, h2, h3⟩ ⟨key', st', m', h1', h2', h3'⟩ => ?_, fun k j b m ⟨key, st, m1, h1, h2, h3⟩ hm e => ?_⟩
        · obtain ⟨key, s, ty, hp⟩ := hpk k m hk
          have hz := (hbe k key s ty m hp hk).1
          refine ⟨hz.var, hz.none_, hz.lt, ?_, ?_, ?_, ?_, ?_, hz.hole⟩
          · rintro j b ⟨key', st, m', h1, h2, h3⟩
            rw [hp] at h1; cases h1
            exact hz.fno j b h3
          · rintro j b ⟨key', st, m', h1, h2, h3⟩
            rw [hp] at h1; cases h1
            exact hz.flt j b h3
          · rintro j b ⟨key', st, m', h1, h2, h3⟩
            rw [hp] at h1; cases h1
            exact hz.fne j b h3
          · rintro j j' b ⟨key', st, m', h1, h2, h3⟩ ⟨key'', st', m'', h1', h2', h3'⟩
            rw [hp] at h1; cases h1
            rw [hp] at h1'; cases h1'
            exact hz.dis j j' b h3 h3'
          · intro C j x s' ty' es hC hj hx
            exact (hz.row C j x s' ty' es hC hj hx).keep (Fsub.refl _) (fun _ _ => rfl) (fun b hb => ⟨key, (s, ty), m, hp, hk, hb⟩)
        · have hkk := (hφ.dis _ _ _ _ _ _ _ h3 h3').1
          have : key = key' := by omega
          subst this
          have e2 : (sp.ptr.map Prod.fst)[k]? = some key := by simp [h1]
          have e3 : (sp.ptr.map Prod.fst)[k']? = some key := by simp [h1']
          exact (List.getElem?_inj (List.getElem?_eq_some_iff.1 e2).1 hnd).1 (e2.trans e3.symm)
        · obtain ⟨k', hk'⟩ := List.getElem?_of_mem hm
          obtain ⟨key', s', ty', hp'⟩ := hpk k' m hk'
          obtain ⟨_, o', z1, z2⟩ := hbe k' key' s' ty' m hp' hk'
          obtain ⟨_, _, hβ⟩ := hBk k' key' s' ty' m hp' hk'
          subst e
          exact hφ.sep _ _ _ _ _ _ _ _ h3 z1 z2 hβ rfl
      · rintro k j b ⟨key, st, m, h1, h2, h3⟩ (hρ | ⟨hM0, _⟩)
        · exact q2 (fun e => by rw [e] at h2; simp at h2) _ _ _ h3 hρ
        · rw [hM0] at h2; simp at h2
    refine ⟨k1.defers, ?_⟩
    have one : (sp.kind = .val ∨ sp.kind = .ground) → ∀ r, rs = [r] → ((retV r).run τ).1 → ((retV r).run τ).2.1 = sp.res ds → ∃ v, (results fn a'.tmps).run P w' = .ok v w' ∧ SpecPost sp w F ds Mb (.returned v) w' := by
      rintro hk r rfl c1 c2
      simp only [retV, R.run_bind, R.run_pure] at c1 c2
      obtain ⟨d1, d2⟩ := c1
      obtain ⟨vs, v1, v2, v3⟩ := results_run (P := P) k1 hr (fun r' hr' => by simp only [List.mem_singleton] at hr'; subst hr'; exact d1)
      have hl1 : vs.length = 1 := v2
      rw [dif_pos hl1] at v1
      refine ⟨_, v1, ?_⟩
      have hval := v3 0 r vs[0] rfl (List.getElem?_eq_getElem (by omega))
      obtain ⟨f1, g1⟩ := res_ok k1 _ hval d2
      refine ending (((res ((resR r).run τ).2).run τ).2.2 ++ ((effR sp.ptr).run τ).2.2) _ (fun _ => False) (f1.append fe) (fun p hp => by simp [hp]) (fun F2 φ hF2 hS2 _ => ⟨?_, fun _ _ _ _ _ => id⟩)
      have := g1 _ F2 (f1.append fe) (fun p hp => by simp [hp]) hF2 hS2
      rw [c2] at this
      rcases hk with hk | hk <;> (rw [hk]; exact this)
    have many : (sp.kind = .val ∨ sp.kind = .ground) → ((retVs rs).run τ).1 → .tup ((retVs rs).run τ).2.1 = sp.res ds → rs.length ≠ 1 → ∃ v, (results fn a'.tmps).run P w' = .ok v w' ∧ SpecPost sp w F ds Mb (.returned v) w' := by
      intro hk c1 c2 c3
      obtain ⟨vs, v1, v2, v3⟩ := results_run (P := P) k1 hr (retVs_conds rs c1)
      have hl1 : ¬ vs.length = 1 := by rw [v2]; exact c3
      rw [dif_neg hl1] at v1
      refine ⟨_, v1, ?_⟩
      obtain ⟨f1, l1, g1⟩ := retVs_ok k1 rs vs v2.symm (fun i r v h1 h2 _ => v3 i r v h1 h2) c1
      refine ending (((retVs rs).run τ).2.2 ++ ((effR sp.ptr).run τ).2.2) _ (fun _ => False) (f1.append fe) (fun p hp => by simp [hp]) (fun F2 φ hF2 hS2 _ => ⟨?_, fun _ _ _ _ _ => id⟩)
      have hh := g1 _ F2 (f1.append fe) (fun p hp => by simp [hp]) hF2 hS2
      have : Fro F2 (sp.res ds) (.tuple vs.toArray) := by
        rw [← c2]
        exact .tup _ vs l1 hh
      rcases hk with hk | hk <;> (rw [hk]; exact this)
    cases hk : sp.kind with
    | inpl r fl fk => rw [hk] at hni; cases hni
    | opn q => rw [hk] at hno; cases hno
    | val =>
      rw [hk] at r3
      match rs, r3, one, many with
      | [r], r3, one, _ => exact one (.inl hk) r rfl r3.1 r3.2
      | [], r3, _, many => exact many (.inl hk) r3.1 r3.2.1 r3.2.2
      | _ :: _ :: _, r3, _, many => exact many (.inl hk) r3.1 r3.2.1 r3.2.2
    | ground =>
      rw [hk] at r3
      match rs, r3, one, many with
      | [r], r3, one, _ => exact one (.inr hk) r rfl r3.1 r3.2
      | [], r3, _, many => exact many (.inr hk) r3.1 r3.2.1 r3.2.2
      | _ :: _ :: _, r3, _, many => exact many (.inr hk) r3.1 r3.2.1 r3.2.2
    | row s ty =>
      rw [hk] at r3
      match rs, r3, hr with
      | [r], ⟨d1, d2, d3, d4⟩, hr =>
        obtain ⟨vs, v1, v2, v3⟩ := results_run (P := P) k1 hr (fun r' hr' => by simp only [List.mem_singleton] at hr'; subst hr'; exact d1)
        have hl1 : vs.length = 1 := v2
        rw [dif_pos hl1] at v1
        refine ⟨_, v1, ?_⟩
        have hval := v3 0 r vs[0] rfl (List.getElem?_eq_getElem (by omega))
        obtain ⟨es, L, g, v, o, g1, g2, n1, n2, n3, n4, n5, n6, n7, g3⟩ := retS_ok k1 hval d2
        refine ending _ _ (fun b => L.b = some b) fe (fun p hp => hp) (fun F2 φ hF2 hS2 hφ => ?_)
        obtain ⟨g4, g6, g5⟩ := g3 _ F2 d4 hF2 hS2
        rw [hk]
        refine ⟨⟨es, L, d3.symm.trans g1, g2, g4, fun b hb => ⟨((g5 b hb).1).resolve_right (fun z => by cases z.1), (g5 b hb).2.1, (g5 b hb).2.2, .inl hb⟩⟩, fun _ g' j b hb hLb => ?_⟩
        exact hφ.sep g' 0 j b g v o L hb g6 n2 n5 hLb
      | [], r3, _ => exact r3.elim
      | _ :: _ :: _, r3, _ => exact r3.elim
    | mat s ty =>
      rw [hk] at r3
      match rs, r3, hr with
      | [r], ⟨d1, d2, d3, d4⟩, hr =>
        obtain ⟨vs, v1, v2, v3⟩ := results_run (P := P) k1 hr (fun r' hr' => by simp only [List.mem_singleton] at hr'; subst hr'; exact d1)
        have hl1 : vs.length = 1 := v2
        rw [dif_pos hl1] at v1
        refine ⟨_, v1, ?_⟩
        have hval := v3 0 r vs[0] rfl (List.getElem?_eq_getElem (by omega))
        have hM0 : Mb = [] := args_noptr d4 hA
        have hpe : (effR sp.ptr).run τ = (True, [], []) := by rw [d4]; rfl
        obtain ⟨es, L, g, v, o, g1, g2, n1, n2, n3, n4, n5, ⟨n0, rfl⟩, n7, g3⟩ := retS_ok k1 hval d2
        refine ending [] _ (fun b => L.b = some b) (FzList.nil _) (fun p hp => by rw [hpe] at hp; cases hp) (fun F2 φ hF2 hS2 hφ => ?_)
        obtain ⟨g4, g6, g5⟩ := g3 [] F2 (by simp) hF2 hS2
        have hidx : ∀ (i : Nat) e, (o.es.take n0)[i]? = some e → o.es[i]? = some e := fun i e he => take_get he
        have hnew : ∀ b, w.heap.size ≤ b ∨ Wr Mb b → w.heap.size ≤ b := by
          rintro b (hb | ⟨m, hm, _⟩)
          · exact hb
          · rw [hM0] at hm; cases hm
        rw [hk]
        refine ⟨⟨_, L, fun i j b => φ g i j b, d3.symm.trans g1, g2, g4, fun b hb => ⟨hnew b ((g5 b hb).1.imp id And.right), (g5 b hb).2.1, (g5 b hb).2.2, .inl hb⟩, fun i j b hb => ⟨hnew b (hφ.new _ _ _ _ hb), hφ.lt _ _ _ _ hb, hφ.none_ _ _ _ _ hb, .inr ⟨hM0, g, i, j, hb⟩, hφ.sep g i j b g v o L hb g6 n2 n5⟩,
          fun i j i' j' b h1 h2 => (hφ.dis _ _ _ _ _ _ _ h1 h2).2, fun b C i j e x s' ty' es' hb hC he hj hx => hφ.row g v o L b C i j e x s' ty' es' n1 g6 n2 n5 hb (by rw [n4]; exact hC) (hidx i e he) hj (by rw [n3]; exact hx), fun i j e u n he hj => n7 rfl e (List.mem_of_getElem? (hidx i e he)) _ (List.mem_of_getElem? hj) u n rfl⟩, fun hne => absurd hM0 hne⟩
      | [], r3, _ => exact r3.elim
      | _ :: _ :: _, r3, _ => exact r3.elim
    | ptr s ty =>
      rw [hk] at r3
      match rs, r3, hr with
      | [r], ⟨d1, d2, d3, d4⟩, hr =>
        obtain ⟨vs, v1, v2, v3⟩ := results_run (P := P) k1 hr (fun r' hr' => by simp only [List.mem_singleton] at hr'; subst hr'; exact d1)
        have hl1 : vs.length = 1 := v2
        rw [dif_pos hl1] at v1
        refine ⟨_, v1, ?_⟩
        have hval := v3 0 r vs[0] rfl (List.getElem?_eq_getElem (by omega))
        obtain ⟨f1, g, v, o, b, g1, g2, g3, g4, g5, g6, g7⟩ := retP_ok k1 hval d2
        refine ending (((retP s ty ((resR r).run τ).2).run τ).2.2.1 ++ ((effR sp.ptr).run τ).2.2) _ (fun b' => b' = b) (f1.append fe) (fun p hp => by simp [hp]) (fun F2 φ hF2 hS2 hφ => ?_)
        obtain ⟨z1, z2, z3, z4, v', o', z5, z6, z7⟩ := g7 _ F2 (f1.append fe) (fun p hp => by simp [hp]) hF2 hS2
        rw [hk]
        refine ⟨⟨b, g6, by rw [← d3]; exact z1, z4.resolve_right (fun z => by rw [g1] at d4; rw [d4] at z; cases z.2), z3, z2, .inl rfl⟩, fun _ g' j b' hb e => ?_⟩
        subst e
        exact hφ.sep g' 0 j _ g v' o' _ hb z5 z6 z7 rfl
      | [], r3, _ => exact r3.elim
      | _ :: _ :: _, r3, _ => exact r3.elim
    | tupPtr q s ty =>
      rw [hk] at r3
      have r3' : q < rs.length ∧ rs.length ≠ 1 ∧ sp.ptr = [] ∧ ((retVs (rs.take q)).run τ).1 ∧ ((retVs (rs.drop (q + 1))).run τ).1 ∧ ((resR (rs.getD q (.t 0))).run τ).1 ∧ ((retP s ty ((resR (rs.getD q (.t 0))).run τ).2).run τ).1 ∧
          .tup (((retVs (rs.take q)).run τ).2.1 ++ ((retP s ty ((resR (rs.getD q (.t 0))).run τ).2).run τ).2.1 :: ((retVs (rs.drop (q + 1))).run τ).2.1) = sp.res ds := by
        cases rs with
        | nil => exact r3
        | cons r0 rs => cases rs <;> exact r3
      obtain ⟨t1, t2, t3, t4, t5, t6, t7, t8⟩ := r3'
      have hq : rs[q]? = some (rs.getD q (.t 0)) := by simp [t1]
      generalize rs.getD q (.t 0) = rq at *
      have hsplit : rs = rs.take q ++ rq :: rs.drop (q + 1) := by
        obtain ⟨hl, he⟩ := List.getElem?_eq_some_iff.1 hq
        rw [← he, ← List.drop_eq_getElem_cons hl, List.take_append_drop]
      have conds : ∀ r ∈ rs, ((resR r).run τ).1 := by
        intro r hr'
        rw [hsplit, List.mem_append, List.mem_cons] at hr'
        rcases hr' with h1 | rfl | h1
        · exact retVs_conds _ t4 r h1
        · exact t6
        · exact retVs_conds _ t5 r h1
      obtain ⟨vs, v1, v2, v3⟩ := results_run (P := P) k1 hr conds
      rw [dif_neg (by rw [v2]; exact t2)] at v1
      refine ⟨_, v1, ?_⟩
      have hvl : q < vs.length := by omega
      have hvq : vs[q]? = some vs[q] := List.getElem?_eq_getElem hvl
      obtain ⟨fP, g, v, o, b, g1, g2, g3, g4, g5, g6, g7⟩ := retP_ok k1 (v3 q rq vs[q] hq hvq) t7
      obtain ⟨fA, lA, gA⟩ := retVs_ok k1 (rs.take q) (vs.take q) (by simp [v2]) (fun i r v h1 h2 _ => v3 i r v (take_get h1) (take_get h2)) t4
      obtain ⟨fB, lB, gB⟩ := retVs_ok k1 (rs.drop (q + 1)) (vs.drop (q + 1)) (by simp [v2]) (fun i r v h1 h2 _ => v3 (q + 1 + i) r v (by rw [← List.getElem?_drop]; exact h1) (by rw [← List.getElem?_drop]; exact h2)) t5
      refine ending (((retVs (rs.take q)).run τ).2.2 ++ (((retP s ty ((resR rq).run τ).2).run τ).2.2.1 ++ (((retVs (rs.drop (q + 1))).run τ).2.2 ++ ((effR sp.ptr).run τ).2.2))) _ (fun b' => b' = b) (fA.append (fP.append (fB.append fe))) (fun p hp => by simp [hp]) (fun F2 φ hF2 hS2 _ => ⟨?_, fun hne => absurd (args_noptr t3 hA) hne⟩)
      have hws := fA.append (fP.append (fB.append fe))
      obtain ⟨z1, z2, z3, z4⟩ := g7 _ F2 hws (fun p hp => by simp [hp]) hF2 hS2
      have zA := gA _ F2 hws (fun p hp => by simp [hp]) hF2 hS2
      have zB := gB _ F2 hws (fun p hp => by simp [hp]) hF2 hS2
      have lA' : ((retVs (rs.take q)).run τ).2.1.length = q := by rw [lA]; simp; omega
      rw [hk]
      refine ⟨_, vs, b, t8.symm, rfl, ?_, ?_, ?_, ?_, ?_, z3, z2, .inl rfl⟩
      · simp only [List.length_append, List.length_cons, lA', lB, List.length_drop]; omega
      · intro j c x hj hc hx
        rcases Nat.lt_trichotomy j q with h1 | h1 | h1
        · rw [List.getElem?_append_left (by omega)] at hc
          exact zA j c x hc (by rw [List.getElem?_take]; simp [h1, hx])
        · exact absurd h1 hj
        · obtain ⟨i, rfl⟩ : ∃ i, j = q + 1 + i := ⟨j - (q + 1), by omega⟩
          rw [List.getElem?_append_right (by omega), lA', show q + 1 + i - q = i + 1 by omega, List.getElem?_cons_succ] at hc
          exact zB i c x hc (by rw [List.getElem?_drop]; exact hx)
      · rw [hvq, g6]
      · rw [List.getD_eq_getElem?_getD, List.getElem?_append_right (by omega), lA', Nat.sub_self]
        exact z1
      · rcases z4.1 with z4 | ⟨⟨m, hm, _⟩, _⟩
        · exact z4
        · rw [args_noptr t3 hA] at hm; cases hm
  have fin : Wk (RetOk sp rs ds) τ1 → (a'.defers = [] ∧ ∃ v, (results fn a'.tmps).run P w' = .ok v w' ∧ SpecPost sp w F ds Mb (.returned v) w') := by
    rintro ⟨τ, hc1, hr1⟩
    obtain ⟨F', β', k1, _⟩ := k1'.chg kf1 hc1
    exact fin0 τ F' β' k1 hr1
  cases e with
  | normal => exact fin k3
  | ret => exact fin k3
  | exit id => exact k3.elim
  | goto l => exact k3.elim
  | panic ch => exact k3.elim
  | outgrown => exact k3.elim

end
end Go.Dw
namespace Go.Dw

theorem fun_ok' {P : Program} {Γ : Specs} (hΓ : ∀ k sp, Γ k = some sp → SpecOk P (k % 4096) sp) {f : Nat} {fn : Func} {sp : Spec} {dc : DCode} {rs : List DRes} (hf : P.funcs[f]? = some fn) (hname : (fn.name == "runtime.NumGoroutine") = false)
    (hc : (fn.body.bind (cCode P fn.ntmps)) = some dc) (hr : fn.results.toList.mapM (cRes P) = some rs) {np : Nat} (hnp : np ≤ fn.ntmps) (hpre : ∀ ds, sp.pre ds → ds.length = np ∧ argKeys sp.ptr 0 ds = sp.ptr.map Prod.fst) (hptr : ptrOk sp.ptr = true) (hok : FunOk Γ sp np rs dc) (hni : inplOf sp.kind = none) (hno : opnOf sp.kind = none := by rfl) : SpecOk P f sp := by
  rw [Option.bind_eq_some_iff] at hc
  obtain ⟨c, hb, hc⟩ := hc
  exact fun_ok hΓ hf hname hb hc hr hnp hpre hptr hok hni hno

/-- several specs at hand -/
def specs (l : List (Nat × Spec)) : Specs := fun k => look l k
theorem specs_ok {P : Program} {l : List (Nat × Spec)} (h : ∀ p ∈ l, SpecOk P (p.1 % 4096) p.2) : ∀ k sp, specs l k = some sp → SpecOk P (k % 4096) sp := fun k sp hk => h _ (look_mem hk)
theorem specs_nil {P : Program} : ∀ k sp, specs [] k = some sp → SpecOk P (k % 4096) sp := specs_ok (fun _ h => by cases h)

theorem wrap_id {n : Int} (h0 : -9223372036854775808 ≤ n) (h1 : n ≤ 9223372036854775807) : IntKind.i64.wrap n = n := by
  rw [IntKind.wrap_i64]; omega

end Go.Dw
namespace Go.Dw

/-- the slots of the arguments -/
def argE : Nat → List D → List (Nat × D)
  | _, [] => []
  | j, d :: r => (j, d) :: argE (j + 1) r
theorem look_argE : ∀ (ds : List D) (j t : Nat), look (argE j ds) t = if j ≤ t then ds[t - j]? else none
  | [], j, t => by simp [argE, look]
  | d :: r, j, t => by
    simp only [argE, look, look_argE r (j + 1) t]
    by_cases h : t = j
    · subst h; simp
    · rw [if_neg h]
      by_cases h2 : j + 1 ≤ t
      · rw [if_pos h2, if_pos (by omega), show t - j = (t - (j + 1)) + 1 by omega, List.getElem?_cons_succ]
      · rw [if_neg h2, if_neg (by omega)]

/-- data that a tuple may hold as they are -/
def tupD : D → Bool
  | .agg _ | .tup _ | .when .. => false
  | _ => true
/-- what a function returns -/
def resVal (rs : List DRes) (τ : S) : Prop × D :=
  match rs with
  | [r] => (((resR r).run τ).1, ((resR r).run τ).2)
  | rs => ((∀ r ∈ rs, ((resR r).run τ).1) ∧ (rs.map fun r => ((resR r).run τ).2).all tupD = true, .tup (rs.map fun r => ((resR r).run τ).2))
def opnK (rs : List DRes) (e : List (Nat × D)) (K : D → S → Prop) : DExit → S → Prop := fun x τ =>
  match x with
  | .exit _ => False
  | _ => Wk (fun τ => (resVal rs τ).1 ∧ K (resVal rs τ).2 ⟨e, τ.o, τ.n⟩) τ
/-- what a function that is followed on the spot asks -/
def opnF (Γ : Specs) (np : Nat) (rs : List DRes) (dc : DCode) : List D → S → (D → S → Prop) → Prop := fun ds σ K =>
  ds.length = np ∧ Wk (DWp Γ dc (opnK rs σ.e K)) ⟨argE 0 ds, σ.o, σ.n⟩
def opnS (Γ : Specs) (np : Nat) (rs : List DRes) (dc : DCode) : Spec := ⟨[], .opn (opnF Γ np rs dc), fun _ => False, fun _ => .top, fun _ => []⟩

theorem val_tupD {F : Fz} {β : Bt} {d : D} {x : Value} (h : Val F β d x) (ht : tupD d = true) : Cel F β d x := by
  cases d <;> first | exact h | cases ht

theorem opn_spec {P : Program} {Γ : Specs} (hΓ : ∀ k sp, Γ k = some sp → SpecOk P (k % 4096) sp) {f : Nat} {fn : Func} {dc : DCode} {rs : List DRes} (hf : P.funcs[f]? = some fn) (hname : (fn.name == "runtime.NumGoroutine") = false)
    (hc : (fn.body.bind (cCode P fn.ntmps)) = some dc) (hr : fn.results.toList.mapM (cRes P) = some rs) {np : Nat} (hnp : np ≤ fn.ntmps) : SpecOk P f (opnS Γ np rs dc) := by
  rw [Option.bind_eq_some_iff] at hc
  obtain ⟨c, hb, hc⟩ := hc
  intro F0 hG
  refine ⟨⟨fn, hf, hname, by rw [hb]; rfl⟩, fun q hq => (by cases hq), fun _ h => (by cases h), fun φ hφ => ?_⟩
  cases hφ
  rintro N w0 M B0 σ F β a w ds vs K h hfr hl hv ⟨hn, τ0, hchg, hw⟩
  have hΓ' : ∀ k sp, Γ k = some sp → SpecAt P F (k % 4096) sp := fun k sp hk => hΓ k sp hk F (hG.mono h.step.sub)
  have hS : Sim fn.ntmps w0 F M β ⟨argE 0 ds, σ.o, σ.n⟩ F β { tmps := vs.toArray ++ Array.replicate (fn.ntmps - vs.toArray.size) undef, defers := [] } w := by
    refine { nam := Bsub.refl _, size := by simp; omega, defers := rfl, env := fun t => ?_, own := h.own, dist := h.dist, sep := h.sep, rich := ?_, frz := h.frz, fin := h.fin, step := ⟨h.step.os, h.step.tape, h.step.output, h.step.size, h.step.block, Fsub.refl _, fun _ _ _ _ => rfl⟩ }
    · simp only [S.ge, look_argE, Nat.zero_le, if_true, Nat.sub_zero]
      by_cases ht : t < ds.length
      · have h1 : ds[t]? = some ds[t] := List.getElem?_eq_getElem ht
        have h2 : vs[t]? = some (vs[t]'(by omega)) := List.getElem?_eq_getElem _
        rw [h1]
        have e : (vs.toArray ++ Array.replicate (fn.ntmps - vs.toArray.size) undef).getD t undef = vs[t]'(by omega) := by
          rw [Array.getD_eq_getD_getElem?, Array.getElem?_append_left (by simp; omega)]
          simp [h2]
        rw [e]
        exact Env.of_val (hv t _ _ h1 h2)
      · rw [List.getElem?_eq_none (by omega)]
        exact Env.top _
    · obtain ⟨φ, hφ⟩ := h.rich
      exact ⟨φ, hφ.congr fun _ => rfl⟩
  refine calls_of_wp hf hb ?_
  obtain ⟨F1, β1, hS1, hfr1⟩ := hS.chg hfr hchg
  refine wp_mono (code_sound hΓ' c dc hc _ τ0 F1 β1 _ w hS1 hfr1 hw) fun e a' w' hq => ?_
  obtain ⟨τ1, F2, β2, k1, k2, k3⟩ := hq
  have fin : Wk (fun τ => (resVal rs τ).1 ∧ K (resVal rs τ).2 ⟨σ.e, τ.o, τ.n⟩) τ1 → (a'.defers = [] ∧ ∃ v, (results fn a'.tmps).run P w' = .ok v w' ∧ ∃ v' d o' n' F' β', Ending.returned v = .returned v' ∧ Sim N w0 F0 M B0 ⟨σ.e, o', n'⟩ F' β' a w' ∧ (∀ v, n' ≤ v → β' v = none) ∧ Val F' β' d v' ∧ K d ⟨σ.e, o', n'⟩) := by
    rintro ⟨τ, hc1, hr1, hk⟩
    obtain ⟨F', β', z1, z2⟩ := k1.chg k2 hc1
    have hall : ∀ r ∈ rs, ((resR r).run τ).1 := by
      unfold resVal at hr1
      split at hr1
      · intro r hr; simp only [List.mem_singleton] at hr; subst hr; exact hr1
      · exact hr1.1
    obtain ⟨xs, r1, r2, r3⟩ := results_run (P := P) z1 (fn := fn) hr hall
    refine ⟨z1.defers, _, r1, _, (resVal rs τ).2, τ.o, τ.n, F', β', rfl, ?_, z2, ?_, hk⟩
    · refine { nam := h.nam.trans z1.nam, size := h.size, defers := h.defers, env := fun t => (h.env t).mono z1.step.sub z1.nam, own := z1.own, dist := z1.dist, sep := z1.sep, rich := ?_, frz := z1.frz, fin := z1.fin, step := ?_ }
      · obtain ⟨φ, hφ⟩ := z1.rich
        exact ⟨φ, hφ.congr fun _ => rfl⟩
      · exact ⟨z1.step.os, z1.step.tape, z1.step.output, z1.step.size, z1.step.block, h.step.sub.trans z1.step.sub, fun b i hb hM => (z1.step.old b i hb hM).trans (h.step.old b i hb hM)⟩
    · unfold resVal at hr1 ⊢
      split
      · rename_i r
        have hl1 : xs.length = 1 := by simpa using r2
        rw [dif_pos hl1]
        exact r3 0 r _ rfl (List.getElem?_eq_getElem (by omega))
      · rename_i hne
        have hl1 : xs.length ≠ 1 := by
          intro e
          rw [r2] at e
          match rs, e with
          | [r], _ => exact hne r rfl
        rw [dif_neg hl1]
        split at hr1
        · rename_i r; exact (hne r rfl).elim
        refine ⟨xs, rfl, by simp [r2], fun j c x hj hx => ?_⟩
        have ht := List.all_eq_true.1 hr1.2 c (List.mem_of_getElem? hj)
        rw [List.getElem?_map, Option.map_eq_some_iff] at hj
        obtain ⟨r, hj, rfl⟩ := hj
        exact val_tupD (r3 j r x hj hx) ht
  cases e with
  | normal => exact fin k3
  | ret => exact fin k3
  | exit id => exact k3.elim
  | goto l => exact k3.elim
  | panic ch => exact k3.elim
  | outgrown => exact k3.elim
end Go.Dw
namespace Go.Dw

/-! ### Loops on typed data -/
section
variable {ι R : Type} {body : ι → Option (ι ⊕ R)} {s : ι} {r r' : R} {n m : Nat}

def iterT (body : ι → Option (ι ⊕ R)) : Nat → ι → Option R
  | 0, _ => none
  | n + 1, s => match body s with
    | none => none
    | some (.inr r) => some r
    | some (.inl s') => iterT body n s'

theorem iterT_succ : iterT body (n + 1) s = match body s with
    | none => none
    | some (.inr r) => some r
    | some (.inl s') => iterT body n s' := rfl

theorem iterT_mono : ∀ {n m : Nat} {s : ι}, iterT body n s = some r → n ≤ m → iterT body m s = some r
  | 0, _, _, h, _ => by cases h
  | n + 1, 0, _, _, h' => by omega
  | n + 1, m + 1, s, h, h' => by
    rw [iterT_succ] at h ⊢
    cases hb : body s with
    | none => rw [hb] at h; cases h
    | some x =>
      rw [hb] at h
      cases x with
      | inr y => exact h
      | inl s' => exact iterT_mono h (Nat.le_of_succ_le_succ h')

theorem iterT_det (h : iterT body n s = some r) (h' : iterT body m s = some r') : r = r' := by
  have h1 := iterT_mono h (Nat.le_max_left n m)
  have h2 := iterT_mono h' (Nat.le_max_right n m)
  rw [h1] at h2
  exact Option.some.inj h2

open Classical in
noncomputable def LoopT (body : ι → Option (ι ⊕ R)) (s : ι) : Option R :=
  if h : ∃ r, ∃ n, iterT body n s = some r then some (Classical.choose h) else none

theorem LoopT_iff : LoopT body s = some r ↔ ∃ n, iterT body n s = some r := by
  unfold LoopT
  split
  · rename_i h
    obtain ⟨n, hn⟩ := Classical.choose_spec h
    constructor
    · intro e
      cases e
      exact ⟨n, hn⟩
    · rintro ⟨m, hm⟩
      rw [iterT_det hn hm]
  · rename_i h
    constructor
    · intro e; cases e
    · rintro ⟨n, hn⟩; exact (h ⟨r, n, hn⟩).elim

theorem LoopT_eq (body : ι → Option (ι ⊕ R)) (s : ι) : LoopT body s = match body s with
    | none => none
    | some (.inr r) => some r
    | some (.inl s') => LoopT body s' := by
  apply Option.ext
  intro r
  rw [LoopT_iff]
  cases hb : body s with
  | none =>
    simp only [reduceCtorEq, iff_false, not_exists]
    intro n hn
    cases n with
    | zero => cases hn
    | succ n => rw [iterT_succ, hb] at hn; cases hn
  | some x =>
    cases x with
    | inr y =>
      constructor
      · rintro ⟨n, hn⟩
        cases n with
        | zero => cases hn
        | succ n => rw [iterT_succ, hb] at hn; exact hn
      · intro e; exact ⟨1, by rw [iterT_succ, hb]; exact e⟩
    | inl s' =>
      simp only [LoopT_iff]
      constructor
      · rintro ⟨n, hn⟩
        cases n with
        | zero => cases hn
        | succ n => rw [iterT_succ, hb] at hn; exact ⟨n, hn⟩
      · rintro ⟨n, hn⟩; exact ⟨n + 1, by rw [iterT_succ, hb]; exact hn⟩

/-- A LOOP ENDS WITH WHAT ITS INVARIANT SAYS. -/
theorem LoopT_inv (I : ι → Prop) (P : R → Prop) (μ : ι → Nat) (h0 : I s)
    (hb : ∀ s, I s → (∃ s', body s = some (.inl s') ∧ I s' ∧ μ s' < μ s) ∨ ∃ r, body s = some (.inr r) ∧ P r) : ∃ r, LoopT body s = some r ∧ P r := by
  generalize hk : μ s = k
  induction k using Nat.strongRecOn generalizing s with
  | _ k ih =>
    rw [LoopT_eq]
    rcases hb s h0 with ⟨s', h1, h2, h3⟩ | ⟨r, h1, h2⟩
    · rw [h1]
      exact ih (μ s') (by omega) h2 rfl
    · rw [h1]
      exact ⟨r, rfl, h2⟩
end

/-! ### The words of typed programs -/
def chk {R : Type} (p : Prop) [Decidable p] (t : Option R) : Option R := if p then t else none
def ixO {α : Type} (l : List α) (i : Int) : Option α := if i < 0 then none else l[i.toNat]?
def lft {ι R : Type} (t : Option R) : Option (ι ⊕ R) := t.map .inr
def cnt {ι R : Type} (s : ι) : Option (ι ⊕ R) := some (.inl s)

theorem chk_pos {R : Type} {p : Prop} [Decidable p] {t : Option R} (h : p) : chk p t = t := if_pos h
theorem chk_some {R : Type} {p : Prop} [Decidable p] {t : Option R} {r : R} (h : chk p t = some r) : p ∧ t = some r := by
  unfold chk at h
  split at h
  · exact ⟨‹_›, h⟩
  · cases h
theorem ixO_some {α : Type} {l : List α} {i : Int} {x : α} (h : ixO l i = some x) : 0 ≤ i ∧ i < l.length ∧ l[i.toNat]? = some x := by
  unfold ixO at h
  split at h
  · cases h
  · have := (List.getElem?_eq_some_iff.1 h).1
    exact ⟨by omega, by omega, h⟩

/-! ### What is meant -/
section
variable {Γ : Specs} {R ι γ : Type}

def Has (σ : S) (E : List (Nat × D)) (O : List (Nat × Obj?)) : Prop := ∃ n, Chg σ ⟨E, O, n⟩

def Tr (Γ : Specs) (c : DCode) (K : R → DExit → S → Prop) (σ : S) (t : Option R) : Prop := ∀ r, t = some r → DWp Γ c (K r) σ
def TrX (e : DExit) (K : R → DExit → S → Prop) (σ : S) (t : Option R) : Prop := ∀ r, t = some r → K r e σ
abbrev Foot := List Key × List Key × List Nat
/-- what comes behind a stretch of operations; N: the versions that it uses up, where it may be done in any order -/
structure KR (R : Type) where
  N : Nat
  K : R → DExit → S → Prop
def TrO (Γ : Specs) (ops : List DOper) (nv : Nat) (σ : S) (d : Bool) (acc : List Foot) (K : KR R) (t : Option R) : Prop :=
  ∀ r, t = some r → (d = false → wpS Γ ops nv σ (K.K r .normal)) ∧ (d = true → Dw.wpOps Γ ops nv σ (fun τ => K.K r .normal { τ with n := K.N }) ∧ drawOk (acc ++ feet Γ ops nv σ) = true)

def kReg (N : Nat) (K : R → DExit → S → Prop) : KR R := ⟨N, K⟩
def kSeq (Γ : Specs) (b : DCode) (K : R → DExit → S → Prop) : R → DExit → S → Prop := fun r => DExit.then (Wk (DWp Γ b (K r))) (K r)
def kBlk (id : Nat) (K : R → DExit → S → Prop) : R → DExit → S → Prop := fun r => DExit.inBlock id (K r)
/-- at a cut: the data have a given form -/
def kCut (E : ι → γ → List (Nat × D)) (O : ι → γ → List (Nat × Obj?)) (j : ι → Option R) (K : R → DExit → S → Prop) : R → DExit → S → Prop := fun r e τ =>
  match e with
  | .normal => ∃ s g, j s = some r ∧ Has τ (E s g) (O s g)
  | e => K r e τ
/-- a block at whose end the data have a given form -/
def kBCut (id : Nat) (E : ι → γ → List (Nat × D)) (O : ι → γ → List (Nat × Obj?)) (j : ι → Option R) (K : R → DExit → S → Prop) : R → DExit → S → Prop := fun r e τ =>
  match e with
  | .normal => ∃ s g, j s = some r ∧ Has τ (E s g) (O s g)
  | .exit id' => if id' = id then ∃ s g, j s = some r ∧ Has τ (E s g) (O s g) else K r (.exit id') τ
  | .ret => K r .ret τ
def kLoop (E : ι → γ → List (Nat × D)) (O : ι → γ → List (Nat × Obj?)) (K : R → DExit → S → Prop) : (ι ⊕ R) → DExit → S → Prop := fun x e τ =>
  match x, e with
  | .inl s, .normal => ∃ g, Has τ (E s g) (O s g)
  | .inl _, _ => False
  | .inr _, .normal => False
  | .inr r, e => K r e τ

theorem wpOps_mono : ∀ (ops : List DOper) (nv : Nat) (σ : S) (K K' : S → Prop), (∀ τ, K τ → K' τ) → Dw.wpOps Γ ops nv σ K → Dw.wpOps Γ ops nv σ K'
  | [], _, _, _, _, hK, h => hK _ h
  | _ :: ops, _, _, _, _, hK, h => ⟨h.1, wpOps_mono ops _ _ _ _ hK h.2⟩

theorem Wk.mono {f g : S → Prop} (h : ∀ τ, f τ → g τ) {σ : S} : Wk f σ → Wk g σ := fun ⟨τ, h1, h2⟩ => ⟨τ, h1, h τ h2⟩
theorem xcall_mono {o : DOper} {σ : S} {K K' : S → Prop} (hK : ∀ τ, K τ → K' τ) : xcall Γ o σ K → xcall Γ o σ K' := by
  rintro ⟨h1, fa, args, f, caps, sp, φ, K0, h2, h⟩
  exact ⟨h1, fa, args, f, caps, sp, φ, K0, fun τ hτ => hK τ (h2 τ hτ), h⟩
theorem wpS_mono : ∀ (ops : List DOper) (nv : Nat) (σ : S) (K K' : S → Prop), (∀ τ, K τ → K' τ) → wpS Γ ops nv σ K → wpS Γ ops nv σ K'
  | [], _, _, _, _, hK, h => hK _ h
  | _ :: ops, _, _, _, _, hK, h => h.imp (fun h => ⟨h.1, wpS_mono ops _ _ _ _ hK h.2⟩) (Wk.mono fun _ => xcall_mono fun _ ⟨τ, h1, h2⟩ => ⟨τ, h1, wpS_mono ops _ _ _ _ hK h2⟩)

theorem DWp_mono : ∀ (b : DCode) (Q Q' : DExit → S → Prop) (σ : S), (∀ e τ, Q e τ → Q' e τ) → DWp Γ b Q σ → DWp Γ b Q' σ
  | .skip, _, _, _, h, hd => h _ _ hd
  | .ret, _, _, _, h, hd => h _ _ hd
  | .exit _, _, _, _, h, hd => h _ _ hd
  | .reg ops d, _, _, _, h, hd => Wk.mono (fun τ hq => by
      cases d with
      | true => rw [if_pos rfl] at hq ⊢; exact ⟨wpOps_mono ops _ _ _ _ (fun _ hq => h _ _ hq) hq.1, hq.2⟩
      | false => rw [if_neg (by simp)] at hq ⊢; exact wpS_mono ops _ _ _ _ (fun _ hq => h _ _ hq) hq) hd
  | .seq a b, Q, Q', σ, h, hd => DWp_mono a _ _ σ (fun e τ hq => by
      cases e with
      | normal => exact Wk.mono (fun τ' h' => DWp_mono b _ _ τ' h h') hq
      | exit id => exact h _ _ hq
      | ret => exact h _ _ hq) hd
  | .cond c a b, Q, Q', σ, h, hd => by
    simp only [DWp] at hd ⊢
    generalize evalA σ c = d at *
    cases d <;> try exact hd.elim
    exact ⟨fun ht => DWp_mono a _ _ σ h (hd.1 ht), fun ht => DWp_mono b _ _ σ h (hd.2 ht)⟩
  | .block id b, Q, Q', σ, h, hd => DWp_mono b _ _ σ (fun e τ hq => by
      cases e with
      | normal => exact h _ _ hq
      | ret => exact h _ _ hq
      | exit id' =>
        simp only [DExit.inBlock] at hq ⊢
        split
        · rename_i e; rw [if_pos e] at hq; exact Wk.mono (fun τ' h' => h _ _ h') hq
        · rename_i e; rw [if_neg e] at hq; exact h _ _ hq) hd
  | .loop b, Q, Q', σ, h, ⟨ι, St, μ, i₀, h1, h2⟩ => ⟨ι, St, μ, i₀, h1, fun i => DWp_mono b _ _ _ (fun e τ hq => by
      cases e with
      | normal => exact hq
      | exit id => exact h _ _ hq
      | ret => exact h _ _ hq) (h2 i)⟩

/-! ### Code -/
variable {K : R → DExit → S → Prop} {t t1 t2 : Option R} {e : List (Nat × D)} {o : List (Nat × Obj?)} {n N nv : Nat} {σ τ : S} {a b : DCode}

theorem tr_reg {ops : List DOper} {d : Bool} (h : TrO Γ ops n ⟨e, o, n⟩ d [] (kReg (n + ops.length) K) t) : Tr Γ (.reg ops d) K ⟨e, o, n⟩ t :=
  fun r hr => ⟨_, .refl _, by
    cases d with
    | true => rw [if_pos rfl]; exact (h r hr).2 rfl
    | false => rw [if_neg (by simp)]; exact (h r hr).1 rfl⟩
theorem tr_reg_has {ops : List DOper} {d : Bool} {E : List (Nat × D)} {O : List (Nat × Obj?)} (hh : Has ⟨e, o, n⟩ E O) (h : ∀ n, TrO Γ ops n ⟨E, O, n⟩ d [] (kReg (n + ops.length) K) t) : Tr Γ (.reg ops d) K ⟨e, o, n⟩ t :=
  fun r hr => hh.elim fun m hh => ⟨_, hh, by
    cases d with
    | true => rw [if_pos rfl]; exact (h m r hr).2 rfl
    | false => rw [if_neg (by simp)]; exact (h m r hr).1 rfl⟩
theorem trO_nil {acc : List Foot} (h : TrX .normal K ⟨e, o, nv⟩ t) : TrO Γ [] nv ⟨e, o, n⟩ false acc (kReg N K) t :=
  fun r hr => ⟨fun _ => h r hr, fun hd => by cases hd⟩
theorem trO_nil_draw {acc : List Foot} (ha : drawOk acc = true) (h : TrX .normal K ⟨e, o, N⟩ t) : TrO Γ [] nv ⟨e, o, n⟩ true acc (kReg N K) t :=
  fun r hr => ⟨fun hd => (by cases hd), fun _ => ⟨h r hr, by simpa [feet] using ha⟩⟩
/-- the description of the first state may be changed -/
def TrE (Γ : Specs) (c : DCode) (K : R → DExit → S → Prop) (σ : S) (t : Option R) : Prop := ∀ r, t = some r → Wk (DWp Γ c (K r)) σ
theorem tr_ent (h : Tr Γ a K σ t) : TrE Γ a K σ t := fun r hr => ⟨_, .refl _, h r hr⟩
theorem tr_ent_has {E : List (Nat × D)} {O : List (Nat × Obj?)} (hh : Has σ E O) (h : ∀ n, Tr Γ a K ⟨E, O, n⟩ t) : TrE Γ a K σ t :=
  fun r hr => hh.elim fun n hh => ⟨_, hh, h n r hr⟩
theorem tr_seq (h : Tr Γ a (kSeq Γ b K) σ t) : Tr Γ (.seq a b) K σ t := h
theorem trX_seq (h : Tr Γ b K τ t) : TrX .normal (kSeq Γ b K) τ t := fun r hr => ⟨_, .refl _, h r hr⟩
theorem trX_seq_has {E : List (Nat × D)} {O : List (Nat × Obj?)} (hh : Has τ E O) (h : ∀ n, Tr Γ b K ⟨E, O, n⟩ t) : TrX .normal (kSeq Γ b K) τ t :=
  fun r hr => hh.elim fun n hh => ⟨_, hh, h n r hr⟩
theorem trX_seq_exit {id : Nat} (h : TrX (.exit id) K τ t) : TrX (.exit id) (kSeq Γ b K) τ t := h
theorem trX_seq_ret (h : TrX .ret K τ t) : TrX .ret (kSeq Γ b K) τ t := h
theorem tr_block {id : Nat} (h : Tr Γ b (kBlk id K) σ t) : Tr Γ (.block id b) K σ t := h
theorem trX_blk_normal {id : Nat} (h : TrX .normal K τ t) : TrX .normal (kBlk id K) τ t := h
theorem trX_blk_ret {id : Nat} (h : TrX .ret K τ t) : TrX .ret (kBlk id K) τ t := h
theorem trX_blk_here {id : Nat} (h : TrX .normal K τ t) : TrX (.exit id) (kBlk id K) τ t :=
  fun r hr => by
    show (if id = id then Wk (K r .normal) τ else K r (.exit id) τ)
    rw [if_pos rfl]
    exact ⟨_, .refl _, h r hr⟩
theorem trX_blk_exit {id id' : Nat} (hne : Nat.beq id' id = false) (h : TrX (.exit id') K τ t) : TrX (.exit id') (kBlk id K) τ t :=
  fun r hr => by
    show (if id' = id then Wk (K r .normal) τ else K r (.exit id') τ)
    rw [if_neg (fun e => by subst e; simp at hne)]
    exact h r hr
theorem tr_skip (h : TrX .normal K σ t) : Tr Γ .skip K σ t := h
theorem tr_ret (h : TrX .ret K σ t) : Tr Γ .ret K σ t := h
theorem tr_exit {id : Nat} (h : TrX (.exit id) K σ t) : Tr Γ (.exit id) K σ t := h

def lookB {α : Type} : List (Nat × α) → Nat → Option α
  | [], _ => none
  | (k, x) :: r, t => bif Nat.beq t k then some x else lookB r t
theorem lookB_eq {α : Type} : ∀ (l : List (Nat × α)) (t : Nat), lookB l t = look l t
  | [], _ => rfl
  | (k, x) :: r, t => by
    simp only [lookB, look, lookB_eq r t]
    by_cases h : t = k
    · subst h; simp
    · have : Nat.beq t k = false := by
        cases hb : Nat.beq t k
        · rfl
        · exact absurd (Nat.eq_of_beq_eq_true hb) h
      simp [h, this]
def rdArg (e : List (Nat × D)) : Arg → Option D
  | .t n => lookB e n
  | .c d => some d

theorem tr_cond {x : Arg} {c : Bool} (hx : rdArg e x = some (.bool c)) (h1 : Tr Γ a K ⟨e, o, n⟩ t1) (h2 : Tr Γ b K ⟨e, o, n⟩ t2) : Tr Γ (.cond x a b) K ⟨e, o, n⟩ (bif c then t1 else t2) := by
  intro r hr
  have hv : evalA ⟨e, o, n⟩ x = .bool c := by cases x <;> simp_all [rdArg, evalA, S.ge, lookB_eq]
  simp only [DWp, hv]
  cases c with
  | true => exact ⟨fun _ => h1 r hr, fun h => by cases h⟩
  | false => exact ⟨fun h => (by cases h), fun _ => h2 r hr⟩
theorem tr_cond_true {x : Arg} (hx : rdArg e x = some (.bool true)) (h1 : Tr Γ a K ⟨e, o, n⟩ t) : Tr Γ (.cond x a b) K ⟨e, o, n⟩ t := by
  intro r hr
  have hv : evalA ⟨e, o, n⟩ x = .bool true := by cases x <;> simp_all [rdArg, evalA, S.ge, lookB_eq]
  simp only [DWp, hv]
  exact ⟨fun _ => h1 r hr, fun h => (by cases h)⟩
theorem tr_cond_false {x : Arg} (hx : rdArg e x = some (.bool false)) (h1 : Tr Γ b K ⟨e, o, n⟩ t) : Tr Γ (.cond x a b) K ⟨e, o, n⟩ t := by
  intro r hr
  have hv : evalA ⟨e, o, n⟩ x = .bool false := by cases x <;> simp_all [rdArg, evalA, S.ge, lookB_eq]
  simp only [DWp, hv]
  exact ⟨fun h => (by cases h), fun _ => h1 r hr⟩

/-! ### Cuts and loops -/
variable {E : ι → γ → List (Nat × D)} {O : ι → γ → List (Nat × Obj?)} {j : ι → Option R}

theorem tr_seq_cut (h1 : Tr Γ a (kCut E O j K) σ t) (h2 : ∀ s g n, Tr Γ b K ⟨E s g, O s g, n⟩ (j s)) : Tr Γ (.seq a b) K σ t := by
  intro r hr
  refine DWp_mono a _ _ σ (fun e τ hq => ?_) (h1 r hr)
  cases e with
  | normal =>
    obtain ⟨s, g, hj, m, hw⟩ := hq
    exact ⟨_, hw, h2 s g _ r hj⟩
  | exit id => exact hq
  | ret => exact hq
theorem trX_cut {s : ι} (g : γ) (h : Has τ (E s g) (O s g)) : TrX .normal (kCut E O j K) τ (j s) := fun _ hr => ⟨s, g, hr, h⟩
theorem trX_cut_exit {id : Nat} (h : TrX (.exit id) K τ t) : TrX (.exit id) (kCut E O j K) τ t := h
theorem trX_cut_ret (h : TrX .ret K τ t) : TrX .ret (kCut E O j K) τ t := h

theorem tr_seq_blk_cut {id : Nat} {c : DCode} (h1 : Tr Γ b (kBCut id E O j K) σ t) (h2 : ∀ s g n, Tr Γ c K ⟨E s g, O s g, n⟩ (j s)) : Tr Γ (.seq (.block id b) c) K σ t := by
  intro r hr
  refine DWp_mono b _ _ σ (fun e τ hq => ?_) (h1 r hr)
  cases e with
  | normal =>
    obtain ⟨s, g, hj, m, hw⟩ := hq
    exact ⟨_, hw, h2 s g _ r hj⟩
  | exit id' =>
    simp only [kBCut] at hq
    simp only [DExit.inBlock]
    split
    · rename_i e
      rw [if_pos e] at hq
      obtain ⟨s, g, hj, m, hw⟩ := hq
      exact ⟨_, hw, _, .refl _, h2 s g _ r hj⟩
    · rename_i e
      rw [if_neg e] at hq
      exact hq
  | ret => exact hq
theorem trX_bcut_normal {id : Nat} {s : ι} (g : γ) (h : Has τ (E s g) (O s g)) : TrX .normal (kBCut id E O j K) τ (j s) := fun _ hr => ⟨s, g, hr, h⟩
theorem trX_bcut_here {id : Nat} {s : ι} (g : γ) (h : Has τ (E s g) (O s g)) : TrX (.exit id) (kBCut id E O j K) τ (j s) := fun r hr => by
  show (if id = id then _ else _)
  rw [if_pos rfl]
  exact ⟨s, g, hr, h⟩
theorem trX_bcut_exit {id id' : Nat} (hne : Nat.beq id' id = false) (h : TrX (.exit id') K τ t) : TrX (.exit id') (kBCut id E O j K) τ t := fun r hr => by
  show (if id' = id then _ else _)
  rw [if_neg (fun e => by subst e; simp at hne)]
  exact h r hr
theorem trX_bcut_ret {id : Nat} (h : TrX .ret K τ t) : TrX .ret (kBCut id E O j K) τ t := h

theorem trX_loop {s : ι} (g : γ) (h : Has τ (E s g) (O s g)) : TrX .normal (kLoop E O K) τ (cnt s) := fun r hr => by
  cases hr
  exact ⟨g, h⟩
theorem trX_loop_exit {id : Nat} (h : TrX (.exit id) K τ t) : TrX (.exit id) (kLoop E O K) τ (lft t) := fun r hr => by
  cases t with
  | none => cases hr
  | some x => cases hr; exact h x rfl
theorem trX_loop_ret (h : TrX .ret K τ t) : TrX .ret (kLoop E O K) τ (lft t) := fun r hr => by
  cases t with
  | none => cases hr
  | some x => cases hr; exact h x rfl

theorem tr_loop {body : ι → Option (ι ⊕ R)} {s : ι} (g : γ) (h0 : Has ⟨e, o, n⟩ (E s g) (O s g)) (hb : ∀ s g n, Tr Γ b (kLoop E O K) ⟨E s g, O s g, n⟩ (body s)) : Tr Γ (.loop b) K ⟨e, o, n⟩ (LoopT body s) := by
  intro r hr
  obtain ⟨k, hk⟩ := LoopT_iff.1 hr
  refine ⟨{ x : (ι × γ × Nat) × Nat // iterT body x.2 x.1.1 = some r }, fun x => ⟨E x.1.1.1 x.1.1.2.1, O x.1.1.1 x.1.1.2.1, x.1.1.2.2⟩, fun x => x.1.2, ⟨((s, g, h0.choose), k), hk⟩, h0.choose_spec, ?_⟩
  rintro ⟨⟨⟨s, g, n⟩, k⟩, hk⟩
  simp only at hk
  cases k with
  | zero => cases hk
  | succ k =>
    rw [iterT_succ] at hk
    cases hx : body s with
    | none => rw [hx] at hk; cases hk
    | some x =>
      rw [hx] at hk
      refine DWp_mono b _ _ _ (fun e τ hq => ?_) (hb s g n x hx)
      cases x with
      | inr r' =>
        cases hk
        cases e with
        | normal => exact hq.elim
        | exit id => exact hq
        | ret => exact hq
      | inl s' =>
        cases e with
        | normal =>
          obtain ⟨g', m, hw⟩ := hq
          exact ⟨⟨((s', g', m), k), hk⟩, Nat.lt_succ_self _, hw⟩
        | exit id => exact hq.elim
        | ret => exact hq.elim
end
end Go.Dw
namespace Go.Dw

def rdK : Arg → List Key
  | .t n => [.e n]
  | .c _ => []
def lkO (o : List (Nat × Obj?)) (g : Nat) : Obj? := (lookB o g).getD none
def gOn (e : List (Nat × D)) : Option (Nat × Bool) → Bool
  | none => true
  | some (t, want) => match (lookB e t).getD .top with
    | .bool b => b == want
    | .when p (.bool b) => p && (b == want)
    | _ => false
def gOff (e : List (Nat × D)) : Option (Nat × Bool) → Bool
  | none => false
  | some (t, want) => match (lookB e t).getD .top with
    | .bool b => !(b == want)
    | .when p (.bool b) => !(p && (b == want))
    | _ => false
def gK : Option (Nat × Bool) → List Key
  | none => []
  | some (t, _) => [.e t]

section
variable {Γ : Specs} {X : Type} {K : KR X} {t t1 t2 : Option X} {e : List (Nat × D)} {o : List (Nat × Obj?)} {n nv : Nat} {d : Bool} {acc : List Foot}
  {r : List DOper} {dst : Nat} {g : Option (Nat × Bool)} {af : List Nat} {α : Type}

@[simp] theorem raw_run (x : Arg) : (raw x).run ⟨e, o, n⟩ = (rdArg e x).getD .top := by cases x <;> simp [raw, rdArg, lookB_eq, S.ge]
@[simp] theorem raw_rd (x : Arg) : (raw x).rd ⟨e, o, n⟩ = rdK x := by cases x <;> rfl
@[simp] theorem go_lk (i : Nat) : (S.mk e o n).go i = lkO o i := by simp [S.go, lkO, lookB_eq]
@[simp] theorem rdA_run' (x : Arg) : (rdA x).run ⟨e, o, n⟩ = strip ((rdArg e x).getD .top) := by simp [rdA]
@[simp] theorem rdA_rd' (x : Arg) : (rdA x).rd ⟨e, o, n⟩ = rdK x := by simp [rdA]

/-! typed steps -/
theorem trO_bind {α : Type} {ops : List DOper} {σ : S} {m : Option α} {k : α → Option X} (h : ∀ x, m = some x → TrO Γ ops nv σ d acc K (k x)) : TrO Γ ops nv σ d acc K (m.bind k) := by
  intro r hr
  obtain ⟨x, hx, hk⟩ := Option.bind_eq_some_iff.1 hr
  exact h x hx r hk
theorem trO_chk {ops : List DOper} {σ : S} {p : Prop} [Decidable p] (h : p → TrO Γ ops nv σ d acc K t) : TrO Γ ops nv σ d acc K (chk p t) := by
  intro r hr
  obtain ⟨hp, ht⟩ := chk_some hr
  exact h hp r ht

/-- an operation that is done -/
theorem trO_op {dst : Option Nat} {op : DOp} {c : Prop} {we : List (Nat × D)} {wo : List (Nat × Obj?)} {rd : List Key} (hg : gOn e g = true)
    (hu : (evalOp Γ nv dst op).run ⟨e, o, n⟩ = ⟨c, we, wo⟩) (hrd : (evalOp Γ nv dst op).rd ⟨e, o, n⟩ = rd) (hc : c)
    (h : TrO Γ r (nv + 1) ⟨we ++ e, wo ++ o, n⟩ d (acc ++ [(gK g ++ rd, we.map (fun x => .e x.1) ++ wo.map (fun x => .o x.1), af)]) K t) :
    TrO Γ (⟨dst, op, g, af⟩ :: r) nv ⟨e, o, n⟩ d acc K t := by
  intro x hx
  obtain ⟨h1, h2⟩ := h x hx
  have key : ((evalOper Γ nv ⟨dst, op, g, af⟩).run ⟨e, o, n⟩).c ∧ ((evalOper Γ nv ⟨dst, op, g, af⟩).run ⟨e, o, n⟩).we = we ∧ ((evalOper Γ nv ⟨dst, op, g, af⟩).run ⟨e, o, n⟩).wo = wo ∧
      (evalOper Γ nv ⟨dst, op, g, af⟩).rd ⟨e, o, n⟩ = gK g ++ rd := by
    cases g with
    | none =>
      simp only [evalOper, hu, hrd, gK]
      exact ⟨hc, trivial, trivial, rfl⟩
    | some p =>
      obtain ⟨tt, want⟩ := p
      have hg2 : (guardOf ((S.mk e o n).ge tt) want).2 = true ∧ (guardOf ((S.mk e o n).ge tt) want).1 := by
        simp only [gOn, lookB_eq] at hg
        simp only [S.ge]
        generalize (look e tt).getD .top = dd at *
        cases dd <;> simp_all [guardOf]
        rename_i p dd
        cases dd <;> simp_all
      simp only [evalOper, R.run_ge, R.rd_ge, hg2.1, if_true, R.run_bind, R.rd_bind, R.run_pure, R.rd_pure, hu, hrd, gK]
      exact ⟨⟨hg2.2, hc⟩, trivial, trivial, by simp⟩
  obtain ⟨k1, k2, k3, k4⟩ := key
  have happ : (S.mk e o n).app ((evalOper Γ nv ⟨dst, op, g, af⟩).run ⟨e, o, n⟩) = ⟨we ++ e, wo ++ o, n⟩ := by simp [S.app, k2, k3]
  refine ⟨fun hd => .inl ⟨k1, by rw [happ]; exact h1 hd⟩, fun hd => ⟨⟨k1, by rw [happ]; exact (h2 hd).1⟩, ?_⟩⟩
  have := (h2 hd).2
  simp only [feet, k2, k3, k4, happ]
  simpa using this

/-- an operation that is left out -/
theorem trO_off {op : DOp} (hg : gOff e g = true)
    (h : TrO Γ r (nv + 1) ⟨(dst, .when false (.bool false)) :: e, o, n⟩ d (acc ++ [(gK g, [.e dst], af)]) K t) : TrO Γ (⟨some dst, op, g, af⟩ :: r) nv ⟨e, o, n⟩ d acc K t := by
  intro x hx
  obtain ⟨h1, h2⟩ := h x hx
  cases g with
  | none => cases hg
  | some p =>
    obtain ⟨tt, want⟩ := p
    have hg2 : (guardOf ((S.mk e o n).ge tt) want).2 = false ∧ (guardOf ((S.mk e o n).ge tt) want).1 := by
      simp only [gOff, lookB_eq] at hg
      simp only [S.ge]
      generalize (look e tt).getD .top = dd at *
      cases dd with
      | bool b => simp_all [guardOf]
      | when p dd =>
        cases dd with
        | bool b => cases p <;> simp_all [guardOf]
        | _ => simp at hg
      | _ => simp at hg
    have hu : (evalOper Γ nv ⟨some dst, op, some (tt, want), af⟩).run ⟨e, o, n⟩ = ⟨(guardOf ((S.mk e o n).ge tt) want).1, [(dst, .when false (.bool false))], []⟩ := by
      simp [evalOper, hg2.1, put1]
    have hr : (evalOper Γ nv ⟨some dst, op, some (tt, want), af⟩).rd ⟨e, o, n⟩ = [.e tt] := by
      simp [evalOper, hg2.1]
    refine ⟨fun hd => .inl ⟨by rw [hu]; exact hg2.2, by rw [hu]; exact h1 hd⟩, fun hd => ⟨⟨by rw [hu]; exact hg2.2, by rw [hu]; exact (h2 hd).1⟩, ?_⟩⟩
    have := (h2 hd).2
    simp only [feet, hu, hr]
    simpa [gK, S.app] using this

/-- an entry replaced -/
def setKey : List (Nat × D) → Nat → D → List (Nat × D)
  | [], _, _ => []
  | (k, y) :: r, t, v => bif Nat.beq t k then (k, v) :: r else (k, y) :: setKey r t v
theorem setKey_same : ∀ {e : List (Nat × D)} {x : Nat} {v : D}, lookB e x = some v → setKey e x v = e
  | [], _, _, h => by cases h
  | (k, y) :: r, x, v, h => by
    simp only [lookB] at h
    simp only [setKey]
    cases hb : Nat.beq x k with
    | true =>
      rw [hb] at h
      cases h
      rfl
    | false =>
      rw [hb] at h
      simp only [cond_false] at h ⊢
      rw [setKey_same h]

/-- at a guard that isn't known -/
theorem trO_split {ops : List DOper} (x : Nat) {b : Bool} (hx : lookB e x = some (.bool b)) (h1 : TrO Γ ops nv ⟨setKey e x (.bool true), o, n⟩ d acc K t1) (h2 : TrO Γ ops nv ⟨setKey e x (.bool false), o, n⟩ d acc K t2) :
    TrO Γ ops nv ⟨e, o, n⟩ d acc K (bif b then t1 else t2) := by
  cases b with
  | true => rw [setKey_same hx] at h1; exact h1
  | false => rw [setKey_same hx] at h2; exact h2

/-! ### The operations -/
variable {x y : Arg} {v w : D} {k k' : IntKind} {a b : Int} {s ty gi vi ii off m : Nat} {fz var : Bool} {es : List D} {z z' : D} {l l' : List α} {en : α → D}

attribute [local simp] evalOp put1 putO pure1 strip atPtr
theorem strip_optr (p q u w : Nat) : strip (.optr p q u w) = (true, .optr p q u w) := rfl
theorem strip_bool (p : Bool) : strip (.bool p) = (true, .bool p) := rfl

theorem trO_mv (hg : gOn e g = true) (hx : rdArg e x = some v) (h : TrO Γ r (nv + 1) ⟨(dst, v) :: e, o, n⟩ d (acc ++ [(gK g ++ rdK x, [.e dst], af)]) K t) :
    TrO Γ (⟨some dst, .mv x, g, af⟩ :: r) nv ⟨e, o, n⟩ d acc K t :=
  trO_op hg (c := True) (we := [(dst, v)]) (wo := []) (rd := rdK x) (by simp [hx]) (by simp) trivial h

theorem trO_asg (hg : gOn e g = true) (hx : rdArg e x = some v) (h : TrO Γ r (nv + 1) ⟨(dst, v) :: e, o, n⟩ d (acc ++ [(gK g ++ rdK x, [.e dst], af)]) K t) :
    TrO Γ (⟨some dst, .asg x none, g, af⟩ :: r) nv ⟨e, o, n⟩ d acc K t :=
  trO_op hg (c := True) (we := [(dst, v)]) (wo := []) (rd := rdK x) (by cases v <;> simp [hx]) (by cases v <;> simp [hx]) trivial h

theorem trO_asg_nil (hg : gOn e g = true) (en : α → D) (hx : rdArg e x = some .nils) (h : TrO Γ r (nv + 1) ⟨(dst, .osl dst nv 0 ([] : List α).length) :: e, (dst, some (nv, ⟨false, false, s, ty, ([] : List α).map en⟩)) :: o, n⟩ d (acc ++ [(gK g ++ rdK x, [.e dst, .o dst], af)]) K t) :
    TrO Γ (⟨some dst, .asg x (some (s, ty)), g, af⟩ :: r) nv ⟨e, o, n⟩ d acc K t :=
  trO_op hg (c := True) (we := [(dst, .osl dst nv 0 0)]) (wo := [(dst, some (nv, ⟨false, false, s, ty, []⟩))]) (rd := rdK x) (by simp [hx]) (by simp [hx]) trivial h

theorem trO_asg_sl (hg : gOn e g = true) (hx : rdArg e x = some (.sl es)) (h : TrO Γ r (nv + 1) ⟨(dst, .sl es) :: e, o, n⟩ d (acc ++ [(gK g ++ rdK x, [.e dst], af)]) K t) :
    TrO Γ (⟨some dst, .asg x (some (s, ty)), g, af⟩ :: r) nv ⟨e, o, n⟩ d acc K t :=
  trO_op hg (c := True) (we := [(dst, .sl es)]) (wo := []) (rd := rdK x) (by simp [hx]) (by simp [hx]) trivial h

theorem trO_asg_own {s' ty' q : Nat} (hq : q = l.length) (hg : gOn e g = true) (hx : rdArg e x = some (.osl gi vi 0 q)) (ho : lkO o gi = some (vi, ⟨false, false, s, ty, l.map en⟩))
    (h : TrO Γ r (nv + 1) ⟨(dst, .osl dst nv 0 l.length) :: e, (dst, some (nv, ⟨false, false, s, ty, l.map en⟩)) :: (gi, none) :: o, n⟩ d (acc ++ [(gK g ++ (rdK x ++ [.o gi]), [.e dst, .o dst, .o gi], af)]) K t) (hrg : rich gi = false := by rfl) :
    TrO Γ (⟨some dst, .asg x (some (s', ty')), g, af⟩ :: r) nv ⟨e, o, n⟩ d acc K t :=
  trO_op hg (c := True) (we := [(dst, .osl dst nv 0 l.length)]) (wo := [(dst, some (nv, ⟨false, false, s, ty, l.map en⟩)), (gi, none)]) (rd := rdK x ++ [Key.o gi]) (by subst hq; simp [hx, ho, hrg, nmR, putR]; exact List.take_of_length_le (by simp)) (by simp [hx, ho]) trivial h

/-- a shorter slice of the same object -/
theorem trO_asg_cut {s' ty' q : Nat} (hg : gOn e g = true) (hx : rdArg e x = some (.osl gi vi 0 q)) (ho : lkO o gi = some (vi, ⟨false, false, s, ty, l.map en⟩)) (hq : q ≤ l.length)
    (h : TrO Γ r (nv + 1) ⟨(dst, .osl dst nv 0 (l.take q).length) :: e, (dst, some (nv, ⟨false, false, s, ty, (l.take q).map en⟩)) :: (gi, none) :: o, n⟩ d (acc ++ [(gK g ++ (rdK x ++ [.o gi]), [.e dst, .o dst, .o gi], af)]) K t) (hrg : rich gi = false := by rfl) :
    TrO Γ (⟨some dst, .asg x (some (s', ty')), g, af⟩ :: r) nv ⟨e, o, n⟩ d acc K t :=
  trO_op hg (c := True) (we := [(dst, .osl dst nv 0 (l.take q).length)]) (wo := [(dst, some (nv, ⟨false, false, s, ty, (l.take q).map en⟩)), (gi, none)]) (rd := rdK x ++ [Key.o gi]) (by simp [hx, ho, Nat.min_eq_left hq, hq, hrg, nmR, putR]) (by simp [hx, ho]) trivial h

theorem trO_asg_fz {s' ty' q : Nat} (hq : q = l.length) (hg : gOn e g = true) (hx : rdArg e x = some (.osl gi vi 0 q)) (ho : lkO o gi = some (vi, ⟨true, false, s, ty, l.map en⟩))
    (h : TrO Γ r (nv + 1) ⟨(dst, .sl (l.map en)) :: e, o, n⟩ d (acc ++ [(gK g ++ (rdK x ++ [.o gi]), [.e dst], af)]) K t) :
    TrO Γ (⟨some dst, .asg x (some (s', ty')), g, af⟩ :: r) nv ⟨e, o, n⟩ d acc K t :=
  trO_op hg (c := True) (we := [(dst, .sl (l.map en))]) (wo := []) (rd := rdK x ++ [Key.o gi]) (by subst hq; simp [hx, ho]; exact List.take_of_length_le (by simp)) (by simp [hx, ho]) trivial h

def isB : Option D → Bool
  | some (.bool _) => true
  | some (.when _ (.bool _)) => true
  | _ => false
theorem isB_ok {x : Option D} (h : isB x = true) : ∃ (p q : Bool), strip (x.getD .top) = (p, .bool q) := by
  unfold isB at h
  split at h
  · exact ⟨_, _, rfl⟩
  · exact ⟨_, _, rfl⟩
  · cases h
theorem trO_pick_true {c : Arg} {p : Bool} (hg : gOn e g = true) (hc : rdArg e c = some (.bool true)) (hx : rdArg e x = some (.bool p)) (hy : isB (rdArg e y) = true)
    (h : TrO Γ r (nv + 1) ⟨(dst, .bool p) :: e, o, n⟩ d (acc ++ [(gK g ++ (rdK c ++ (rdK x ++ rdK y)), [.e dst], af)]) K t) :
    TrO Γ (⟨some dst, .pick c x y, g, af⟩ :: r) nv ⟨e, o, n⟩ d acc K t := by
  obtain ⟨b1, q, hq'⟩ := isB_ok hy
  refine trO_op hg (c := True) (we := [(dst, .bool p)]) (wo := []) (rd := rdK c ++ (rdK x ++ rdK y)) ?_ ?_ trivial h
  · simp only [evalOp, R.run_bind, rdA_run', hc, hx, hq', Option.getD_some, strip_bool, R.run_pure, put1]
    simp
  · simp only [evalOp, R.rd_bind, rdA_run', rdA_rd', hc, hx, hq', Option.getD_some, strip_bool, R.rd_pure, List.append_nil]
theorem trO_pick_false {c : Arg} {p : Bool} (hg : gOn e g = true) (hc : rdArg e c = some (.bool false)) (hx : isB (rdArg e x) = true) (hy : rdArg e y = some (.bool p))
    (h : TrO Γ r (nv + 1) ⟨(dst, .bool p) :: e, o, n⟩ d (acc ++ [(gK g ++ (rdK c ++ (rdK x ++ rdK y)), [.e dst], af)]) K t) :
    TrO Γ (⟨some dst, .pick c x y, g, af⟩ :: r) nv ⟨e, o, n⟩ d acc K t := by
  obtain ⟨b1, q, hq'⟩ := isB_ok hx
  refine trO_op hg (c := True) (we := [(dst, .bool p)]) (wo := []) (rd := rdK c ++ (rdK x ++ rdK y)) ?_ ?_ trivial h
  · simp only [evalOp, R.run_bind, rdA_run', hc, hy, hq', Option.getD_some, strip_bool, R.run_pure, put1]
    simp
  · simp only [evalOp, R.rd_bind, rdA_run', rdA_rd', hc, hy, hq', Option.getD_some, strip_bool, R.rd_pure, List.append_nil]

theorem trO_new (hg : gOn e g = true) (h : TrO Γ r (nv + 1) ⟨(dst, .optr dst nv 0 0) :: e, (dst, some (nv, ⟨false, true, s, ty, [z]⟩)) :: o, n⟩ d (acc ++ [(gK g ++ [], [.e dst, .o dst], af)]) K t) :
    TrO Γ (⟨some dst, .new z s ty, g, af⟩ :: r) nv ⟨e, o, n⟩ d acc K t :=
  trO_op hg (c := True) (we := [(dst, .optr dst nv 0 0)]) (wo := [(dst, some (nv, ⟨false, true, s, ty, [z]⟩))]) (rd := []) (by simp) (by simp) trivial h

theorem trO_box (hg : gOn e g = true) (hx : rdArg e x = some v) (hw : strip v = (true, v)) (hk : known v = true) (hl : (cells v).length = s)
    (h : TrO Γ r (nv + 1) ⟨(dst, .optr dst nv 0 0) :: e, (dst, some (nv, ⟨false, true, s, ty, [v]⟩)) :: o, n⟩ d (acc ++ [(gK g ++ rdK x, [.e dst, .o dst], af)]) K t) :
    TrO Γ (⟨some dst, .box x s ty, g, af⟩ :: r) nv ⟨e, o, n⟩ d acc K t :=
  trO_op hg (c := True) (we := [(dst, .optr dst nv 0 0)]) (wo := [(dst, some (nv, ⟨false, true, s, ty, [v]⟩))]) (rd := rdK x) (by simp only [evalOp, R.run_bind, rdA_run', Option.getD_some, hx, hw, R.run_pure, hk, hl, put1, putO, Option.getD_some]; simp) (by simp) trivial h

def rdPartsE (e : List (Nat × D)) : List (Nat × Nat × Arg) → List (Nat × Nat × D)
  | [] => []
  | (a, b, x) :: r => (a, b, (rdArg e x).getD .top) :: rdPartsE e r
def rdPartsK : List (Nat × Nat × Arg) → List Key
  | [] => []
  | (_, _, x) :: r => rdK x ++ rdPartsK r
def fillOkB : Nat → List (Nat × Nat × D) → Bool
  | _, [] => true
  | n, (off, s, d) :: r => known d && (Nat.beq (cells d).length s && (Nat.ble (off + s) n && fillOkB n r))
theorem fillOkB_ok : ∀ {n : Nat} {l : List (Nat × Nat × D)}, fillOkB n l = true → fillOk n l
  | _, [], _ => trivial
  | n, (off, s, d) :: r, h => by
    simp only [fillOkB, Bool.and_eq_true] at h
    exact ⟨h.1, Nat.eq_of_beq_eq_true h.2.1, Nat.le_of_ble_eq_true h.2.2.1, fillOkB_ok h.2.2.2⟩
theorem rdParts_run : ∀ parts : List (Nat × Nat × Arg), (rdParts parts).run ⟨e, o, n⟩ = rdPartsE e parts
  | [] => rfl
  | (a, b, x) :: r => by simp [rdParts, rdPartsE, rdParts_run r]
theorem rdParts_rd : ∀ parts : List (Nat × Nat × Arg), (rdParts parts).rd ⟨e, o, n⟩ = rdPartsK parts
  | [] => rfl
  | (a, b, x) :: r => by simp [rdParts, rdPartsK, rdParts_rd r]
theorem trO_bld {zs cs : List D} {parts : List (Nat × Nat × Arg)} {ps : List (Nat × Nat × D)} (hg : gOn e g = true) (hp : rdPartsE e parts = ps) (hf : fillOkB zs.length ps = true) (hz : fillD zs ps = cs)
    (h : TrO Γ r (nv + 1) ⟨(dst, .agg cs) :: e, o, n⟩ d (acc ++ [(gK g ++ rdPartsK parts, [.e dst], af)]) K t) :
    TrO Γ (⟨some dst, .bld zs parts, g, af⟩ :: r) nv ⟨e, o, n⟩ d acc K t :=
  trO_op hg (c := fillOk zs.length ps) (we := [(dst, .agg cs)]) (wo := []) (rd := rdPartsK parts) (by simp [rdParts_run, hp, hz]) (by simp [rdParts_rd]) (fillOkB_ok hf) h

def elemsOkB (s len : Nat) (ps : List (Nat × D)) : Bool := ps.all fun p => known p.2 && (Nat.beq (cells p.2).length s && Nat.blt p.1 len)
theorem trO_bldS {c : Prop} {len : Nat} {parts : List (Nat × Arg)} {ps : List (Nat × D)} {wo : List (Nat × Obj?)} {rk : List Key} (l : List α) (en : α → D) (hg : gOn e g = true) (hr : (rdElems parts).run ⟨e, o, n⟩ = (c, ps, wo)) (hk : (rdElems parts).rd ⟨e, o, n⟩ = rk) (hc : c)
    (hp : elemsOkB s len ps = true) (hes : fillS (List.replicate len z) ps = l.map en) (hlen : l.length = len)
    (h : TrO Γ r (nv + 1) ⟨(dst, .osl dst nv 0 l.length) :: e, (dst, some (nv, ⟨false, false, s, ty, l.map en⟩)) :: (wo ++ o), n⟩ d (acc ++ [(gK g ++ rk, [.e dst, .o dst] ++ wo.map (fun x => .o x.1), af)]) K t) :
    TrO Γ (⟨some dst, .bldS s ty z len parts, g, af⟩ :: r) nv ⟨e, o, n⟩ d acc K t := by
  have h1 : ∀ p ∈ ps, known p.2 = true ∧ (cells p.2).length = s ∧ p.1 < len := by
    intro p hp'
    have := List.all_eq_true.1 hp p hp'
    simp only [Bool.and_eq_true] at this
    exact ⟨this.1, Nat.eq_of_beq_eq_true this.2.1, by simpa using this.2.2⟩
  subst hlen
  exact trO_op hg (c := c ∧ ∀ p ∈ ps, known p.2 = true ∧ (cells p.2).length = s ∧ p.1 < l.length) (we := [(dst, .osl dst nv 0 l.length)]) (wo := (dst, some (nv, ⟨false, false, s, ty, l.map en⟩)) :: wo) (rd := rk) (by simp [hr, hes]) (by simp [hk]) ⟨hc, h1⟩ (by simpa using h)

theorem map_get {i : Nat} {q : α} (h : l[i]? = some q) : (l.map en)[i]? = some (en q) := by simp [h]

theorem trO_ld_obj {agg : Bool} {i : Nat} (hg : gOn e g = true) (hx : rdArg e x = some (.optr gi vi i off)) (ho : lkO o gi = some (vi, ⟨fz, var, s, ty, es⟩)) (hz : es[i]? = some z) (hb : Nat.ble (off + m) (cells z).length = true) (hv : partD (cells z) off m agg = v)
    (h : TrO Γ r (nv + 1) ⟨(dst, v) :: e, o, n⟩ d (acc ++ [(gK g ++ (rdK x ++ [.o gi]), [.e dst], af)]) K t) (hpl : (plain v || !rich gi) = true := by rfl) :
    TrO Γ (⟨some dst, .ld m agg x, g, af⟩ :: r) nv ⟨e, o, n⟩ d acc K t := by
  obtain ⟨hi, rfl⟩ := List.getElem?_eq_some_iff.1 hz
  have hb' := Nat.le_of_ble_eq_true hb
  have hgd : es.getD i .top = es[i] := by simp [hi]
  refine trO_op hg (c := True) (we := [(dst, v)]) (wo := []) (rd := rdK x ++ [Key.o gi]) ?_ ?_ trivial h
  · simp only [evalOp, R.run_bind, rdA_run', Option.getD_some, hx, strip, R.run_go, go_lk, ho, put1, hgd, hv]
    cases hrg : rich gi with
    | false => simp [hi, hb']
    | true => cases v <;> first | (simp [hi, hb']; done) | (rw [hrg] at hpl; cases hpl)
  · simp only [evalOp, R.rd_bind, rdA_run', rdA_rd', Option.getD_some, hx, strip, R.rd_go, go_lk, ho, hgd, hv]
    cases hrg : rich gi with
    | false => simp
    | true => cases v <;> first | (simp; done) | (rw [hrg] at hpl; cases hpl)

theorem trO_ld_f {agg : Bool} (hg : gOn e g = true) (hx : rdArg e x = some (.fptr z off)) (hb : Nat.ble (off + m) (cells z).length = true) (hv : partD (cells z) off m agg = v)
    (h : TrO Γ r (nv + 1) ⟨(dst, v) :: e, o, n⟩ d (acc ++ [(gK g ++ rdK x, [.e dst], af)]) K t) :
    TrO Γ (⟨some dst, .ld m agg x, g, af⟩ :: r) nv ⟨e, o, n⟩ d acc K t := by
  have hb' := Nat.le_of_ble_eq_true hb
  refine trO_op hg (c := True) (we := [(dst, v)]) (wo := []) (rd := rdK x) ?_ ?_ trivial h
  · simp only [evalOp, R.run_bind, rdA_run', Option.getD_some, hx, strip, atPtr, R.run_ret, R.run_pure, put1]
    simp [hb', hv]
  · simp only [evalOp, R.rd_bind, rdA_run', rdA_rd', Option.getD_some, hx, strip, atPtr, R.rd_ret, R.rd_pure]
    simp

theorem trO_st_var (hg : gOn e g = true) (hx : rdArg e x = some (.optr gi vi 0 off)) (hy : rdArg e y = some v) (hw : strip v = (true, v)) (ho : lkO o gi = some (vi, ⟨false, true, s, ty, [z]⟩)) (hk : known v = true) (hl : (cells v).length = m)
    (hb : Nat.ble (off + m) (cells z).length = true) (hz : setE z off (cells v) = z')
    (h : TrO Γ r (nv + 1) ⟨e, (gi, some (vi, ⟨false, true, s, ty, [z']⟩)) :: o, n⟩ d (acc ++ [(gK g ++ (rdK x ++ (rdK y ++ [.o gi])), [.o gi], af)]) K t) (hrg : rich gi = false := by rfl) :
    TrO Γ (⟨none, .st m x y, g, af⟩ :: r) nv ⟨e, o, n⟩ d acc K t := by
  have hb' := Nat.le_of_ble_eq_true hb
  refine trO_op hg (c := True) (we := []) (wo := [(gi, some (vi, ⟨false, true, s, ty, [z']⟩))]) (rd := rdK x ++ (rdK y ++ [Key.o gi])) ?_ ?_ trivial h
  · simp only [evalOp, R.run_bind, rdA_run', Option.getD_some, hx, hy, hw, strip_optr, R.run_go, go_lk, ho, R.run_ret, hrg, Bool.false_eq_true, if_false, if_true, hk, hl, hz]
    simp [hb', hz]
  · simp only [evalOp, R.rd_bind, rdA_run', rdA_rd', Option.getD_some, hx, hy, hw, strip_optr, R.rd_go, go_lk, ho, R.rd_ret, hrg, Bool.false_eq_true, if_false, if_true]

theorem trO_st_elem {i : Nat} {q q' : α} {c : Prop} {v' : D} {wo : List (Nat × Obj?)} {rk : List Key} (hg : gOn e g = true) (hx : rdArg e x = some (.optr gi vi i off)) (hy : rdArg e y = some v) (hw : strip v = (true, v)) (ho : lkO o gi = some (vi, ⟨false, false, s, ty, l.map en⟩))
    (hr : (res v).run ⟨e, o, n⟩ = (c, v', wo)) (hrd : (res v).rd ⟨e, o, n⟩ = rk) (hc : c) (hi : l[i]? = some q) (hk : known v' = true) (hl : (cells v').length = m) (hb : Nat.ble (off + m) (cells (en q)).length = true)
    (hz : setE (en q) off (cells v') = en q') (hwo : wo.all (fun x => x.1 != gi) = true)
    (h : TrO Γ r (nv + 1) ⟨e, (gi, some (vi, ⟨false, false, s, ty, (l.set i q').map en⟩)) :: (wo ++ o), n⟩ d (acc ++ [(gK g ++ (rdK x ++ (rdK y ++ (.o gi :: rk))), .o gi :: wo.map (fun x => .o x.1), af)]) K t) (hrg : rich gi = false := by rfl) :
    TrO Γ (⟨none, .st m x y, g, af⟩ :: r) nv ⟨e, o, n⟩ d acc K t := by
  have hb' := Nat.le_of_ble_eq_true hb
  obtain ⟨hi', rfl⟩ := List.getElem?_eq_some_iff.1 hi
  refine trO_op hg (c := True) (we := []) (wo := (gi, some (vi, ⟨false, false, s, ty, (l.set i q').map en⟩)) :: wo) (rd := rdK x ++ (rdK y ++ (Key.o gi :: rk))) ?_ ?_ trivial (by simpa using h)
  · simp only [evalOp, R.run_bind, rdA_run', Option.getD_some, hx, hy, hw, strip_optr, R.run_go, go_lk, ho, hrg, Bool.false_eq_true, if_false, R.run_ret, hr, R.run_pure]
    have hq : (l.map en).getD i .top = en l[i] := by simp [hi']
    rw [hq, hz]
    simp [hc, hi', hb', hk, hl, hwo, ← List.map_set]
  · simp only [evalOp, R.rd_bind, rdA_run', rdA_rd', Option.getD_some, hx, hy, hw, strip_optr, R.rd_go, go_lk, ho, R.rd_ret, hrg, Bool.false_eq_true, if_false, hrd, hr, R.rd_pure]
    simp

theorem trO_nilck (hg : gOn e g = true) (hx : rdArg e x = some v) (hv : (match v with | .optr .. | .fptr .. => true | _ => false) = true) (h : TrO Γ r (nv + 1) ⟨(dst, v) :: e, o, n⟩ d (acc ++ [(gK g ++ rdK x, [.e dst], af)]) K t) :
    TrO Γ (⟨some dst, .nilck x, g, af⟩ :: r) nv ⟨e, o, n⟩ d acc K t :=
  trO_op hg (c := True) (we := [(dst, v)]) (wo := []) (rd := rdK x) (by cases v <;> simp [hx] at hv ⊢) (by cases v <;> simp [hx] at hv ⊢) trivial h

theorem trO_bin {op : BinOp} {c : Prop} (hg : gOn e g = true) (hx : rdArg e x = some (.int k a)) (hy : rdArg e y = some (.int k' b)) (hb : binD op (.int k a) (.int k' b) = (c, v)) (hc : c)
    (h : TrO Γ r (nv + 1) ⟨(dst, v) :: e, o, n⟩ d (acc ++ [(gK g ++ (rdK x ++ rdK y), [.e dst], af)]) K t) :
    TrO Γ (⟨some dst, .bin op x y, g, af⟩ :: r) nv ⟨e, o, n⟩ d acc K t :=
  trO_op hg (c := c) (we := [(dst, v)]) (wo := []) (rd := rdK x ++ rdK y) (by simp [hx, hy, hb]) (by simp) hc h
theorem trO_bin_str {op : BinOp} {c : Prop} {p q : List UInt8} (hg : gOn e g = true) (hx : rdArg e x = some (.str p)) (hy : rdArg e y = some (.str q)) (hb : binD op (.str p) (.str q) = (c, v)) (hc : c)
    (h : TrO Γ r (nv + 1) ⟨(dst, v) :: e, o, n⟩ d (acc ++ [(gK g ++ (rdK x ++ rdK y), [.e dst], af)]) K t) :
    TrO Γ (⟨some dst, .bin op x y, g, af⟩ :: r) nv ⟨e, o, n⟩ d acc K t :=
  trO_op hg (c := c) (we := [(dst, v)]) (wo := []) (rd := rdK x ++ rdK y) (by simp [hx, hy, hb]) (by simp) hc h
theorem trO_eqB {neg p q : Bool} (hg : gOn e g = true) (hx : rdArg e x = some (.bool p)) (hy : rdArg e y = some (.bool q))
    (h : TrO Γ r (nv + 1) ⟨(dst, .bool (if neg then !(p == q) else (p == q))) :: e, o, n⟩ d (acc ++ [(gK g ++ (rdK x ++ rdK y), [.e dst], af)]) K t) :
    TrO Γ (⟨some dst, .eqB neg x y, g, af⟩ :: r) nv ⟨e, o, n⟩ d acc K t :=
  trO_op hg (c := True) (we := [(dst, .bool (if neg then !(p == q) else (p == q)))]) (wo := []) (rd := rdK x ++ rdK y) (by simp [hx, hy]) (by simp [hx, hy]) trivial h
theorem trO_eqA {neg p : Bool} {c : Prop} {cs cs' : List D} (hg : gOn e g = true) (hx : rdArg e x = some (.agg cs)) (hy : rdArg e y = some (.agg cs')) (hq : eqL cs cs' = (c, p)) (hc : c) (hn : Nat.beq cs.length m = true)
    (h : TrO Γ r (nv + 1) ⟨(dst, .bool (if neg then !p else p)) :: e, o, n⟩ d (acc ++ [(gK g ++ (rdK x ++ rdK y), [.e dst], af)]) K t) :
    TrO Γ (⟨some dst, .eqA m neg x y, g, af⟩ :: r) nv ⟨e, o, n⟩ d acc K t := by
  have hn' := Nat.eq_of_beq_eq_true hn
  exact trO_op hg (c := True) (we := [(dst, .bool (if neg then !p else p))]) (wo := []) (rd := rdK x ++ rdK y) (by simp [hx, hy, hq, hc, hn']) (by simp [hx, hy]) trivial h
theorem trO_un {op : UnOp} {c : Prop} (hg : gOn e g = true) (hx : rdArg e x = some v) (hw : strip v = (true, v)) (hb : unD op v = (c, w)) (hc : c)
    (h : TrO Γ r (nv + 1) ⟨(dst, w) :: e, o, n⟩ d (acc ++ [(gK g ++ rdK x, [.e dst], af)]) K t) :
    TrO Γ (⟨some dst, .un op x, g, af⟩ :: r) nv ⟨e, o, n⟩ d acc K t :=
  trO_op hg (c := c) (we := [(dst, w)]) (wo := []) (rd := rdK x) (by simp only [evalOp, R.run_bind, rdA_run', Option.getD_some, hx, hw, hb, R.run_pure, pure1, put1]; simp) (by simp) hc h
theorem trO_cvt (hg : gOn e g = true) (hx : rdArg e x = some (.int k' a)) (h : TrO Γ r (nv + 1) ⟨(dst, .int k (k.wrap a)) :: e, o, n⟩ d (acc ++ [(gK g ++ rdK x, [.e dst], af)]) K t) :
    TrO Γ (⟨some dst, .cvt k x, g, af⟩ :: r) nv ⟨e, o, n⟩ d acc K t :=
  trO_op hg (c := True) (we := [(dst, .int k (k.wrap a))]) (wo := []) (rd := rdK x) (by simp [hx]) (by simp [hx]) trivial h

theorem trO_mkS {bytes : Nat} {q : α} (en : α → D) (hg : gOn e g = true) (hx : rdArg e x = some (.int k a)) (hy : rdArg e y = some (.int k' a)) (hz : z = en q) (hl : 0 ≤ a ∧ a ≤ 16777216) (hby : Nat.ble bytes 65536 = true)
    (h : TrO Γ r (nv + 1) ⟨(dst, .osl dst nv 0 (List.replicate a.toNat q).length) :: e, (dst, some (nv, ⟨false, false, s, ty, (List.replicate a.toNat q).map en⟩)) :: o, n⟩ d (acc ++ [(gK g ++ (rdK x ++ rdK y), [.e dst, .o dst], af)]) K t) :
    TrO Γ (⟨some dst, .mkS s ty bytes z x y, g, af⟩ :: r) nv ⟨e, o, n⟩ d acc K t := by
  have := Nat.le_of_ble_eq_true hby
  subst hz
  exact trO_op hg (c := True) (we := [(dst, .osl dst nv 0 (List.replicate a.toNat q).length)]) (wo := [(dst, some (nv, ⟨false, false, s, ty, (List.replicate a.toNat q).map en⟩))]) (rd := rdK x ++ rdK y) (by simp [hx, hy, hl, this]) (by simp [hx, hy]) trivial h

theorem trO_fldA (hg : gOn e g = true) {i : Nat} (hx : rdArg e x = some (.optr gi vi i off)) (h : TrO Γ r (nv + 1) ⟨(dst, .optr gi vi i (off + m)) :: e, o, n⟩ d (acc ++ [(gK g ++ rdK x, [.e dst], af)]) K t) :
    TrO Γ (⟨some dst, .fldA m x, g, af⟩ :: r) nv ⟨e, o, n⟩ d acc K t :=
  trO_op hg (c := True) (we := [(dst, .optr gi vi i (off + m))]) (wo := []) (rd := rdK x) (by simp [hx]) (by simp [hx]) trivial h
theorem trO_fldA_f (hg : gOn e g = true) (hx : rdArg e x = some (.fptr z off)) (h : TrO Γ r (nv + 1) ⟨(dst, .fptr z (off + m)) :: e, o, n⟩ d (acc ++ [(gK g ++ rdK x, [.e dst], af)]) K t) :
    TrO Γ (⟨some dst, .fldA m x, g, af⟩ :: r) nv ⟨e, o, n⟩ d acc K t :=
  trO_op hg (c := True) (we := [(dst, .fptr z (off + m))]) (wo := []) (rd := rdK x) (by simp [hx]) (by simp [hx]) trivial h
theorem trO_fld {cs : List D} {agg : Bool} (hg : gOn e g = true) (hx : rdArg e x = some (.agg cs)) (hb : Nat.ble (off + m) cs.length = true) (hv : partD cs off m agg = v)
    (h : TrO Γ r (nv + 1) ⟨(dst, v) :: e, o, n⟩ d (acc ++ [(gK g ++ rdK x, [.e dst], af)]) K t) :
    TrO Γ (⟨some dst, .fld off m agg x, g, af⟩ :: r) nv ⟨e, o, n⟩ d acc K t := by
  have hb' := Nat.le_of_ble_eq_true hb
  exact trO_op hg (c := True) (we := [(dst, v)]) (wo := []) (rd := rdK x) (by simp [hx, hb', hv]) (by simp [hx]) trivial h

theorem trO_ixA_sl {q : α} (hg : gOn e g = true) (hx : rdArg e x = some (.sl (l.map en))) (hy : rdArg e y = some (.int k a)) (hi : ixO l a = some q) (hs : (cells (en q)).length = s)
    (h : TrO Γ r (nv + 1) ⟨(dst, .fptr (en q) 0) :: e, o, n⟩ d (acc ++ [(gK g ++ (rdK x ++ rdK y), [.e dst], af)]) K t) :
    TrO Γ (⟨some dst, .ixA s x y, g, af⟩ :: r) nv ⟨e, o, n⟩ d acc K t := by
  obtain ⟨h0, h1, h2⟩ := ixO_some hi
  refine trO_op hg (c := True) (we := [(dst, .fptr (en q) 0)]) (wo := []) (rd := rdK x ++ rdK y) ?_ (by simp [hx, hy]) trivial h
  have hq : (l.map en).getD a.toNat .top = en q := by simp [h2]
  simp only [evalOp, R.run_bind, rdA_run', Option.getD_some, hx, hy, strip, R.run_pure, put1, hq, hs]
  simp [h0, h1]
theorem trO_ixA_own {q : Nat} (hq : q = l.length) (hg : gOn e g = true) (hx : rdArg e x = some (.osl gi vi 0 q)) (hy : rdArg e y = some (.int k a)) (ho : lkO o gi = some (vi, ⟨fz, false, s, ty, l.map en⟩)) (hi : 0 ≤ a ∧ a < l.length)
    (h : TrO Γ r (nv + 1) ⟨(dst, .optr gi vi a.toNat 0) :: e, o, n⟩ d (acc ++ [(gK g ++ (rdK x ++ (rdK y ++ [.o gi])), [.e dst], af)]) K t) :
    TrO Γ (⟨some dst, .ixA s x y, g, af⟩ :: r) nv ⟨e, o, n⟩ d acc K t := by
  subst hq
  refine trO_op hg (c := True) (we := [(dst, .optr gi vi a.toNat 0)]) (wo := []) (rd := rdK x ++ (rdK y ++ [Key.o gi])) ?_ (by simp [hx, hy, ho]) trivial h
  simp only [evalOp, R.run_bind, rdA_run', Option.getD_some, hx, hy, strip, R.run_go, go_lk, ho, R.run_ret, put1]
  simp [hi.1, hi.2]

theorem trO_ext {ds : List D} {i : Nat} (hg : gOn e g = true) (hx : rdArg e x = some (.tup ds)) (hi : ds[i]? = some v) (h : TrO Γ r (nv + 1) ⟨(dst, v) :: e, o, n⟩ d (acc ++ [(gK g ++ rdK x, [.e dst], af)]) K t) :
    TrO Γ (⟨some dst, .ext x i, g, af⟩ :: r) nv ⟨e, o, n⟩ d acc K t := by
  have hl := (List.getElem?_eq_some_iff.1 hi).1
  exact trO_op hg (c := True) (we := [(dst, v)]) (wo := []) (rd := rdK x) (by have := (List.getElem?_eq_some_iff.1 hi).2; simp [hx, hl, this]) (by simp [hx]) trivial h

theorem trO_len_sl (hg : gOn e g = true) (hx : rdArg e x = some (.sl (l.map en))) (h : TrO Γ r (nv + 1) ⟨(dst, .int .i64 l.length) :: e, o, n⟩ d (acc ++ [(gK g ++ rdK x, [.e dst], af)]) K t) :
    TrO Γ (⟨some dst, .len false x, g, af⟩ :: r) nv ⟨e, o, n⟩ d acc K t :=
  trO_op hg (c := True) (we := [(dst, .int .i64 l.length)]) (wo := []) (rd := rdK x) (by simp [hx]) (by simp [hx]) trivial h
theorem trO_len_own {i q : Nat} (hg : gOn e g = true) (hx : rdArg e x = some (.osl gi vi i q)) (h : TrO Γ r (nv + 1) ⟨(dst, .int .i64 q) :: e, o, n⟩ d (acc ++ [(gK g ++ rdK x, [.e dst], af)]) K t) :
    TrO Γ (⟨some dst, .len false x, g, af⟩ :: r) nv ⟨e, o, n⟩ d acc K t :=
  trO_op hg (c := True) (we := [(dst, .int .i64 q)]) (wo := []) (rd := rdK x) (by simp [hx]) (by simp [hx]) trivial h
theorem trO_len_nil (hg : gOn e g = true) (hx : rdArg e x = some .nils) (h : TrO Γ r (nv + 1) ⟨(dst, .int .i64 0) :: e, o, n⟩ d (acc ++ [(gK g ++ rdK x, [.e dst], af)]) K t) :
    TrO Γ (⟨some dst, .len false x, g, af⟩ :: r) nv ⟨e, o, n⟩ d acc K t :=
  trO_op hg (c := True) (we := [(dst, .int .i64 0)]) (wo := []) (rd := rdK x) (by simp [hx]) (by simp [hx]) trivial h
theorem trO_len_str {p : List UInt8} (hg : gOn e g = true) (hx : rdArg e x = some (.str p)) (h : TrO Γ r (nv + 1) ⟨(dst, .int .i64 p.length) :: e, o, n⟩ d (acc ++ [(gK g ++ rdK x, [.e dst], af)]) K t) :
    TrO Γ (⟨some dst, .len true x, g, af⟩ :: r) nv ⟨e, o, n⟩ d acc K t :=
  trO_op hg (c := True) (we := [(dst, .int .i64 p.length)]) (wo := []) (rd := rdK x) (by simp [hx]) (by simp [hx]) trivial h

/-- append: what is appended ('view') and onto what ('target') are met by reckoning -/
theorem trO_app {bytes : Nat} {c c' : Prop} {new old : List D} {wo : List (Nat × Obj?)} {rk rk' : List Key} (l l' : List α) (en : α → D) (hg : gOn e g = true) (hx : rdArg e x = some v) (hy : rdArg e y = some w) (hvw : strip v = (true, v)) (hww : strip w = (true, w))
    (hv : (view w).run ⟨e, o, n⟩ = (c, new)) (hvr : (view w).rd ⟨e, o, n⟩ = rk) (hc : c) (hn : new = l'.map en)
    (ht : (target s ty v).run ⟨e, o, n⟩ = (c', old, wo, false)) (htr : (target s ty v).rd ⟨e, o, n⟩ = rk') (hc' : c') (ho : old = l.map en)
    (hs : ∀ q, (cells (en q)).length = s) (hby : Nat.ble bytes 65536 = true) (hl : l.length + l'.length ≤ 16777216)
    (h : TrO Γ r (nv + 1) ⟨(dst, .osl dst nv 0 (l ++ l').length) :: e, (dst, some (nv, ⟨false, false, s, ty, (l ++ l').map en⟩)) :: (wo ++ o), n⟩ d (acc ++ [(gK g ++ (rdK x ++ (rdK y ++ (rk ++ rk'))), [.e dst, .o dst] ++ wo.map (fun x => .o x.1), af)]) K t) :
    TrO Γ (⟨some dst, .app s ty bytes x y, g, af⟩ :: r) nv ⟨e, o, n⟩ d acc K t := by
  have hb' := Nat.le_of_ble_eq_true hby
  subst hn; subst ho
  refine trO_op hg (c := True) (we := [(dst, .osl dst nv 0 (l ++ l').length)]) (wo := (dst, some (nv, ⟨false, false, s, ty, (l ++ l').map en⟩)) :: wo) (rd := rdK x ++ (rdK y ++ (rk ++ rk'))) ?_ ?_ trivial (by simpa using h)
  · simp only [evalOp, R.run_bind, rdA_run', Option.getD_some, hx, hy, hvw, hww, source, hv, ht, R.run_pure, put1, putR, nmR, cond_false]
    simp [hc, hc', hl, hb', hs]
  · simp only [evalOp, R.rd_bind, rdA_run', rdA_rd', Option.getD_some, hx, hy, hvw, hww, source, hv, hvr, htr, R.rd_pure]
    simp

theorem trO_max (hg : gOn e g = true) (hx : rdArg e x = some (.int k a)) (hy : rdArg e y = some (.int k b)) (h : TrO Γ r (nv + 1) ⟨(dst, .int k (maxI a b)) :: e, o, n⟩ d (acc ++ [(gK g ++ (rdK x ++ rdK y), [.e dst], af)]) K t) :
    TrO Γ (⟨some dst, .max [x, y], g, af⟩ :: r) nv ⟨e, o, n⟩ d acc K t :=
  trO_op hg (c := True) (we := [(dst, .int k (maxI a b))]) (wo := []) (rd := rdK x ++ rdK y) (by simp [rdAs, hx, hy, int2]) (by simp [rdAs, hx, hy]) trivial h
theorem trO_min (hg : gOn e g = true) (hx : rdArg e x = some (.int k a)) (hy : rdArg e y = some (.int k b)) (h : TrO Γ r (nv + 1) ⟨(dst, .int k (minI a b)) :: e, o, n⟩ d (acc ++ [(gK g ++ (rdK x ++ rdK y), [.e dst], af)]) K t) :
    TrO Γ (⟨some dst, .min [x, y], g, af⟩ :: r) nv ⟨e, o, n⟩ d acc K t :=
  trO_op hg (c := True) (we := [(dst, .int k (minI a b))]) (wo := []) (rd := rdK x ++ rdK y) (by simp [rdAs, hx, hy, int2]) (by simp [rdAs, hx, hy]) trivial h

/-- slices of slices -/
theorem trO_slc_sl_hi {hi : Arg} (hg : gOn e g = true) (hx : rdArg e x = some (.sl (l.map en))) (hy : rdArg e hi = some (.int k a)) (hs : ∀ q, (cells (en q)).length = s) (hp : Nat.blt 0 s = true) (hl : 0 ≤ a ∧ a ≤ l.length)
    (h : TrO Γ r (nv + 1) ⟨(dst, .sl ((l.take a.toNat).map en)) :: e, o, n⟩ d (acc ++ [(gK g ++ (rdK x ++ rdK hi), [.e dst], af)]) K t) :
    TrO Γ (⟨some dst, .slc s x none (some hi), g, af⟩ :: r) nv ⟨e, o, n⟩ d acc K t := by
  have hp' : 0 < s := by simpa using hp
  refine trO_op hg (c := True) (we := [(dst, .sl ((l.take a.toNat).map en))]) (wo := []) (rd := rdK x ++ rdK hi) ?_ ?_ trivial h
  · simp only [evalOp, R.run_bind, rdA_run', Option.getD_some, hx, hy, strip, rdOpt, R.run_ret, R.run_pure, raw_run, fits, sliceD, bound, pure1, put1]
    simp [hl, hs, hp', List.map_take]
  · simp [rdOpt, hx, hy, fits]
theorem trO_slc_sl_lo {lo : Arg} (hg : gOn e g = true) (hx : rdArg e x = some (.sl (l.map en))) (hy : rdArg e lo = some (.int k a)) (hs : ∀ q, (cells (en q)).length = s) (hp : Nat.blt 0 s = true) (hl : 0 ≤ a ∧ a ≤ l.length)
    (h : TrO Γ r (nv + 1) ⟨(dst, .sl ((l.drop a.toNat).map en)) :: e, o, n⟩ d (acc ++ [(gK g ++ (rdK x ++ rdK lo), [.e dst], af)]) K t) :
    TrO Γ (⟨some dst, .slc s x (some lo) none, g, af⟩ :: r) nv ⟨e, o, n⟩ d acc K t := by
  have hp' : 0 < s := by simpa using hp
  refine trO_op hg (c := True) (we := [(dst, .sl ((l.drop a.toNat).map en))]) (wo := []) (rd := rdK x ++ rdK lo) ?_ ?_ trivial h
  · have ht : List.take (l.length - a.toNat) (List.drop a.toNat (l.map en)) = (l.drop a.toNat).map en := by
      rw [← List.map_drop]; exact List.take_of_length_le (by simp)
    simp only [evalOp, R.run_bind, rdA_run', Option.getD_some, hx, hy, strip, rdOpt, R.run_ret, R.run_pure, raw_run, fits, sliceD, bound, pure1, put1, List.length_map, Int.toNat_natCast]
    rw [ht]
    simp [hl, hs, hp']
  · simp [rdOpt, hx, hy, fits]
theorem trO_slc_own_hi {hi : Arg} {q : Nat} (hq : q = l.length) (hg : gOn e g = true) (hx : rdArg e x = some (.osl gi vi 0 q)) (hy : rdArg e hi = some (.int k a)) (ho : lkO o gi = some (vi, ⟨fz, var, s, ty, es⟩)) (hp : Nat.blt 0 s = true) (hl : 0 ≤ a ∧ a ≤ l.length)
    (h : TrO Γ r (nv + 1) ⟨(dst, .osl gi vi 0 a.toNat) :: e, o, n⟩ d (acc ++ [(gK g ++ (rdK x ++ (rdK hi ++ [.o gi])), [.e dst], af)]) K t) :
    TrO Γ (⟨some dst, .slc s x none (some hi), g, af⟩ :: r) nv ⟨e, o, n⟩ d acc K t := by
  subst hq
  have hp' : 0 < s := by simpa using hp
  refine trO_op hg (c := True) (we := [(dst, .osl gi vi 0 a.toNat)]) (wo := []) (rd := rdK x ++ (rdK hi ++ [Key.o gi])) ?_ ?_ trivial h
  · simp only [evalOp, R.run_bind, rdA_run', Option.getD_some, hx, hy, strip, rdOpt, R.run_ret, R.run_pure, raw_run, fits, R.run_go, go_lk, ho, sliceD, bound, pure1, put1]
    simp [hl, hp']
  · simp [rdOpt, hx, hy, fits, ho]
theorem trO_slc_own_lo {lo : Arg} {q : Nat} (hq : q = l.length) (hg : gOn e g = true) (hx : rdArg e x = some (.osl gi vi 0 q)) (hy : rdArg e lo = some (.int k a)) (ho : lkO o gi = some (vi, ⟨fz, var, s, ty, es⟩)) (hp : Nat.blt 0 s = true) (hl : 0 ≤ a ∧ a ≤ l.length)
    (h : TrO Γ r (nv + 1) ⟨(dst, .osl gi vi a.toNat (l.length - a.toNat)) :: e, o, n⟩ d (acc ++ [(gK g ++ (rdK x ++ (rdK lo ++ [.o gi])), [.e dst], af)]) K t) :
    TrO Γ (⟨some dst, .slc s x (some lo) none, g, af⟩ :: r) nv ⟨e, o, n⟩ d acc K t := by
  subst hq
  have hp' : 0 < s := by simpa using hp
  refine trO_op hg (c := True) (we := [(dst, .osl gi vi a.toNat (l.length - a.toNat))]) (wo := []) (rd := rdK x ++ (rdK lo ++ [Key.o gi])) ?_ ?_ trivial h
  · simp only [evalOp, R.run_bind, rdA_run', Option.getD_some, hx, hy, strip, rdOpt, R.run_ret, R.run_pure, raw_run, fits, R.run_go, go_lk, ho, sliceD, bound, pure1, put1]
    simp [hl, hp']
  · simp [rdOpt, hx, hy, fits, ho]
theorem trO_slc_sl {lo hi : Arg} {k2 : IntKind} (hg : gOn e g = true) (hx : rdArg e x = some (.sl (l.map en))) (hy : rdArg e lo = some (.int k a)) (hz : rdArg e hi = some (.int k2 b)) (hs : ∀ q, (cells (en q)).length = s) (hp : Nat.blt 0 s = true) (hl : 0 ≤ a ∧ a ≤ b ∧ b ≤ l.length)
    (h : TrO Γ r (nv + 1) ⟨(dst, .sl (((l.drop a.toNat).take (b.toNat - a.toNat)).map en)) :: e, o, n⟩ d (acc ++ [(gK g ++ (rdK x ++ (rdK lo ++ rdK hi)), [.e dst], af)]) K t) :
    TrO Γ (⟨some dst, .slc s x (some lo) (some hi), g, af⟩ :: r) nv ⟨e, o, n⟩ d acc K t := by
  have hp' : 0 < s := by simpa using hp
  refine trO_op hg (c := True) (we := [(dst, .sl (((l.drop a.toNat).take (b.toNat - a.toNat)).map en))]) (wo := []) (rd := rdK x ++ (rdK lo ++ rdK hi)) ?_ ?_ trivial h
  · simp only [evalOp, R.run_bind, rdA_run', Option.getD_some, hx, hy, hz, strip, rdOpt, R.run_ret, R.run_pure, raw_run, fits, sliceD, bound, pure1, put1]
    simp [hl, hs, hp', List.map_take, List.map_drop]
  · simp [rdOpt, hx, hy, hz, fits]
end
end Go.Dw
namespace Go.Dw

section
variable {A B : Type}

/-- the spec that says: the function does what 'f' says of data -/
def fSpec (ptr : List (Nat × (Nat × Nat))) (kind : Kind) (enc : A → List D) (dec : List D → A) (f : A → Option B) (encR : B → D) (encE : B → List D) : Spec where
  ptr := ptr
  kind := kind
  pre := fun ds => ∃ a b, ds = enc a ∧ f a = some b
  res := fun ds => match f (dec ds) with | some b => encR b | none => .top
  eff := fun ds => match f (dec ds) with | some b => encE b | none => []

variable {ptr : List (Nat × (Nat × Nat))} {kind : Kind} {enc : A → List D} {dec : List D → A} {f : A → Option B} {encR : B → D} {encE : B → List D} {a : A} {b : B}

theorem fSpec_res (hde : ∀ a, dec (enc a) = a) (hf : f a = some b) : (fSpec ptr kind enc dec f encR encE).res (enc a) = encR b := by simp [fSpec, hde, hf]
theorem fSpec_eff (hde : ∀ a, dec (enc a) = a) (hf : f a = some b) : (fSpec ptr kind enc dec f encR encE).eff (enc a) = encE b := by simp [fSpec, hde, hf]

/-- where a function returns -/
def kRet (ptr : List (Nat × (Nat × Nat))) (kind : Kind) (rs : List DRes) (encR : B → D) (encE : B → List D) : B → DExit → S → Prop := fun b e τ =>
  match e with
  | .exit _ => False
  | _ => Wk (RetOk ⟨ptr, kind, fun _ => True, fun _ => encR b, fun _ => encE b⟩ rs []) τ

theorem fn_ok {P : Program} {Γ : Specs} (hΓ : ∀ k sp, Γ k = some sp → SpecOk P (k % 4096) sp) {k : Nat} {fn : Func} {dc : DCode} {rs : List DRes} (hf : P.funcs[k]? = some fn) (hname : (fn.name == "runtime.NumGoroutine") = false)
    (hc : (fn.body.bind (cCode P fn.ntmps)) = some dc) (hr : fn.results.toList.mapM (cRes P) = some rs) {np : Nat} (hnp : np ≤ fn.ntmps) (hde : ∀ a, dec (enc a) = a) (hlen : ∀ a, (enc a).length = np) (hkeys : ∀ a, argKeys ptr 0 (enc a) = ptr.map Prod.fst) (hptr : ptrOk ptr = true)
    (hT : ∀ a, TrE Γ dc (kRet ptr kind rs encR encE) ⟨initE ptr 0 (enc a), initO ptr 0 (enc a), 262144⟩ (f a)) (hni : inplOf kind = none := by rfl) (hno : opnOf kind = none := by rfl) : SpecOk P k (fSpec ptr kind enc dec f encR encE) := by
  refine fun_ok' hΓ hf hname hc hr hnp (by rintro ds ⟨a, b, rfl, _⟩; exact ⟨hlen a, hkeys a⟩) hptr ?_ hni hno
  rintro ds ⟨a, b, rfl, hb⟩ _
  have h := hT a b hb
  refine h.mono fun τ0 h => DWp_mono _ _ _ _ (fun e τ hq => ?_) h
  have key : ∀ τ, RetOk ⟨ptr, kind, fun _ => True, fun _ => encR b, fun _ => encE b⟩ rs [] τ → RetOk (fSpec ptr kind enc dec f encR encE) rs (enc a) τ := by
    simp only [RetOk, fSpec_res hde hb, fSpec_eff hde hb]
    exact fun _ h => h
  cases e with
  | exit id => exact hq.elim
  | normal => exact hq.mono key
  | ret => exact hq.mono key
end

def rdArgs (e : List (Nat × D)) : List Arg → List D
  | [] => []
  | x :: r => (rdArg e x).getD .top :: rdArgs e r
def rdKs : List Arg → List Key
  | [] => []
  | x :: r => rdK x ++ rdKs r

section
variable {Γ : Specs} {X A B : Type} {K : KR X} {t : Option X} {e : List (Nat × D)} {o : List (Nat × Obj?)} {n nv : Nat} {d : Bool} {acc : List Foot}
  {r : List DOper} {dst : Nat} {g : Option (Nat × Bool)} {af : List Nat} {α : Type}
  {ptr : List (Nat × (Nat × Nat))} {kind : Kind} {enc : A → List D} {dec : List D → A} {f : A → Option B} {encR : B → D} {encE : B → List D} {b : B}
  {fa : Arg} {args : List Arg} {caps : List D} {k : Nat} {c : Prop} {ds : List D} {w : List (Nat × Obj?)} {ps : List (Nat × Nat × Own)} {rk : List Key} {s ty : Nat}

theorem rdAs_run' : ∀ args : List Arg, (rdAs args).run ⟨e, o, n⟩ = rdArgs e args
  | [] => rfl
  | x :: r => by simp [rdAs, rdArgs, rdAs_run' r]
theorem rdAs_rd' : ∀ args : List Arg, (rdAs args).rd ⟨e, o, n⟩ = rdKs args
  | [] => rfl
  | x :: r => by simp [rdAs, rdKs, rdAs_rd' r]

theorem trO_call {sp : Spec} {dst : Option Nat} {c2 : Prop} {we : List (Nat × D)} {wo : List (Nat × Obj?)} (hg : gOn e g = true) (hf : rdArg e fa = some (.clo k caps)) (hΓ : Γ (k + 4096 * kcode (rdArgs e args)) = some sp) (hr : (callArgs sp.ptr 0 (rdArgs e args ++ caps)).run ⟨e, o, n⟩ = (c, ds, w, ps))
    (hk : (callArgs sp.ptr 0 (rdArgs e args ++ caps)).rd ⟨e, o, n⟩ = rk) (hco : callOut dst nv sp c ds w ps = ⟨c2, we, wo⟩) (hc : c2)
    (h : TrO Γ r (nv + 1) ⟨we ++ e, wo ++ o, n⟩ d (acc ++ [(gK g ++ (rdK fa ++ (rdKs args ++ rk)), we.map (fun x => .e x.1) ++ wo.map (fun x => .o x.1), af)]) K t) (hin : inplOf sp.kind = none := by rfl) (hkb : Nat.blt k 4096 = true := by rfl) :
    TrO Γ (⟨dst, .call fa args, g, af⟩ :: r) nv ⟨e, o, n⟩ d acc K t := by
  refine trO_op hg (c := c2) (we := we) (wo := wo) (rd := rdK fa ++ (rdKs args ++ rk)) ?_ ?_ hc h
  · simp only [evalOp, R.run_bind, raw_run, Option.getD_some, hf, hkb, rdAs_run', hΓ, hin, hr, R.run_pure, hco]
  · simp only [evalOp, R.rd_bind, raw_run, raw_rd, Option.getD_some, hf, hkb, rdAs_run', hΓ, hin, rdAs_rd', hr, hk, R.rd_pure, List.append_nil]

/-- an own slice of ints is written in place -/
theorem trO_inpl {sp : Spec} {vi gi ty' m : Nat} {l l' : List Int} {fl : List Int → List Int} {fk : List Int → Nat} (hg : gOn e g = true) (hf : rdArg e fa = some (.clo k caps)) (hΓ : Γ (k + 4096 * kcode (rdArgs e args)) = some sp) (hin : inplOf sp.kind = some (false, fl, fk))
    (hr : rdArgs e args ++ caps = [.osl gi vi 0 m]) (hm : m = l.length) (ho : lkO o gi = some (vi, ⟨false, false, 1, ty', l.map (.int .i64)⟩)) (hl : l.length < 4611686018427387904) (hfl : fl l = l')
    (h : TrO Γ r (nv + 1) ⟨e, (gi, some (vi, ⟨false, false, 1, ty', l'.map (.int .i64)⟩)) :: o, n⟩ d (acc ++ [(gK g ++ (rdK fa ++ (rdKs args ++ [.o gi])), [.o gi], af)]) K t) (hkb : Nat.blt k 4096 = true := by rfl) :
    TrO Γ (⟨none, .call fa args, g, af⟩ :: r) nv ⟨e, o, n⟩ d acc K t := by
  subst hm hfl
  have hd : (l.map (D.int .i64)).map dInt = l := by simp [Function.comp_def, dInt]
  refine trO_op hg (c := True) (we := []) (wo := [(gi, some (vi, ⟨false, false, 1, ty', (fl l).map (.int .i64)⟩))]) (rd := rdK fa ++ (rdKs args ++ [Key.o gi])) ?_ ?_ trivial ?_
  · simp only [evalOp, R.run_bind, raw_run, Option.getD_some, hf, hkb, rdAs_run', hΓ, hin, hr, inplR, R.run_go, go_lk, ho, R.run_ret]
    simp [put1, hd, hl, List.take_of_length_le, plainE, cells, plain]
  · simp only [evalOp, R.rd_bind, raw_run, raw_rd, Option.getD_some, hf, hkb, rdAs_run', hΓ, hin, rdAs_rd', hr, inplR, R.rd_go, go_lk, ho, R.rd_ret]
  · exact h
/-- .. where a slot takes the empty result -/
theorem trO_inpl_d {sp : Spec} {vi gi ty' m : Nat} {l l' : List Int} {fl : List Int → List Int} {fk : List Int → Nat} (hg : gOn e g = true) (hf : rdArg e fa = some (.clo k caps)) (hΓ : Γ (k + 4096 * kcode (rdArgs e args)) = some sp) (hin : inplOf sp.kind = some (false, fl, fk))
    (hr : rdArgs e args ++ caps = [.osl gi vi 0 m]) (hm : m = l.length) (ho : lkO o gi = some (vi, ⟨false, false, 1, ty', l.map (.int .i64)⟩)) (hl : l.length < 4611686018427387904) (hfl : fl l = l')
    (h : TrO Γ r (nv + 1) ⟨(dst, .top) :: e, (gi, some (vi, ⟨false, false, 1, ty', l'.map (.int .i64)⟩)) :: o, n⟩ d (acc ++ [(gK g ++ (rdK fa ++ (rdKs args ++ [.o gi])), [.e dst, .o gi], af)]) K t) (hkb : Nat.blt k 4096 = true := by rfl) :
    TrO Γ (⟨some dst, .call fa args, g, af⟩ :: r) nv ⟨e, o, n⟩ d acc K t := by
  subst hm hfl
  have hd : (l.map (D.int .i64)).map dInt = l := by simp [Function.comp_def, dInt]
  refine trO_op hg (c := True) (we := [(dst, .top)]) (wo := [(gi, some (vi, ⟨false, false, 1, ty', (fl l).map (.int .i64)⟩))]) (rd := rdK fa ++ (rdKs args ++ [Key.o gi])) ?_ ?_ trivial ?_
  · simp only [evalOp, R.run_bind, raw_run, Option.getD_some, hf, hkb, rdAs_run', hΓ, hin, hr, inplR, R.run_go, go_lk, ho, R.run_ret]
    simp [put1, hd, hl, List.take_of_length_le, plainE, cells, plain]
  · simp only [evalOp, R.rd_bind, raw_run, raw_rd, Option.getD_some, hf, hkb, rdAs_run', hΓ, hin, rdAs_rd', hr, inplR, R.rd_go, go_lk, ho, R.rd_ret]
  · exact h
/-- .. and cut: the result is the slice -/
theorem trO_inpl_cut {sp : Spec} {vi gi ty' m : Nat} {l l' : List Int} {fl : List Int → List Int} {fk : List Int → Nat} (hg : gOn e g = true) (hf : rdArg e fa = some (.clo k caps)) (hΓ : Γ (k + 4096 * kcode (rdArgs e args)) = some sp) (hin : inplOf sp.kind = some (true, fl, fk))
    (hr : rdArgs e args ++ caps = [.osl gi vi 0 m]) (hm : m = l.length) (ho : lkO o gi = some (vi, ⟨false, false, 1, ty', l.map (.int .i64)⟩)) (hl : l.length < 4611686018427387904) (hfl : (fl l).take (fk l) = l') (hfk : fk l = l'.length)
    (h : TrO Γ r (nv + 1) ⟨(dst, .osl gi vi 0 l'.length) :: e, (gi, some (vi, ⟨false, false, 1, ty', l'.map (.int .i64)⟩)) :: o, n⟩ d (acc ++ [(gK g ++ (rdK fa ++ (rdKs args ++ [.o gi])), [.e dst, .o gi], af)]) K t) (hkb : Nat.blt k 4096 = true := by rfl) :
    TrO Γ (⟨some dst, .call fa args, g, af⟩ :: r) nv ⟨e, o, n⟩ d acc K t := by
  subst hm hfl
  have hd : (l.map (D.int .i64)).map dInt = l := by simp [Function.comp_def, dInt]
  refine trO_op hg (c := True) (we := [(dst, .osl gi vi 0 ((fl l).take (fk l)).length)]) (wo := [(gi, some (vi, ⟨false, false, 1, ty', ((fl l).take (fk l)).map (.int .i64)⟩))]) (rd := rdK fa ++ (rdKs args ++ [Key.o gi])) ?_ ?_ trivial ?_
  · simp only [evalOp, R.run_bind, raw_run, Option.getD_some, hf, hkb, rdAs_run', hΓ, hin, hr, inplR, R.run_go, go_lk, ho, R.run_ret]
    simp [put1, hd, hl, List.take_of_length_le, plainE, cells, plain]
    rw [List.length_take] at hfk
    exact ⟨hfk, by rw [List.drop_of_length_le (by simp), List.append_nil]⟩
  · simp only [evalOp, R.rd_bind, raw_run, raw_rd, Option.getD_some, hf, hkb, rdAs_run', hΓ, hin, rdAs_rd', hr, inplR, R.rd_go, go_lk, ho, R.rd_ret]
  · exact h

/-- the result is a plain datum -/
theorem trO_call_val (a : A) (hg : gOn e g = true) (hf : rdArg e fa = some (.clo k caps)) (hΓ : Γ (k + 4096 * kcode (rdArgs e args)) = some (fSpec ptr .val enc dec f encR encE)) (hde : ∀ a, dec (enc a) = a) (hr : (callArgs ptr 0 (rdArgs e args ++ caps)).run ⟨e, o, n⟩ = (c, ds, w, ps))
    (hk : (callArgs ptr 0 (rdArgs e args ++ caps)).rd ⟨e, o, n⟩ = rk) (hc : c) (hds : ds = enc a) (hb : f a = some b)
    (h : TrO Γ r (nv + 1) ⟨(dst, encR b) :: e, (handBack ps (encE b) ++ w) ++ o, n⟩ d (acc ++ [(gK g ++ (rdK fa ++ (rdKs args ++ rk)), .e dst :: (handBack ps (encE b) ++ w).map (fun x => .o x.1), af)]) K t) (hkb : Nat.blt k 4096 = true := by rfl) :
    TrO Γ (⟨some dst, .call fa args, g, af⟩ :: r) nv ⟨e, o, n⟩ d acc K t := by
  subst hds
  refine trO_call (hkb := hkb) hg hf hΓ (sp := fSpec ptr .val enc dec f encR encE) hr hk (c2 := c ∧ ∃ a' b', enc a = enc a' ∧ f a' = some b') (we := [(dst, encR b)]) (wo := handBack ps (encE b) ++ w) ?_ ⟨hc, a, b, rfl, hb⟩ h
  simp only [callOut, fSpec_res hde hb, fSpec_eff hde hb, put1]
  rfl
/-- the result isn't asked for -/
theorem trO_call_none (a : A) (hg : gOn e g = true) (hf : rdArg e fa = some (.clo k caps)) (hΓ : Γ (k + 4096 * kcode (rdArgs e args)) = some (fSpec ptr .val enc dec f encR encE)) (hde : ∀ a, dec (enc a) = a) (hr : (callArgs ptr 0 (rdArgs e args ++ caps)).run ⟨e, o, n⟩ = (c, ds, w, ps))
    (hk : (callArgs ptr 0 (rdArgs e args ++ caps)).rd ⟨e, o, n⟩ = rk) (hc : c) (hds : ds = enc a) (hb : f a = some b)
    (h : TrO Γ r (nv + 1) ⟨e, (handBack ps (encE b) ++ w) ++ o, n⟩ d (acc ++ [(gK g ++ (rdK fa ++ (rdKs args ++ rk)), (handBack ps (encE b) ++ w).map (fun x => .o x.1), af)]) K t) (hkb : Nat.blt k 4096 = true := by rfl) :
    TrO Γ (⟨none, .call fa args, g, af⟩ :: r) nv ⟨e, o, n⟩ d acc K t := by
  subst hds
  refine trO_call (hkb := hkb) hg hf hΓ (sp := fSpec ptr .val enc dec f encR encE) hr hk (c2 := c ∧ ∃ a' b', enc a = enc a' ∧ f a' = some b') (we := []) (wo := handBack ps (encE b) ++ w) ?_ ⟨hc, a, b, rfl, hb⟩ h
  simp only [callOut, fSpec_res hde hb, fSpec_eff hde hb, put1]
  rfl
/-- the result holds no slice -/
theorem trO_call_ground (a : A) (hg : gOn e g = true) (hf : rdArg e fa = some (.clo k caps)) (hΓ : Γ (k + 4096 * kcode (rdArgs e args)) = some (fSpec [] .ground enc dec f encR encE)) (hde : ∀ a, dec (enc a) = a) (hr : (callArgs [] 0 (rdArgs e args ++ caps)).run ⟨e, o, n⟩ = (c, ds, w, ps))
    (hk : (callArgs [] 0 (rdArgs e args ++ caps)).rd ⟨e, o, n⟩ = rk) (hc : c) (hds : ds = enc a) (hb : f a = some b) (hgr : isGround (encR b) = true)
    (h : TrO Γ r (nv + 1) ⟨(dst, encR b) :: e, o, n⟩ d (acc ++ [(gK g ++ (rdK fa ++ (rdKs args ++ rk)), [.e dst], af)]) K t) (hkb : Nat.blt k 4096 = true := by rfl) :
    TrO Γ (⟨some dst, .call fa args, g, af⟩ :: r) nv ⟨e, o, n⟩ d acc K t := by
  subst hds
  refine trO_call (hkb := hkb) hg hf hΓ (sp := fSpec [] .ground enc dec f encR encE) hr hk (c2 := c ∧ (∃ a' b', enc a = enc a' ∧ f a' = some b') ∧ isGround (encR b) = true ∧ ([] : List (Nat × (Nat × Nat))) = []) (we := [(dst, encR b)]) (wo := []) ?_ ⟨hc, ⟨a, b, rfl, hb⟩, hgr, rfl⟩ h
  simp only [callOut, fSpec_res hde hb, put1]
  simp [fSpec]
/-- the result is a new slice -/
theorem trO_call_row (a : A) {l : List α} {en : α → D} (hg : gOn e g = true) (hf : rdArg e fa = some (.clo k caps)) (hΓ : Γ (k + 4096 * kcode (rdArgs e args)) = some (fSpec ptr (.row s ty) enc dec f encR encE)) (hde : ∀ a, dec (enc a) = a) (hr : (callArgs ptr 0 (rdArgs e args ++ caps)).run ⟨e, o, n⟩ = (c, ds, w, ps))
    (hk : (callArgs ptr 0 (rdArgs e args ++ caps)).rd ⟨e, o, n⟩ = rk) (hc : c) (hds : ds = enc a) (hb : f a = some b) (hl : encR b = .sl (l.map en))
    (h : TrO Γ r (nv + 1) ⟨(dst, .osl dst nv 0 l.length) :: e, ((dst, some (nv, ⟨false, false, s, ty, l.map en⟩)) :: (handBack ps (encE b) ++ w)) ++ o, n⟩ d (acc ++ [(gK g ++ (rdK fa ++ (rdKs args ++ rk)), .e dst :: .o dst :: (handBack ps (encE b) ++ w).map (fun x => .o x.1), af)]) K t) (hkb : Nat.blt k 4096 = true := by rfl) :
    TrO Γ (⟨some dst, .call fa args, g, af⟩ :: r) nv ⟨e, o, n⟩ d acc K t := by
  subst hds
  refine trO_call (hkb := hkb) hg hf hΓ (sp := fSpec ptr (.row s ty) enc dec f encR encE) hr hk (c2 := c ∧ (∃ a' b', enc a = enc a' ∧ f a' = some b') ∧ (some dst).isSome = true) (we := [(dst, .osl dst nv 0 l.length)]) (wo := (dst, some (nv, ⟨false, false, s, ty, l.map en⟩)) :: (handBack ps (encE b) ++ w)) ?_ ⟨hc, ⟨a, b, rfl, hb⟩, rfl⟩ h
  simp only [callOut, fSpec_res hde hb, fSpec_eff hde hb, hl, put1, putO]
  simp [fSpec]
/-- the result is a pointer to a new variable -/
theorem trO_call_ptr (a : A) (hg : gOn e g = true) (hf : rdArg e fa = some (.clo k caps)) (hΓ : Γ (k + 4096 * kcode (rdArgs e args)) = some (fSpec ptr (.ptr s ty) enc dec f encR encE)) (hde : ∀ a, dec (enc a) = a) (hr : (callArgs ptr 0 (rdArgs e args ++ caps)).run ⟨e, o, n⟩ = (c, ds, w, ps))
    (hk : (callArgs ptr 0 (rdArgs e args ++ caps)).rd ⟨e, o, n⟩ = rk) (hc : c) (hds : ds = enc a) (hb : f a = some b)
    (h : TrO Γ r (nv + 1) ⟨(dst, .optr dst nv 0 0) :: e, ((dst, some (nv, ⟨false, true, s, ty, [encR b]⟩)) :: (handBack ps (encE b) ++ w)) ++ o, n⟩ d (acc ++ [(gK g ++ (rdK fa ++ (rdKs args ++ rk)), .e dst :: .o dst :: (handBack ps (encE b) ++ w).map (fun x => .o x.1), af)]) K t) (hkb : Nat.blt k 4096 = true := by rfl) :
    TrO Γ (⟨some dst, .call fa args, g, af⟩ :: r) nv ⟨e, o, n⟩ d acc K t := by
  subst hds
  refine trO_call (hkb := hkb) hg hf hΓ (sp := fSpec ptr (.ptr s ty) enc dec f encR encE) hr hk (c2 := c ∧ (∃ a' b', enc a = enc a' ∧ f a' = some b') ∧ (some dst).isSome = true) (we := [(dst, .optr dst nv 0 0)]) (wo := (dst, some (nv, ⟨false, true, s, ty, [encR b]⟩)) :: (handBack ps (encE b) ++ w)) ?_ ⟨hc, ⟨a, b, rfl, hb⟩, rfl⟩ h
  simp only [callOut, fSpec_res hde hb, fSpec_eff hde hb, put1, putO]
  simp [fSpec]
/-- one of several results is a pointer to a new variable -/
theorem trO_call_tupPtr (a : A) {q : Nat} {rs : List D} {z : D} (hg : gOn e g = true) (hf : rdArg e fa = some (.clo k caps)) (hΓ : Γ (k + 4096 * kcode (rdArgs e args)) = some (fSpec ptr (.tupPtr q s ty) enc dec f encR encE)) (hde : ∀ a, dec (enc a) = a) (hr : (callArgs ptr 0 (rdArgs e args ++ caps)).run ⟨e, o, n⟩ = (c, ds, w, ps))
    (hk : (callArgs ptr 0 (rdArgs e args ++ caps)).rd ⟨e, o, n⟩ = rk) (hc : c) (hds : ds = enc a) (hb : f a = some b) (hl : encR b = .tup rs) (hz : rs.getD q .top = z)
    (h : TrO Γ r (nv + 1) ⟨(dst, .tup (rs.set q (.optr dst nv 0 0))) :: e, ((dst, some (nv, ⟨false, true, s, ty, [z]⟩)) :: (handBack ps (encE b) ++ w)) ++ o, n⟩ d (acc ++ [(gK g ++ (rdK fa ++ (rdKs args ++ rk)), .e dst :: .o dst :: (handBack ps (encE b) ++ w).map (fun x => .o x.1), af)]) K t) (hkb : Nat.blt k 4096 = true := by rfl) :
    TrO Γ (⟨some dst, .call fa args, g, af⟩ :: r) nv ⟨e, o, n⟩ d acc K t := by
  subst hds
  subst hz
  refine trO_call (hkb := hkb) hg hf hΓ (sp := fSpec ptr (.tupPtr q s ty) enc dec f encR encE) hr hk (c2 := c ∧ (∃ a' b', enc a = enc a' ∧ f a' = some b') ∧ (some dst).isSome = true) (we := [(dst, .tup (rs.set q (.optr dst nv 0 0)))]) (wo := (dst, some (nv, ⟨false, true, s, ty, [rs.getD q .top]⟩)) :: (handBack ps (encE b) ++ w)) ?_ ⟨hc, ⟨a, b, rfl, hb⟩, rfl⟩ h
  simp only [callOut, fSpec_res hde hb, fSpec_eff hde hb, hl, put1, putO]
  simp [fSpec]

theorem trO_mkf {q : Nat} (hg : gOn e g = true) (hx : rdArgs e args = caps) (hc : ∀ d ∈ caps, refOnly d = true)
    (h : TrO Γ r (nv + 1) ⟨(dst, .clo q caps) :: e, o, n⟩ d (acc ++ [(gK g ++ rdKs args, [.e dst], af)]) K t) : TrO Γ (⟨some dst, .mkf q args, g, af⟩ :: r) nv ⟨e, o, n⟩ d acc K t :=
  trO_op hg (c := ∀ d ∈ caps, refOnly d = true) (we := [(dst, .clo q caps)]) (wo := []) (rd := rdKs args) (by simp [evalOp, rdAs_run', hx, put1]) (by simp [evalOp, rdAs_rd']) hc h
end

@[simp] theorem rich_false (g : Nat) : (rich g = false) ↔ g < 4096 := by
  simp only [rich]
  cases hb : Nat.ble 4096 g
  · simp only [true_iff]; by_cases h : g < 4096
    · exact h
    · rw [Nat.ble_eq_true_of_le (by omega)] at hb; cases hb
  · have := Nat.le_of_ble_eq_true hb; simp; omega
@[simp] theorem rich_true (g : Nat) : (rich g = true) ↔ 4096 ≤ g := by
  have := rich_false g
  cases hb : rich g <;> simp_all <;> omega

/-! ### Returns -/
section
variable {B α : Type} {e : List (Nat × D)} {o : List (Nat × Obj?)} {n np : Nat} {ptr : List (Nat × (Nat × Nat))} {encR : B → D} {encE : B → List D} {b : B} {r0 : DRes} {rs : List DRes}
  {ce c c1 : Prop} {effs ds : List D} {we w : List (Nat × Obj?)} {d0 d1 : D} {s ty g : Nat}

theorem ret_val (he : (effR ptr).run ⟨e, o, n⟩ = (ce, effs, we)) (hce : ce) (heff : effs = encE b) (hr : (retV r0).run ⟨e, o, n⟩ = (c, d0, w)) (hc : c) (hd : d0 = encR b) : TrX .ret (kRet ptr .val [r0] encR encE) ⟨e, o, n⟩ (some b) := by
  rintro _ ⟨⟩
  refine ⟨_, .refl _, ?_⟩
  simp only [kRet, RetOk, he, hr]
  exact ⟨hce, heff, hc, hd⟩
theorem ret_ground (he : (effR ptr).run ⟨e, o, n⟩ = (ce, effs, we)) (hce : ce) (heff : effs = encE b) (hr : (retV r0).run ⟨e, o, n⟩ = (c, d0, w)) (hc : c) (hd : d0 = encR b) : TrX .ret (kRet ptr .ground [r0] encR encE) ⟨e, o, n⟩ (some b) := by
  rintro _ ⟨⟩
  refine ⟨_, .refl _, ?_⟩
  simp only [kRet, RetOk, he, hr]
  exact ⟨hce, heff, hc, hd⟩
theorem retOk_tup_val {q : D → Prop} (h : rs.length ≠ 1) (hk : ce ∧ effs = encE b ∧ c ∧ .tup ds = encR b ∧ rs.length ≠ 1) (he : (effR ptr).run ⟨e, o, n⟩ = (ce, effs, we)) (hr : (retVs rs).run ⟨e, o, n⟩ = (c, ds, w)) (kind : Kind) (hkind : kind = .val ∨ kind = .ground) :
    RetOk ⟨ptr, kind, fun _ => True, fun _ => encR b, fun _ => encE b⟩ rs [] ⟨e, o, n⟩ := by
  rcases hkind with rfl | rfl <;> (
    simp only [RetOk, he]
    refine ⟨hk.1, hk.2.1, ?_⟩
    match rs, h, hr with
    | [], h, hr => simp only [hr]; exact hk.2.2
    | [_], h, _ => exact (h rfl).elim
    | _ :: _ :: _, h, hr => simp only [hr]; exact hk.2.2)
theorem ret_tup_val (he : (effR ptr).run ⟨e, o, n⟩ = (ce, effs, we)) (hce : ce) (heff : effs = encE b) (hr : (retVs rs).run ⟨e, o, n⟩ = (c, ds, w)) (hc : c) (hd : .tup ds = encR b) (hl : rs.length ≠ 1) : TrX .ret (kRet ptr .val rs encR encE) ⟨e, o, n⟩ (some b) := by
  rintro _ ⟨⟩
  refine ⟨_, .refl _, ?_⟩
  exact retOk_tup_val (q := fun _ => True) hl ⟨hce, heff, hc, hd, hl⟩ he hr _ (.inl rfl)
theorem ret_tup_ground (he : (effR ptr).run ⟨e, o, n⟩ = (ce, effs, we)) (hce : ce) (heff : effs = encE b) (hr : (retVs rs).run ⟨e, o, n⟩ = (c, ds, w)) (hc : c) (hd : .tup ds = encR b) (hl : rs.length ≠ 1) : TrX .ret (kRet ptr .ground rs encR encE) ⟨e, o, n⟩ (some b) := by
  rintro _ ⟨⟩
  refine ⟨_, .refl _, ?_⟩
  exact retOk_tup_val (q := fun _ => True) hl ⟨hce, heff, hc, hd, hl⟩ he hr _ (.inr rfl)
theorem ret_row (he : (effR ptr).run ⟨e, o, n⟩ = (ce, effs, we)) (hce : ce) (heff : effs = encE b) (hr : (resR r0).run ⟨e, o, n⟩ = (c, d0)) (hc : c) (hs : (retS false s ty d0).run ⟨e, o, n⟩ = (c1, d1, g)) (hc1 : c1) (hd : d1 = encR b) (hw : we.all (fun x => x.1 != g) = true) :
    TrX .ret (kRet ptr (.row s ty) [r0] encR encE) ⟨e, o, n⟩ (some b) := by
  rintro _ ⟨⟩
  refine ⟨_, .refl _, ?_⟩
  simp only [kRet, RetOk, he, hr, hs]
  exact ⟨hce, heff, hc, hc1, hd, hw⟩
theorem ret_ptr (hr : (resR r0).run ⟨e, o, n⟩ = (c, d0)) (hc : c) (hs : (retP s ty d0).run ⟨e, o, n⟩ = (c1, d1, w, g)) (hc1 : c1) (hd : d1 = encR b) (he : (effR ptr).run ⟨e, o, n⟩ = (ce, effs, we)) (hce : ce) (heff : effs = encE b) (hrg : rich g = false := by rfl) :
    TrX .ret (kRet ptr (.ptr s ty) [r0] encR encE) ⟨e, o, n⟩ (some b) := by
  rintro _ ⟨⟩
  refine ⟨_, .refl _, ?_⟩
  simp only [kRet, RetOk, he, hr, hs]
  exact ⟨hce, heff, hc, hc1, hd, hrg⟩
theorem ret_tupPtr {q : Nat} {cA cB cP : Prop} {dA dB : List D} {dP dq : D} {wA wB wP : List (Nat × Obj?)} (hq : q < rs.length) (hl : rs.length ≠ 1) (hA : (retVs (rs.take q)).run ⟨e, o, n⟩ = (cA, dA, wA)) (hcA : cA) (hB : (retVs (rs.drop (q + 1))).run ⟨e, o, n⟩ = (cB, dB, wB)) (hcB : cB)
    (hr : (resR (rs.getD q (.t 0))).run ⟨e, o, n⟩ = (c, dq)) (hc : c) (hP : (retP s ty dq).run ⟨e, o, n⟩ = (cP, dP, wP, g)) (hcP : cP) (hd : .tup (dA ++ dP :: dB) = encR b) (he : (effR []).run ⟨e, o, n⟩ = (ce, effs, we)) (hce : ce) (heff : effs = encE b) :
    TrX .ret (kRet [] (.tupPtr q s ty) rs encR encE) ⟨e, o, n⟩ (some b) := by
  rintro _ ⟨⟩
  refine ⟨_, .refl _, ?_⟩
  have key : q < rs.length ∧ rs.length ≠ 1 ∧ True ∧ ((retVs (rs.take q)).run ⟨e, o, n⟩).1 ∧ ((retVs (rs.drop (q + 1))).run ⟨e, o, n⟩).1 ∧ ((resR (rs.getD q (.t 0))).run ⟨e, o, n⟩).1 ∧ ((retP s ty ((resR (rs.getD q (.t 0))).run ⟨e, o, n⟩).2).run ⟨e, o, n⟩).1 ∧
      .tup (((retVs (rs.take q)).run ⟨e, o, n⟩).2.1 ++ ((retP s ty ((resR (rs.getD q (.t 0))).run ⟨e, o, n⟩).2).run ⟨e, o, n⟩).2.1 :: ((retVs (rs.drop (q + 1))).run ⟨e, o, n⟩).2.1) = encR b := by
    rw [hA, hB, hr, hP]
    exact ⟨hq, hl, trivial, hcA, hcB, hc, hcP, hd⟩
  clear hA hB hr hP
  simp only [kRet, RetOk, he]
  refine ⟨hce, heff, ?_⟩
  cases rs with
  | nil => exact key
  | cons r0 rs => cases rs <;> exact key
end

@[simp] theorem cells_agg (cs : List D) : cells (.agg cs) = cs := rfl

/-! ### States of a given form -/
def HasE (e : List (Nat × D)) : List (Nat × D) → Prop
  | [] => True
  | (t, d) :: r => (lookB e t).getD .top = d ∧ HasE e r
def HasO (o : List (Nat × Obj?)) : List (Nat × Obj?) → Prop
  | [] => True
  | (g, x) :: r => lkO o g = x ∧ HasO o r
theorem HasE.get {e : List (Nat × D)} : ∀ {E : List (Nat × D)}, HasE e E → ∀ p ∈ E, (lookB e p.1).getD .top = p.2
  | [], _, p, hp => by cases hp
  | q :: r, h, p, hp => by
    cases hp with
    | head => exact h.1
    | tail _ hp => exact HasE.get h.2 p hp
theorem HasO.get {o : List (Nat × Obj?)} : ∀ {O : List (Nat × Obj?)}, HasO o O → ∀ p ∈ O, lkO o p.1 = p.2
  | [], _, p, hp => by cases hp
  | q :: r, h, p, hp => by
    cases hp with
    | head => exact h.1
    | tail _ hp => exact HasO.get h.2 p hp
theorem trX_ret_has {B : Type} {ptr : List (Nat × (Nat × Nat))} {kind : Kind} {rs : List DRes} {encR : B → D} {encE : B → List D} {τ : S} {t : Option B} {x : DExit} {E : List (Nat × D)} {O : List (Nat × Obj?)} (hh : Has τ E O) (hx : ∀ id, x ≠ .exit id) (h : ∀ n, TrX .ret (kRet ptr kind rs encR encE) ⟨E, O, n⟩ t) : TrX x (kRet ptr kind rs encR encE) τ t := fun r hr => by
  obtain ⟨n, hh⟩ := hh
  obtain ⟨τ', h1, h2⟩ := h n r hr
  cases x with
  | exit id => exact (hx id rfl).elim
  | normal => exact ⟨τ', hh.trans h1, h2⟩
  | ret => exact ⟨τ', hh.trans h1, h2⟩
theorem has_exact {e E : List (Nat × D)} {o O : List (Nat × Obj?)} {n : Nat} (hE : HasE e E) (hO : HasO o O) : Has ⟨e, o, n⟩ E O := by
  refine ⟨n, ?_⟩
  refine Chg.weak (τ := ⟨E, O, n⟩) [] ⟨?_, ?_, ?_, Nat.le_refl _⟩ (.refl _)
  · intro p hp; cases hp
  · intro p hp
    refine .inl (.inl ?_)
    have := hE.get p hp
    rw [lookB_eq] at this
    exact this
  · intro p hp
    refine .inl ?_
    have := hO.get p hp
    simp only [S.gof, List.nil_append, go_lk]
    exact this

theorem osl_len {x : D} {g v q q' : Nat} (h1 : x = .osl g v 0 q) (h2 : q = q') : x = .osl g v 0 q' := h2 ▸ h1

/-! states whose data are made free of references -/
section
variable {e E : List (Nat × D)} {o O : List (Nat × Obj?)} {n : Nat} {ws : List (Nat × Obj?)} {α : Type}
def HasEc (e : List (Nat × D)) (o : List (Nat × Obj?)) (n : Nat) (ws : List (Nat × Obj?)) : List (Nat × D) → Prop
  | [] => True
  | (t, d) :: r => Conv ⟨e, o, n⟩ ws ((lookB e t).getD .top) d ∧ HasEc e o n ws r
def HasOc (e : List (Nat × D)) (o : List (Nat × Obj?)) (n : Nat) (ws : List (Nat × Obj?)) : List (Nat × Obj?) → Prop
  | [] => True
  | (g, x) :: r => (lkO (ws ++ o) g = x ∨ ∃ v p z z', lkO (ws ++ o) g = some (v, p) ∧ p.var = true ∧ p.es = [z] ∧ x = some (v, { p with es := [z'] }) ∧ Conv ⟨e, o, n⟩ ws z z') ∧ HasOc e o n ws r
def FzB (o : List (Nat × Obj?)) : List (Nat × Obj?) → Prop
  | [] => True
  | (g, x) :: r => (∃ v p, lkO o g = some (v, p) ∧ p.var = false ∧ x = some (v, { p with fz := true })) ∧ FzB o r
theorem has_conv (ws : List (Nat × Obj?)) (hw : FzB o ws) (hE : HasEc e o n ws E) (hO : HasOc e o n ws O) : Has ⟨e, o, n⟩ E O := by
  refine ⟨n, ?_⟩
  refine Chg.weak (τ := ⟨E, O, n⟩) ws ⟨?_, ?_, ?_, Nat.le_refl _⟩ (.refl _)
  · clear hE hO
    induction ws with
    | nil => intro p hp; cases hp
    | cons q r ih =>
      intro p hp
      cases hp with
      | head =>
        obtain ⟨v, p, h1, h2, h3⟩ := hw.1
        exact ⟨v, p, by rw [go_lk]; exact h1, h2, h3⟩
      | tail _ hp => exact ih hw.2 p hp
  · clear hw hO
    induction E with
    | nil => intro p hp; cases hp
    | cons q r ih =>
      intro p hp
      cases hp with
      | head =>
        have := hE.1
        rw [lookB_eq] at this
        exact this
      | tail _ hp => exact ih hE.2 p hp
  · clear hw hE
    induction O with
    | nil => intro p hp; cases hp
    | cons q r ih =>
      intro p hp
      cases hp with
      | head =>
        simp only [S.gof, go_lk]
        exact hO.1
      | tail _ hp => exact ih hO.2 p hp
theorem conv_same {x d : D} (h : x = d) : Conv ⟨e, o, n⟩ ws x d := .inl (.inl h)
theorem convC_same {x d : D} (h : x = d) : ConvC ⟨e, o, n⟩ ws x d := .inl h
theorem convC_nil {x : D} (en : α → D) (h : x = .nils) : ConvC ⟨e, o, n⟩ ws x (.sl (([] : List α).map en)) := by
  subst h
  exact .inr ⟨trivial, rfl, fun p hp => by cases hp⟩
theorem convC_own {x : D} {g v q s ty : Nat} {fz : Bool} {l : List α} {en : α → D} (h : x = .osl g v 0 q) (hq : q = l.length) (ho : lkO o g = some (v, ⟨fz, false, s, ty, l.map en⟩)) (hw : (g, some (v, (⟨true, false, s, ty, l.map en⟩ : Own))) ∈ ws) : ConvC ⟨e, o, n⟩ ws x (.sl (l.map en)) := by
  subst h; subst hq
  refine .inr ⟨?_, ?_, ?_⟩
  · simp [resC, ho]
  · simp [resC, ho]; exact List.take_of_length_le (by simp)
  · intro p hp
    simp [resC, ho] at hp
    subst hp
    exact hw
theorem convC_suf {x : D} {g v i s ty : Nat} {fz : Bool} {l : List α} {en : α → D} (h : x = .osl g v i (l.length - i)) (hi : i ≤ l.length) (ho : lkO o g = some (v, ⟨fz, false, s, ty, l.map en⟩)) (hw : (g, some (v, (⟨true, false, s, ty, l.map en⟩ : Own))) ∈ ws) : ConvC ⟨e, o, n⟩ ws x (.sl ((l.drop i).map en)) := by
  subst h
  refine .inr ⟨?_, ?_, ?_⟩
  · simp [resC, ho]; omega
  · simp [resC, ho]; exact List.take_of_length_le (by simp)
  · intro p hp
    simp [resC, ho] at hp
    subst hp
    exact hw
theorem conv_cell {x d : D} (h : ConvC ⟨e, o, n⟩ ws x d) : Conv ⟨e, o, n⟩ ws x d := .inl h
theorem conv_agg {x : D} {cs cs' : List D} (h : x = .agg cs) (hc : ConvCs ⟨e, o, n⟩ ws cs cs') : Conv ⟨e, o, n⟩ ws x (.agg cs') := .inr ⟨cs, cs', h, rfl, hc⟩
end

@[simp] theorem take_len_map {α : Type} (en : α → D) (l : List α) : List.take l.length (l.map en) = l.map en := List.take_of_length_le (by simp)
@[simp] theorem take_sub_map {α : Type} (en : α → D) (l : List α) (i : Nat) : List.take (l.length - i) (List.drop i (l.map en)) = (l.drop i).map en := by
  rw [← List.map_drop]; exact List.take_of_length_le (by simp)
@[simp] theorem take_set_map {α : Type} (en : α → D) (l : List α) (i : Nat) (y : D) : List.take l.length ((l.map en).set i y) = (l.map en).set i y := List.take_of_length_le (by simp)
theorem take_drop0_map {α : Type} (en : α → D) (l : List α) : List.take l.length (List.drop 0 (l.map en)) = l.map en := take_len_map en l
theorem take_drop0_map' {α : Type} (en : α → D) (l : List α) {q : Nat} (h : q = l.length) : List.take q (List.drop 0 (l.map en)) = l.map en := h ▸ take_len_map en l
theorem take_len_map' {α : Type} (en : α → D) (l : List α) {q : Nat} (h : q = l.length) : List.take q (l.map en) = l.map en := h ▸ take_len_map en l
@[simp] theorem take_add_map {α : Type} (en : α → D) (l l' : List α) : List.take (l.length + l'.length) (l.map en ++ l'.map en) = l.map en ++ l'.map en := List.take_of_length_le (by simp)

/-! ### Encodings and decodings -/
def cel (d : D) (i : Nat) : D := match d with | .agg cs => cs.getD i .top | .tup cs => cs.getD i .top | _ => .top
def uI : D → Int | .int _ n => n | _ => 0
def uBo : D → Bool | .bool b => b | _ => false
def uS : D → List UInt8 | .str s => s | _ => []
def uL {α : Type} (u : D → α) : D → List α | .sl es => es.map u | _ => []
abbrev eI (k : IntKind) (n : Int) : D := .int k n
abbrev eBo (b : Bool) : D := .bool b
abbrev eS (s : List UInt8) : D := .str s
abbrev eL {α : Type} (en : α → D) (l : List α) : D := .sl (l.map en)
@[simp] theorem uL_e {α : Type} {u : D → α} {en : α → D} (h : ∀ a, u (en a) = a) (l : List α) : uL u (.sl (l.map en)) = l := by
  simp only [uL, List.map_map]
  conv => rhs; rw [← List.map_id l]
  exact List.map_congr_left fun a _ => h a
end Go.Dw
namespace Go.Dw
open Go.ChangeShapes Go.WideShapes Go.ChangeAt Go.RowKit Go.Deep

def memF (W : World) : Fz := fun b i => W.cell? ⟨b, i, none⟩
def Rep (W : World) (ds : List D) (cs : List Value) : Prop := ds.length = cs.length ∧ (∀ v ∈ cs, v.oneCell' = true) ∧ ∀ (j : Nat) c v, ds[j]? = some c → cs[j]? = some v → Fro (memF W) c v

/-- whatever reads as a datum of type t is the encoding of a typed datum -/
structure Rd (P : Program) (W : World) {T : Type} (t : TypeId) (en : T → D) (Q : T → Prop) : Prop where
  rd : ∀ {H : Type} {enc : TypeId × Value → H} (n : Nat) (cs : List Value) (x : DataW H × List MemPlace), DataW.trod enc P W 0 (fun _ => true) true n t cs = some x → ∃ a, Q a ∧ Rep W (cells (en a)) cs

/-- what an argument's reading tells of the typed datum: integers lie in their kind, lengths are at most 'maxLen' -/
def qInt (k : IntKind) (n : Int) : Prop := k.min ≤ n ∧ n ≤ k.max
def qAny {T : Type} (_ : T) : Prop := True
def qStr (s : List UInt8) : Prop := s.length ≤ maxLen
def qL {T : Type} (q : T → Prop) (l : List T) : Prop := l.length ≤ maxLen ∧ ∀ x ∈ l, q x

section
variable {P : Program} {W : World} {t e : TypeId}

theorem Rep.one {d : D} {v : Value} (h1 : v.oneCell' = true) (h : Fro (memF W) d v) : Rep W [d] [v] := by
  refine ⟨rfl, fun x hx => ?_, fun j c x hc hx => ?_⟩
  · simp only [List.mem_singleton] at hx; subst hx; exact h1
  · rcases j with _ | j
    · simp only [List.getElem?_cons_zero, Option.some.injEq] at hc hx
      subst hc; subst hx; exact h
    · simp at hc

theorem Rd.int {k : IntKind} (ht : P.underlying t = some (.int k)) : Rd P W t (D.int k) (fun n => k.min ≤ n ∧ n ≤ k.max) := by
  refine ⟨fun n cs x h => ?_⟩
  cases n with
  | zero => simp [DataW.trod] at h
  | succ n =>
    simp only [DataW.trod, ht] at h
    split at h <;> rename_i h1 <;> try (cases h1; done)
    all_goals try (cases h; done)
    cases h1
    split at h
    · rename_i hc
      obtain ⟨rfl, hw⟩ := hc
      exact ⟨_, by simpa [Lit.wf] using hw, Rep.one rfl (.int _ _)⟩
    · cases h

theorem Rd.bool (ht : P.underlying t = some .bool) : Rd P W t D.bool (fun _ => True) := by
  refine ⟨fun n cs x h => ?_⟩
  cases n with
  | zero => simp [DataW.trod] at h
  | succ n =>
    simp only [DataW.trod, ht] at h
    split at h <;> rename_i h1 <;> try (cases h1; done)
    all_goals try (cases h; done)
    exact ⟨_, trivial, Rep.one rfl (.bool _)⟩

theorem Rd.str (ht : P.underlying t = some .string) : Rd P W t D.str (fun s => s.length ≤ maxLen) := by
  refine ⟨fun n cs x h => ?_⟩
  cases n with
  | zero => simp [DataW.trod] at h
  | succ n =>
    simp only [DataW.trod, ht] at h
    split at h <;> simp_all
    rename_i s
    exact ⟨s.data.toList, by simpa using h.1, Rep.one rfl (by have := Fro.str (F := memF W) s.data.toList; simpa using this)⟩

theorem cells?_get {a : Addr} {n : Nat} {cs : List Value} (h : W.cells? 0 a n = some cs) : cs.length = n ∧ ∀ i, i < n → W.cell? (a.add i) = cs[i]? := by
  unfold World.cells? at h
  rw [if_pos (Nat.zero_le _)] at h
  have hl := mapM_some_length h
  simp only [List.length_range] at hl
  exact ⟨hl, fun i hi => mapM_some_get h i i (by simp [hi])⟩

theorem spot_none {a : Addr} {v : Value} (h : W.cell? a = some v) : a = ⟨a.block, a.off, none⟩ := by
  unfold World.cell? at h
  split at h
  · split at h
    · cases h
    · rename_i hs
      obtain ⟨b, o, s⟩ := a
      cases s with
      | none => rfl
      | some s => simp at hs
  · cases h

theorem Rd.slice {T : Type} [Inhabited T] {en : T → D} {Q : T → Prop} (ht : P.underlying t = some (.slice e)) (hs : 0 < P.cellsOf e) (hc : ∀ a, (cells (en a)).length = P.cellsOf e) (he : Rd P W e en Q) :
    Rd P W t (eL en) (fun l => l.length ≤ maxLen ∧ ∀ x ∈ l, Q x) := by
  refine ⟨fun n cs x h => ?_⟩
  rcases DataW.trod_slice ht h with ⟨rfl, _⟩ | ⟨a, len, cap, elems, rest, m, _, rfl, _, _, hl, hm, hlen, hel, _, _⟩
  · exact ⟨[], ⟨Nat.zero_le _, fun x hx => by cases hx⟩, Rep.one rfl (.sl0 none 0)⟩
  · have each : ∀ i, ∃ p : T × List Value, i < len → W.cells? 0 (a.add (i * P.cellsOf e)) (P.cellsOf e) = some p.2 ∧ Q p.1 ∧ Rep W (cells (en p.1)) p.2 := by
      intro i
      by_cases hi : i < len
      · have h1 := hel i hi
        have h2 : i < elems.length := by omega
        rw [List.getElem?_eq_getElem h2, Option.bind_eq_some_iff] at h1
        obtain ⟨cs, h3, h4⟩ := h1
        obtain ⟨q, hq, hr⟩ := he.rd m cs _ h4
        exact ⟨(q, cs), fun _ => ⟨h3, hq, hr⟩⟩
      · exact ⟨(default, []), fun h => absurd h hi⟩
    obtain ⟨f, hf⟩ := Classical.axiomOfChoice each
    have hes : ((List.range len).map fun i => (f i).1).length = len := by simp
    refine ⟨(List.range len).map fun i => (f i).1, ⟨by rw [hes]; omega, fun x hx => ?_⟩, Rep.one rfl ?_⟩
    · simp only [List.mem_map, List.mem_range] at hx
      obtain ⟨i, hi, rfl⟩ := hx
      exact (hf i hi).2.1
    · by_cases h0 : len = 0
      · subst h0
        exact .sl0 _ _
      · have hget : ∀ (i j : Nat), i < len → j < P.cellsOf e → W.cell? ((a.add (i * P.cellsOf e)).add j) = (f i).2[j]? := fun i j hi hj => (cells?_get (hf i hi).1).2 j hj
        have hlenc : ∀ i, i < len → (f i).2.length = P.cellsOf e := fun i hi => (cells?_get (hf i hi).1).1
        have ha : a = ⟨a.block, a.off, none⟩ := by
          have h1 := hget 0 0 (by omega) hs
          have h2 : 0 < (f 0).2.length := by rw [hlenc 0 (by omega)]; exact hs
          rw [List.getElem?_eq_getElem h2] at h1
          simp only [Nat.zero_mul, Addr.add, if_true] at h1
          exact spot_none h1
        generalize a.block = b at ha
        generalize a.off = o at ha
        subst ha
        have hidx : ∀ (i : Nat) x, (((List.range len).map fun i => (f i).1).map en)[i]? = some x → i < len ∧ x = en (f i).1 := by
          intro i x hx
          simp only [List.getElem?_map, Option.map_eq_some_iff] at hx
          obtain ⟨q, ⟨r, hr, rfl⟩, rfl⟩ := hx
          obtain ⟨h1, h2⟩ := List.getElem?_eq_some_iff.1 hr
          simp only [List.getElem_range] at h2
          subst h2
          exact ⟨by simpa using h1, rfl⟩
        have key : ∀ (i j : Nat) x c, (((List.range len).map fun i => (f i).1).map en)[i]? = some x → (cells x)[j]? = some c → i < len ∧ ∃ v, (f i).2[j]? = some v ∧ memF W b (o + i * P.cellsOf e + j) = some v ∧ v.oneCell' = true ∧ Fro (memF W) c v := by
          intro i j x c hx hj
          obtain ⟨hi, rfl⟩ := hidx i x hx
          obtain ⟨_, _, r1, r2, r3⟩ := hf i hi
          have hjl : j < (cells (en (f i).1)).length := (List.getElem?_eq_some_iff.1 hj).1
          have hjl' : j < (f i).2.length := by rw [← r1]; exact hjl
          have hv := List.getElem?_eq_getElem hjl'
          refine ⟨hi, _, hv, ?_, r2 _ (List.getElem_mem hjl'), r3 j c _ hj hv⟩
          have := hget i j hi (by rw [← hc (f i).1]; exact hjl)
          rw [add_none, add_none, hv] at this
          exact this
        have := Fro.sl (F := memF W) (((List.range len).map fun i => (f i).1).map en) b o cap (P.cellsOf e) (fun i j => (f i).2.getD j undef) (by simpa using hl)
          (fun x hx => by
            simp only [List.mem_map] at hx
            obtain ⟨q, _, rfl⟩ := hx
            exact hc q)
          (fun i j x c hx hj => by
            obtain ⟨_, v, h1, h2, _⟩ := key i j x c hx hj
            rw [h2, List.getD_eq_getElem?_getD, h1]; rfl)
          (fun i j x c hx hj => by
            obtain ⟨_, v, h1, _, h3, _⟩ := key i j x c hx hj
            rw [List.getD_eq_getElem?_getD, h1]; exact h3)
          (fun i j x c hx hj => by
            obtain ⟨_, v, h1, _, _, h4⟩ := key i j x c hx hj
            rw [List.getD_eq_getElem?_getD, h1]; exact h4)
        rw [List.length_map, hes] at this
        exact this

theorem Rep.append {ds ds' : List D} {cs cs' : List Value} (h : Rep W ds cs) (h' : Rep W ds' cs') : Rep W (ds ++ ds') (cs ++ cs') := by
  obtain ⟨h1, h2, h3⟩ := h
  obtain ⟨k1, k2, k3⟩ := h'
  refine ⟨by simp [h1, k1], fun v hv => (List.mem_append.1 hv).elim (h2 v) (k2 v), fun j c v hc hv => ?_⟩
  by_cases hj : j < ds.length
  · rw [List.getElem?_append_left hj] at hc
    rw [List.getElem?_append_left (by omega)] at hv
    exact h3 j c v hc hv
  · rw [List.getElem?_append_right (by omega)] at hc
    rw [List.getElem?_append_right (by omega), ← h1] at hv
    exact k3 _ c v hc hv

theorem take_cut {α : Type} (l : List α) (a b : Nat) : (l.drop a).take b ++ l.drop (a + b) = l.drop a := by
  rw [← List.drop_drop, List.take_append_drop]

theorem Rd.struct1 {T T0 : Type} {f0 : Field} {en : T → D} {e0 : T0 → D} {Q : T → Prop} {Q0 : T0 → Prop} (mk : T0 → T) (ht : P.underlying t = some (.struct #[f0])) (o0 : f0.offset = 0) (hsz : P.cellsOf t = P.cellsOf f0.type)
    (h0 : Rd P W f0.type e0 Q0) (hmk : ∀ a, cells (en (mk a)) = cells (e0 a)) (hQ : ∀ a, Q0 a → Q (mk a)) : Rd P W t en Q := by
  refine ⟨fun n cs x h => ?_⟩
  obtain ⟨y0, m, _, hl, k0⟩ := trod_struct1 ht h
  obtain ⟨a, q0, r0⟩ := h0.rd m _ _ k0
  refine ⟨mk a, hQ a q0, ?_⟩
  rw [hmk]
  rw [o0, List.drop_zero, ← hsz, ← hl, List.take_length] at r0
  exact r0

theorem Rd.struct2 {T T0 T1 : Type} {f0 f1 : Field} {en : T → D} {e0 : T0 → D} {e1 : T1 → D} {Q : T → Prop} {Q0 : T0 → Prop} {Q1 : T1 → Prop} (mk : T0 → T1 → T) (ht : P.underlying t = some (.struct #[f0, f1])) (o0 : f0.offset = 0) (o1 : f1.offset = P.cellsOf f0.type)
    (hsz : P.cellsOf t = P.cellsOf f0.type + P.cellsOf f1.type) (h0 : Rd P W f0.type e0 Q0) (h1 : Rd P W f1.type e1 Q1) (hmk : ∀ a b, cells (en (mk a b)) = cells (e0 a) ++ cells (e1 b)) (hQ : ∀ a b, Q0 a → Q1 b → Q (mk a b)) : Rd P W t en Q := by
  refine ⟨fun n cs x h => ?_⟩
  obtain ⟨y0, y1, m, _, hl, k0, k1⟩ := trod_struct2 ht h
  obtain ⟨a, q0, r0⟩ := h0.rd m _ _ k0
  obtain ⟨b, q1, r1⟩ := h1.rd m _ _ k1
  refine ⟨mk a b, hQ a b q0 q1, ?_⟩
  rw [hmk]
  have := r0.append r1
  have e1 : List.take (P.cellsOf f1.type) (List.drop (P.cellsOf f0.type) cs) = List.drop (P.cellsOf f0.type) cs := List.take_of_length_le (by simp; omega)
  rw [o0, o1, e1, List.drop_zero, List.take_append_drop] at this
  exact this

theorem Rd.struct3 {T T0 T1 T2 : Type} {f0 f1 f2 : Field} {en : T → D} {e0 : T0 → D} {e1 : T1 → D} {e2 : T2 → D} {Q : T → Prop} {Q0 : T0 → Prop} {Q1 : T1 → Prop} {Q2 : T2 → Prop} (mk : T0 → T1 → T2 → T) (ht : P.underlying t = some (.struct #[f0, f1, f2]))
    (o0 : f0.offset = 0) (o1 : f1.offset = P.cellsOf f0.type) (o2 : f2.offset = P.cellsOf f0.type + P.cellsOf f1.type)
    (hsz : P.cellsOf t = P.cellsOf f0.type + P.cellsOf f1.type + P.cellsOf f2.type) (h0 : Rd P W f0.type e0 Q0) (h1 : Rd P W f1.type e1 Q1) (h2 : Rd P W f2.type e2 Q2)
    (hmk : ∀ a b c, cells (en (mk a b c)) = cells (e0 a) ++ (cells (e1 b) ++ cells (e2 c))) (hQ : ∀ a b c, Q0 a → Q1 b → Q2 c → Q (mk a b c)) : Rd P W t en Q := by
  refine ⟨fun n cs x h => ?_⟩
  obtain ⟨y0, y1, y2, m, _, hl, k0, k1, k2⟩ := trod_struct3 ht h
  obtain ⟨a, q0, r0⟩ := h0.rd m _ _ k0
  obtain ⟨b, q1, r1⟩ := h1.rd m _ _ k1
  obtain ⟨c, q2, r2⟩ := h2.rd m _ _ k2
  refine ⟨mk a b c, hQ a b c q0 q1 q2, ?_⟩
  rw [hmk]
  have := r0.append (r1.append r2)
  have e2 : List.take (P.cellsOf f2.type) (List.drop (P.cellsOf f0.type + P.cellsOf f1.type) cs) = List.drop (P.cellsOf f0.type + P.cellsOf f1.type) cs := List.take_of_length_le (by simp; omega)
  rw [o0, o1, o2, e2, take_cut, List.drop_zero, List.take_append_drop] at this
  exact this

/-! ### Arguments -/
/-- an argument that reads as a datum stands for a typed one -/
theorem Rd.arg {T : Type} {en : T → D} {Q : T → Prop} (h : Rd P W t en Q) (hagg : ∀ a, (match P.underlying t with | some (.struct _) | some (.array _ _) => True | _ => False) → ∃ cs, en a = .agg cs)
    (hone : ∀ a, ¬ (match P.underlying t with | some (.struct _) | some (.array _ _) => True | _ => False) → cells (en a) = [en a])
    {H : Type} {enc : TypeId × Value → H} {b0 : Nat} {v : Value} {d : DataW H} {p : List MemPlace} (hv : Value.okWide P W .any b0 t v) (hr : DataW.Trod enc P W 0 (fun _ => true) true t v d p) : ∃ a, Q a ∧ Fro (memF W) (en a) v := by
  obtain ⟨n, hn⟩ := hr
  obtain ⟨a, hq, r1, r2, r3⟩ := h.rd n _ _ hn
  refine ⟨a, hq, ?_⟩
  by_cases hs : (match P.underlying t with | some (.struct _) | some (.array _ _) => True | _ => False)
  · obtain ⟨cs, hcs⟩ := hagg a hs
    have hva : ∃ C, v = .agg C := by
      unfold Value.okWide at hv
      split at hv
      · obtain ⟨C, rfl, _⟩ := hv; exact ⟨C, rfl⟩
      · obtain ⟨C, rfl, _⟩ := hv; exact ⟨C, rfl⟩
      · rename_i h1 h2
        split at hs
        · rename_i fs hu; exact absurd hu (h1 fs)
        · rename_i m e hu; exact absurd hu (h2 m e)
        · exact hs.elim
    obtain ⟨C, rfl⟩ := hva
    rw [hcs] at r1 r3 ⊢
    simp only [Value.cells, Array.toList] at r1 r2 r3
    have := Fro.agg (F := memF W) cs C.toList r1 r2 r3
    simpa using this
  · have h1 := hone a hs
    have hva : ∃ x, v.cells.toList = [x] ∧ v = x := by
      have hl : v.cells.toList.length = 1 := by rw [← r1, h1]; rfl
      cases v with
      | agg C =>
        exfalso
        unfold Value.okWide at hv
        split at hv
        · rename_i fs hu; exact hs (by rw [hu]; trivial)
        · rename_i m e hu; exact hs (by rw [hu]; trivial)
        · unfold Cell.okWide at hv
          split at hv <;> first | (rename_i h1 h2; cases h2) | skip
          unfold Cell.ok at hv
          split at hv <;> first | (rename_i h1 h2; cases h2) | exact hv
      | _ => exact ⟨_, rfl, rfl⟩
    obtain ⟨x, hx, rfl⟩ := hva
    rw [h1] at r3
    exact r3 0 _ _ rfl (by rw [hx]; rfl)
end
end Go.Dw
namespace Go.Dw
open Go.ChangeShapes Go.WideShapes Go.ChangeAt Go.RowKit

section
variable {H : Type} {enc : TypeId × Value → H} {P : Program} {W W' : World}

theorem cell_old (hb : ∀ b, b < W.heap.size → W'.heap[b]? = W.heap[b]?) {a : Addr} (h : a.block < W.heap.size) : W'.cell? a = W.cell? a := by
  unfold World.cell?
  rw [hb _ h]
theorem frozen_old (hb : ∀ b, b < W.heap.size → W'.heap[b]? = W.heap[b]?) {a : Addr} (h : a.block < W.heap.size) : W'.frozen? a = W.frozen? a := by
  unfold World.frozen?
  rw [hb _ h]
theorem same_old (hb : ∀ b, b < W.heap.size → W'.heap[b]? = W.heap[b]?) {p : MemPlace} (h : p.block < W.heap.size) : W.sameAt W' p := by
  cases p with
  | cell b off => exact cell_old hb h
  | map b => exact hb b h

theorem trodAll_still {sp : Nat → Bool} (K : Kids P (· < P.types.size)) (hz : ∀ t e, t < P.types.size → P.underlying t = some (.slice e) → 0 < P.cellsOf e) : ∀ {ts : List TypeId} {vs : List Value} {ds : List (DataW H)} {ps : List MemPlace}, (∀ t ∈ ts, t < P.types.size) →
    DataW.TrodAll enc P W 0 (fun _ => true) true ts vs ds ps → (∀ p ∈ ps, W.sameAt W' p) → (∀ p ∈ ps, sp p.block = true) → DataW.TrodAll enc P W' 0 sp true ts vs ds ps
  | [], [], [], _, _, h, _, _ => h
  | _ :: _, _ :: _, _ :: _, _, hT, ⟨p, q, ⟨n, h1⟩, h2, e⟩, hs, hsp => by
    subst e
    exact ⟨p, q, ⟨n, DataW.trod_respare K hz n _ _ _ (hT _ (List.mem_cons.2 (Or.inl rfl))) (DataW.trod_carry n _ _ _ h1 (fun x hx => hs x (List.mem_append_left _ hx))) (fun x hx => hsp x (List.mem_append_left _ hx))⟩,
      trodAll_still K hz (fun t ht => hT t (List.mem_cons.2 (Or.inr ht))) h2 (fun x hx => hs x (List.mem_append_right _ hx)) (fun x hx => hsp x (List.mem_append_right _ hx)), rfl⟩
  | [], [], _ :: _, _, _, h, _, _ => h.elim
  | [], _ :: _, _, _, _, h, _, _ => h.elim
  | _ :: _, [], _, _, _, h, _, _ => h.elim
  | _ :: _, _ :: _, [], _, _, h, _, _ => h.elim

theorem post_of_still {f : Func} {s : ChangeSpec} {apart fresh handsOn again : Bool} {args : Array Value} {v : Value} {ds gs : List (DataW H)} {before : List MemPlace}
    (hW : DataW.Whole enc P f.params.toList s.vars apart W args.toList ds gs before) (hvs : s.vars = []) (K : Kids P (· < P.types.size)) (hz : ∀ t e, t < P.types.size → P.underlying t = some (.slice e) → 0 < P.cellsOf e) (hts : ∀ t ∈ f.params.toList, t < P.types.size)
    (hres : ∀ (b : Nat) (sp : Nat → Bool) (hd : Bool), DataW.TrodAll enc P W' b sp hd f.resultTypes.toList (v.resultList f.resultTypes.size) (s.fn H (ds ++ gs)).results [])
    (hargs : (s.fn H (ds ++ gs)).args = ds) (hvars : (s.fn H (ds ++ gs)).vars = []) (hos : W'.os = W.os) (hout : W'.output = W.output) (hb : ∀ b, b < W.heap.size → W'.heap[b]? = W.heap[b]?)
    (hok : ∀ (j : Nat) (t : TypeId) (r : Value), f.resultTypes[j]? = some t → (v.resultList f.resultTypes.size)[j]? = some r → Value.okWide P W' .any 0 t r) :
    s.post enc P f apart fresh handsOn again W args v W' := by
  have hW' := hW
  obtain ⟨p, q, hA, hV, e, hzz, hn⟩ := hW
  rw [hvs] at hV
  obtain ⟨rfl, rfl⟩ := trodVars_none hV
  subst e
  simp only [List.append_nil] at hW' hn hzz
  have hlt : ∀ x ∈ p, x.block < W.heap.size := hW'.lt
  have hargs' : ∀ sp : Nat → Bool, (∀ x ∈ p, sp x.block = true) → DataW.TrodAll enc P W' 0 sp true f.params.toList args.toList (s.fn H (ds ++ [])).args p := by
    intro sp hsp
    rw [hargs]
    exact trodAll_still K hz hts hA (fun x hx => same_old hb (hlt x hx)) hsp
  have hvars' : ∀ sp : Nat → Bool, DataW.TrodVars enc P W' sp s.vars (s.fn H (ds ++ [])).vars [] := by
    intro sp
    rw [hvs, hvars]
    exact (rfl : ([] : List MemPlace) = [])
  have hold : ∀ x ∈ p, (fun b => decide (b < W.heap.size)) x.block = true := fun x hx => by simpa using hlt x hx
  refine ⟨ds, [], p, [], p, [], hW', hres _ _ _, hargs' _ hold, hvars' _, ⟨hos, hout, fun i hi => ?_⟩, fun _ => ?_⟩
  · rw [hb i hi]
    cases W.heap[i]? with
    | none => rfl
    | some o => cases o <;> first | exact ⟨rfl, rfl, rfl, fun _ _ => rfl⟩ | exact .inr ⟨rfl, rfl⟩ | rfl
  · refine ⟨hok, _, _, ([] ++ p) ++ [], ⟨[] ++ p, [], trodAll_append (hargs' _ (fun _ _ => rfl)) (hres _ _ _), hvars' _, rfl, ?_, ?_⟩, ?_⟩
    · intro b off hp
      have hp' : MemPlace.cell b off ∈ p := by simpa using hp
      rw [frozen_old hb (hlt _ hp')]
      exact hzz b off hp'
    · intro ha
      have := hn ha
      simpa using this
    · intro x hp _
      simpa using hp

/-- A LAW: its typed program answers true at whatever the arguments read as. -/
theorem law_contract {k : Nat} {fn : Func} {A : Type} {enc0 : A → List D} {dec0 : List D → A} {f : A → Option Bool} {encR : Bool → D} {encE : Bool → List D} (hspec : SpecOk P k (fSpec [] .ground enc0 dec0 f encR encE)) (hde : ∀ a, dec0 (enc0 a) = a) (hR : encR true = .bool true)
    {s : ChangeSpec} {apart fresh handsOn again : Bool} {args : Array Value} {ds gs : List (DataW H)} {before : List MemPlace} (hW : DataW.Whole enc P fn.params.toList s.vars apart W args.toList ds gs before) (hvs : s.vars = [])
    (hl : laidOutB P = true) (hm : mapsRowed P = true) (hz : ((List.range P.types.size).all fun t => match P.underlying t with | some (.slice e) => decide (0 < P.cellsOf e) | _ => true) = true) (hts : fn.params.toList.all (fun t => decide (t < P.types.size)) = true)
    {tb : TypeId} (hrt : fn.resultTypes = #[tb]) (htb : P.underlying tb = some .bool) (hfn : ∀ ds : List (DataW H), ds.length = fn.params.size → s.fn H ds = { results := [.lit (.bool true)], args := ds, vars := [] }) (hlen : ds.length = fn.params.size)
    (hglob : Glob P (memF W)) (hread : ∃ a, ArgsOk (memF W) W [] 0 (enc0 a) args.toList [] ∧ f a = some true) :
    Calls P k args W fun e W' => ∃ v, e = .returned v ∧ s.post enc P fn apart fresh handsOn again W args v W' := by
  obtain ⟨a, hA, hfa⟩ := hread
  have hgs : gs = [] := by
    obtain ⟨p, q, _, hV, _⟩ := hW
    rw [hvs] at hV
    exact (trodVars_none hV).1
  subst hgs
  have hF : Fok (memF W) W := fun b i x h => h
  have hfin : ∀ b i x, memF W b i = some x → b < W.heap.size := by
    intro b i x h
    simp only [memF, World.cell?] at h
    split at h
    · rename_i hb
      exact (Array.getElem?_eq_some_iff.1 hb).1
    · cases h
  have h := (hspec (memF W) hglob).2.2.1 rfl rfl W (memF W) (enc0 a) args.toList [] (Fsub.refl _) hF hfin hA ⟨a, true, rfl, hfa⟩
  have e0 : args.toList.toArray = args := by simp
  rw [e0] at h
  refine h.mono fun e W' hq => ?_
  obtain ⟨v, F', _, _, rfl, _, _, hst, hres, _⟩ := hq
  have hv : v = .bool true := by
    have h1 : Fro F' ((fSpec [] .ground enc0 dec0 f encR encE).res (enc0 a)) v := hres
    rw [fSpec_res hde hfa, hR] at h1
    cases h1
    rfl
  subst hv
  refine ⟨_, rfl, post_of_still hW hvs (kids_rows hl hm) (slices_full_of P hz) (fun t ht => by simpa using List.all_eq_true.1 hts t ht) ?_ ?_ ?_ hst.os hst.output (fun b hb => hst.block b hb (fun ⟨_, hm, _⟩ => by cases hm)) ?_⟩
  · intro b sp hd
    rw [List.append_nil, hfn ds hlen, hrt]
    exact trodAll_cons_mk (p := []) (p' := []) (shut_bool htb true) trodAll_mk0
  · rw [List.append_nil, hfn ds hlen]
  · rw [List.append_nil, hfn ds hlen]
  · exact ok_one hrt rfl (okWide_bool_mk htb true)
end
end Go.Dw
namespace Go.Dw

/-- a slice that its holder alone holds, of typed data -/
abbrev eR {α : Type} (s ty : Nat) (en : α → D) (l : List α) : D := .row s ty (l.map en)
def uR {α : Type} (u : D → α) : D → List α | .row _ _ es => es.map u | _ => []
@[simp] theorem uR_e {α : Type} {u : D → α} {en : α → D} (h : ∀ a, u (en a) = a) (s ty : Nat) (l : List α) : uR u (.row s ty (l.map en)) = l := by
  simp only [uR, List.map_map]
  conv => rhs; rw [← List.map_id l]
  exact List.map_congr_left fun a _ => h a

theorem plain_map {α : Type} {l : List α} {en : α → D} (h : ∀ q, plainE (en q) = true) : ∀ e ∈ l.map en, plainE e = true := fun e he => by
  obtain ⟨q, _, rfl⟩ := List.mem_map.1 he
  exact h q

section
variable {Γ : Specs} {X : Type} {K : KR X} {t : Option X} {e : List (Nat × D)} {o : List (Nat × Obj?)} {n nv : Nat} {d : Bool} {acc : List Foot}
  {r : List DOper} {dst : Nat} {g : Option (Nat × Bool)} {af : List Nat} {α : Type}
variable {x y : Arg} {v w : D} {k k' : IntKind} {a b : Int} {s ty gi vi ii off m : Nat} {fz var : Bool} {es es' : List D} {z z' : D} {l l' : List α} {en : α → D}

theorem trO_st_rich {i : Nat} {c : Prop} {cs' : List D} {wo : List (Nat × Obj?)} {rk : List Key} (hg : gOn e g = true) (hx : rdArg e x = some (.optr gi vi i off)) (hy : rdArg e y = some v) (hw : strip v = (true, v)) (ho : lkO o gi = some (vi, ⟨false, var, s, ty, es⟩))
    (hr : (cloCs var (cells v)).run ⟨e, o, n⟩ = (c, cs', wo)) (hrd : (cloCs var (cells v)).rd ⟨e, o, n⟩ = rk) (hc : c) (hz : es[i]? = some z) (hk : known v = true) (hl : (cells v).length = m) (hb : Nat.ble (off + m) (cells z).length = true)
    (hes : es.set i (setE z off cs') = es') (hwo : wo.all (fun x => x.1 != gi) = true)
    (h : TrO Γ r (nv + 1) ⟨e, (gi, some (vi, ⟨false, var, s, ty, es'⟩)) :: (wo ++ o), n⟩ d (acc ++ [(gK g ++ (rdK x ++ (rdK y ++ (.o gi :: rk))), .o gi :: wo.map (fun x => .o x.1), af)]) K t) (hrg : rich gi = true := by rfl) :
    TrO Γ (⟨none, .st m x y, g, af⟩ :: r) nv ⟨e, o, n⟩ d acc K t := by
  have hb' := Nat.le_of_ble_eq_true hb
  obtain ⟨hi', rfl⟩ := List.getElem?_eq_some_iff.1 hz
  have hgd : es.getD i .top = es[i] := by simp [hi']
  refine trO_op hg (c := True) (we := []) (wo := (gi, some (vi, ⟨false, var, s, ty, es'⟩)) :: wo) (rd := rdK x ++ (rdK y ++ (Key.o gi :: rk))) ?_ ?_ trivial (by simpa using h)
  · simp only [evalOp, R.run_bind, rdA_run', Option.getD_some, hx, hy, hw, strip_optr, R.run_go, go_lk, ho, hrg, if_true, R.run_ret, hr, hgd, hes]
    simp [hc, hi', hb', hk, hl, hwo]
  · simp only [evalOp, R.rd_bind, rdA_run', rdA_rd', Option.getD_some, hx, hy, hw, strip_optr, R.rd_go, go_lk, ho, hrg, if_true, R.rd_ret, hrd, hr]
    simp

/-- a slice is taken out of a cell -/
theorem trO_open {i s0 ty0 : Nat} {es0 es0' : List D} (l : List α) (en : α → D) (hg : gOn e g = true) (hx : rdArg e x = some (.optr gi vi i off)) (ho : lkO o gi = some (vi, ⟨false, var, s0, ty0, es0⟩)) (hz : es0[i]? = some z) (hb : Nat.ble (off + 1) (cells z).length = true)
    (hv : partD (cells z) off 1 false = .row s ty (l.map en)) (hes : es0.set i (setE z off [.hole nv l.length]) = es0')
    (h : TrO Γ r (nv + 1) ⟨(dst, .osl (4096 + dst) nv 0 l.length) :: e, (4096 + dst, some (nv, ⟨false, false, s, ty, l.map en⟩)) :: (gi, some (vi, ⟨false, var, s0, ty0, es0'⟩)) :: o, n⟩ d (acc ++ [(gK g ++ (rdK x ++ [.o gi]), [.e dst, .o (4096 + dst), .o gi], af)]) K t)
    (hrg : rich gi = true := by rfl) (hne : Nat.beq gi (4096 + dst) = false := by rfl) :
    TrO Γ (⟨some dst, .ld 1 false x, g, af⟩ :: r) nv ⟨e, o, n⟩ d acc K t := by
  obtain ⟨hi, rfl⟩ := List.getElem?_eq_some_iff.1 hz
  have hb' := Nat.le_of_ble_eq_true hb
  have hgd : es0.getD i .top = es0[i] := by simp [hi]
  have hne' : gi ≠ 4096 + dst := fun e => by subst e; simp at hne
  refine trO_op hg (c := True) (we := [(dst, .osl (4096 + dst) nv 0 l.length)]) (wo := [(4096 + dst, some (nv, ⟨false, false, s, ty, l.map en⟩)), (gi, some (vi, ⟨false, var, s0, ty0, es0'⟩))]) (rd := rdK x ++ [Key.o gi]) ?_ ?_ trivial h
  · simp only [evalOp, R.run_bind, rdA_run', Option.getD_some, hx, strip, R.run_go, go_lk, ho, put1, hgd, hv, hrg]
    simp [hi, hb', hne', hes]
  · simp only [evalOp, R.rd_bind, rdA_run', rdA_rd', Option.getD_some, hx, strip, R.rd_go, go_lk, ho, hgd, hv, hrg]
    simp

/-- typed: a row is taken out -/
theorem trO_open1 {i s0 ty0 : Nat} {l : List (List α)} {q : List α} (en : α → D) (hg : gOn e g = true) (hx : rdArg e x = some (.optr gi vi i 0)) (ho : lkO o gi = some (vi, ⟨false, false, s0, ty0, l.map (eR s ty en)⟩)) (hi : l[i]? = some q)
    (h : TrO Γ r (nv + 1) ⟨(dst, .osl (4096 + dst) nv 0 q.length) :: e, (4096 + dst, some (nv, ⟨false, false, s, ty, q.map en⟩)) :: (gi, some (vi, ⟨false, false, s0, ty0, (l.map (eR s ty en)).set i (.hole nv q.length)⟩)) :: o, n⟩ d (acc ++ [(gK g ++ (rdK x ++ [.o gi]), [.e dst, .o (4096 + dst), .o gi], af)]) K t)
    (hrg : rich gi = true := by rfl) (hne : Nat.beq gi (4096 + dst) = false := by rfl) :
    TrO Γ (⟨some dst, .ld 1 false x, g, af⟩ :: r) nv ⟨e, o, n⟩ d acc K t :=
  trO_open (i := i) (z := eR s ty en q) q en hg hx ho (by simp [hi]) rfl rfl rfl h hrg hne
theorem trO_ixA_len {q : Nat} {es : List D} (hq : es.length = q) (hg : gOn e g = true) (hx : rdArg e x = some (.osl gi vi 0 q)) (hy : rdArg e y = some (.int k a)) (ho : lkO o gi = some (vi, ⟨fz, false, s, ty, es⟩)) (hi : 0 ≤ a ∧ a < q)
    (h : TrO Γ r (nv + 1) ⟨(dst, .optr gi vi a.toNat 0) :: e, o, n⟩ d (acc ++ [(gK g ++ (rdK x ++ (rdK y ++ [.o gi])), [.e dst], af)]) K t) :
    TrO Γ (⟨some dst, .ixA s x y, g, af⟩ :: r) nv ⟨e, o, n⟩ d acc K t := by
  subst hq
  refine trO_op hg (c := True) (we := [(dst, .optr gi vi a.toNat 0)]) (wo := []) (rd := rdK x ++ (rdK y ++ [Key.o gi])) ?_ (by simp [evalOp, strip, R.rd_go, go_lk, hx, hy, ho]) trivial h
  simp only [evalOp, R.run_bind, rdA_run', Option.getD_some, hx, hy, strip, R.run_go, go_lk, ho, R.run_ret, put1]
  simp [hi.1, hi.2]
/-- typed: a slice is put into a cell -/
theorem trO_st_row1 {i g' v' m s0 ty0 : Nat} {l : List (List α)} {q q' : List α} {es : List D} {c : Prop} {cs' : List D} {wo : List (Nat × Obj?)} {rk : List Key} (en : α → D) (hg : gOn e g = true) (hx : rdArg e x = some (.optr gi vi i 0)) (hy : rdArg e y = some (.osl g' v' 0 m)) (ho : lkO o gi = some (vi, ⟨false, false, s0, ty0, es⟩)) (hes : es = l.map (eR s ty en) ∨ ∃ u w, es = (l.map (eR s ty en)).set i (.hole u w)) (hi : l[i]? = some q)
    (hr : (cloCs false [.osl g' v' 0 m]).run ⟨e, o, n⟩ = (c, cs', wo)) (hrd : (cloCs false [.osl g' v' 0 m]).rd ⟨e, o, n⟩ = rk) (hc : c) (hcs : cs' = [eR s ty en q']) (hwo : wo.all (fun x => x.1 != gi) = true)
    (h : TrO Γ r (nv + 1) ⟨e, (gi, some (vi, ⟨false, false, s0, ty0, (l.set i q').map (eR s ty en)⟩)) :: (wo ++ o), n⟩ d (acc ++ [(gK g ++ (rdK x ++ (rdK y ++ (.o gi :: rk))), .o gi :: wo.map (fun x => .o x.1), af)]) K t) (hrg : rich gi = true := by rfl) :
    TrO Γ (⟨none, .st 1 x y, g, af⟩ :: r) nv ⟨e, o, n⟩ d acc K t := by
  subst hcs
  obtain ⟨hl, _⟩ := List.getElem?_eq_some_iff.1 hi
  have hlen : i < es.length := by rcases hes with rfl | ⟨u, w, rfl⟩ <;> simpa using hl
  have hset : es.set i (eR s ty en q') = (l.set i q').map (eR s ty en) := by
    rcases hes with rfl | ⟨u, w, rfl⟩ <;> simp [List.map_set]
  have hz : es[i]? = some es[i] := by simp [hlen]
  have hc1 : (cells es[i]).length = 1 ∧ setE es[i] 0 [eR s ty en q'] = eR s ty en q' := by
    rcases hes with rfl | ⟨u, w, rfl⟩
    · simp [cells, setE]
    · simp [cells, setE]
  exact trO_st_rich (i := i) (off := 0) (m := 1) (z := es[i]) hg hx hy rfl ho hr hrd hc hz rfl rfl (by rw [hc1.1]; rfl) (by rw [hc1.2]; exact hset) hwo h hrg

/-- append onto a slice that was taken out of a cell -/
theorem trO_app_r {bytes : Nat} {c c' : Prop} {new old : List D} {wo : List (Nat × Obj?)} {rk rk' : List Key} (l l' : List α) (en : α → D) (hg : gOn e g = true) (hx : rdArg e x = some v) (hy : rdArg e y = some w) (hvw : strip v = (true, v)) (hww : strip w = (true, w))
    (hv : (view w).run ⟨e, o, n⟩ = (c, new)) (hvr : (view w).rd ⟨e, o, n⟩ = rk) (hc : c) (hn : new = l'.map en)
    (ht : (target s ty v).run ⟨e, o, n⟩ = (c', old, wo, true)) (htr : (target s ty v).rd ⟨e, o, n⟩ = rk') (hc' : c') (ho : old = l.map en)
    (hs : ∀ q, (cells (en q)).length = s) (hby : Nat.ble bytes 65536 = true) (hl : l.length + l'.length ≤ 16777216) (hpl : ∀ q, plainE (en q) = true)
    (h : TrO Γ r (nv + 1) ⟨(dst, .osl (4096 + dst) nv 0 (l ++ l').length) :: e, (4096 + dst, some (nv, ⟨false, false, s, ty, (l ++ l').map en⟩)) :: (wo ++ o), n⟩ d (acc ++ [(gK g ++ (rdK x ++ (rdK y ++ (rk ++ rk'))), [.e dst, .o (4096 + dst)] ++ wo.map (fun x => .o x.1), af)]) K t) :
    TrO Γ (⟨some dst, .app s ty bytes x y, g, af⟩ :: r) nv ⟨e, o, n⟩ d acc K t := by
  have hb' := Nat.le_of_ble_eq_true hby
  subst hn; subst ho
  refine trO_op hg (c := True) (we := [(dst, .osl (4096 + dst) nv 0 (l ++ l').length)]) (wo := (4096 + dst, some (nv, ⟨false, false, s, ty, (l ++ l').map en⟩)) :: wo) (rd := rdK x ++ (rdK y ++ (rk ++ rk'))) ?_ ?_ trivial (by simpa using h)
  · simp only [evalOp, R.run_bind, rdA_run', Option.getD_some, hx, hy, hvw, hww, source, hv, ht, R.run_pure, put1, putR, nmR, cond_true]
    have hall : ∀ q ∈ l.map en ++ l'.map en, plainE q = true := by
      intro q hq
      rcases List.mem_append.1 hq with hq | hq <;> (obtain ⟨p, _, rfl⟩ := List.mem_map.1 hq; exact hpl p)
    simp [hc, hc', hl, hb', hs]
    intro q hq
    rcases hq with ⟨p, _, rfl⟩ | ⟨p, _, rfl⟩ <;> exact hpl p
  · simp only [evalOp, R.rd_bind, rdA_run', rdA_rd', Option.getD_some, hx, hy, hvw, hww, source, hv, hvr, htr, R.rd_pure]
    simp

theorem trO_asg_own_r {s' ty' q : Nat} (hq : q = l.length) (hg : gOn e g = true) (hx : rdArg e x = some (.osl gi vi 0 q)) (ho : lkO o gi = some (vi, ⟨false, false, s, ty, l.map en⟩)) (hpl : ∀ q, plainE (en q) = true)
    (h : TrO Γ r (nv + 1) ⟨(dst, .osl (4096 + dst) nv 0 l.length) :: e, (4096 + dst, some (nv, ⟨false, false, s, ty, l.map en⟩)) :: (gi, none) :: o, n⟩ d (acc ++ [(gK g ++ (rdK x ++ [.o gi]), [.e dst, .o (4096 + dst), .o gi], af)]) K t) (hrg : rich gi = true := by rfl) :
    TrO Γ (⟨some dst, .asg x (some (s', ty')), g, af⟩ :: r) nv ⟨e, o, n⟩ d acc K t := by
  subst hq
  refine trO_op hg (c := True) (we := [(dst, .osl (4096 + dst) nv 0 l.length)]) (wo := [(4096 + dst, some (nv, ⟨false, false, s, ty, l.map en⟩)), (gi, none)]) (rd := rdK x ++ [Key.o gi]) ?_ ?_ trivial h
  · simp only [evalOp, R.run_bind, raw_run, Option.getD_some, hx, R.run_go, go_lk, ho, Bool.false_eq_true, if_false, R.run_ret, hrg, nmR, putR, put1, cond_true]
    simp
    exact fun q _ => hpl q
  · simp only [evalOp, R.rd_bind, raw_run, raw_rd, Option.getD_some, hx, R.rd_go, go_lk, ho, Bool.false_eq_true, if_false, R.rd_ret]

/-- a new slice of nil slices -/
theorem trO_mkS_nil {bytes : Nat} (hg : gOn e g = true) (hx : rdArg e x = some (.int k a)) (hy : rdArg e y = some (.int k' a)) (hl : 0 ≤ a ∧ a ≤ 16777216) (hby : Nat.ble bytes 65536 = true)
    (h : TrO Γ r (nv + 1) ⟨(dst, .osl dst nv 0 (List.replicate a.toNat ([] : List α)).length) :: e, (dst, some (nv, ⟨false, false, s, ty, (List.replicate a.toNat ([] : List α)).map (fun _ => .nils)⟩)) :: o, n⟩ d (acc ++ [(gK g ++ (rdK x ++ rdK y), [.e dst, .o dst], af)]) K t) :
    TrO Γ (⟨some dst, .mkS s ty bytes .nils x y, g, af⟩ :: r) nv ⟨e, o, n⟩ d acc K t := by
  have := Nat.le_of_ble_eq_true hby
  exact trO_op hg (c := True) (we := [(dst, .osl dst nv 0 (List.replicate a.toNat ([] : List α)).length)]) (wo := [(dst, some (nv, ⟨false, false, s, ty, (List.replicate a.toNat ([] : List α)).map (fun _ => .nils)⟩))]) (rd := rdK x ++ rdK y) (by simp [evalOp, put1, putO, strip, hx, hy, hl, this]) (by simp [evalOp, strip, hx, hy]) trivial h
end

/-! ### Changes of the description -/
section
variable {e E : List (Nat × D)} {o O : List (Nat × Obj?)} {n : Nat} {α : Type} {g v s ty : Nat} {var : Bool} {es es' : List D} {z : D}

theorem has_rw {τ : S} (hw : Rw ⟨e, o, n⟩ τ) (h : Has τ E O) : Has ⟨e, o, n⟩ E O := h.imp fun _ h => .rw hw h

theorem has_close {i off g' v' m s' ty' : Nat} {l : List α} {en : α → D} {c : D} (ho : lkO o g = some (v, ⟨false, var, s, ty, es⟩)) (hz : es[i]? = some z) (hc : (cells z)[off]? = some c) (hh : c = .hole v' m ∨ (c = .osl g' v' 0 m ∧ var = true)) (ho' : lkO o g' = some (v', ⟨false, false, s', ty', l.map en⟩))
    (hm : m = l.length) (hp : ∀ q, plainE (en q) = true) (hes : es.set i (setE z off [.row s' ty' (l.map en)]) = es')
    (h : Has ⟨e, (g, some (v, ⟨false, var, s, ty, es'⟩)) :: (g', none) :: o, n⟩ E O) (hrg : rich g = true := by rfl) (hne : Nat.beq g g' = false := by rfl) : Has ⟨e, o, n⟩ E O := by
  obtain ⟨hi, rfl⟩ := List.getElem?_eq_some_iff.1 hz
  have hgd : es.getD i .top = es[i] := by simp [hi]
  have hne' : g ≠ g' := fun e => by subst e; simp at hne
  subst hm
  have := Rw.close (σ := ⟨e, o, n⟩) g v i off g' v' l.length ⟨false, var, s, ty, es⟩ ⟨false, false, s', ty', l.map en⟩ c (by rw [go_lk]; exact ho) hrg rfl hi (by rw [hgd]; exact hc) hh (by rw [go_lk]; exact ho') rfl rfl (by simp) (.inr fun e he => by
    obtain ⟨q, _, rfl⟩ := List.mem_map.1 he
    exact hp q) hne'
  refine has_rw this ?_
  simp only [hgd, take_len_map, hes]
  exact h

/-- typed: a row goes back into its cell -/
theorem has_close1 {i g' v' m s' ty' : Nat} {l : List (List α)} {q q' : List α} {en : α → D} (hi : l[i]? = some q) (ho : lkO o g = some (v, ⟨false, false, s, ty, (l.map (eR s' ty' en)).set i (.hole v' m)⟩)) (ho' : lkO o g' = some (v', ⟨false, false, s', ty', q'.map en⟩))
    (hm : m = q'.length) (hp : ∀ q, plainE (en q) = true)
    (h : Has ⟨e, (g, some (v, ⟨false, false, s, ty, (l.set i q').map (eR s' ty' en)⟩)) :: (g', none) :: o, n⟩ E O) (hrg : rich g = true := by rfl) (hne : Nat.beq g g' = false := by rfl) : Has ⟨e, o, n⟩ E O := by
  obtain ⟨hl, _⟩ := List.getElem?_eq_some_iff.1 hi
  refine has_close (i := i) (off := 0) (z := .hole v' m) (c := .hole v' m) ho (by simp [hl]) rfl (.inl rfl) ho' hm hp ?_ h hrg hne
  simp [setE, cells, List.map_set]
theorem has_close1_same {i g' v' m s' ty' : Nat} {l : List (List α)} {q : List α} {en : α → D} (hi : l[i]? = some q) (ho : lkO o g = some (v, ⟨false, false, s, ty, (l.map (eR s' ty' en)).set i (.hole v' m)⟩)) (ho' : lkO o g' = some (v', ⟨false, false, s', ty', q.map en⟩))
    (hm : m = q.length) (hp : ∀ q, plainE (en q) = true)
    (h : Has ⟨e, (g, some (v, ⟨false, false, s, ty, l.map (eR s' ty' en)⟩)) :: (g', none) :: o, n⟩ E O) (hrg : rich g = true := by rfl) (hne : Nat.beq g g' = false := by rfl) : Has ⟨e, o, n⟩ E O := by
  refine has_close1 hi ho ho' hm hp ?_ hrg hne
  obtain ⟨hl, he⟩ := List.getElem?_eq_some_iff.1 hi
  have : l.set i q = l := by rw [← he]; exact List.set_getElem_self hl
  rw [this]
  exact h

/-- a rich variable's slice gets a name of its own -/
theorem has_opn {off s' ty' : Nat} {z' : D} (t : Nat) (l : List α) (en : α → D) (ho : lkO o g = some (v, ⟨false, true, s, ty, [z]⟩)) (hc : (cells z)[off]? = some (.row s' ty' (l.map en))) (hz : setE z off [.osl (4096 + t) n 0 l.length] = z')
    (h : Has ⟨e, (4096 + t, some (n, ⟨false, false, s', ty', l.map en⟩)) :: (g, some (v, ⟨false, true, s, ty, [z']⟩)) :: o, n + 1⟩ E O) (hrg : rich g = true := by rfl) (hne : Nat.beq g (4096 + t) = false := by rfl) : Has ⟨e, o, n⟩ E O := by
  have hne' : g ≠ 4096 + t := fun e => by subst e; simp at hne
  have := Rw.opn (σ := ⟨e, o, n⟩) g v 0 off t s' ty' (l.map en) ⟨false, true, s, ty, [z]⟩ (by rw [go_lk]; exact ho) hrg rfl rfl (by simp) hc hne'
  refine has_rw this ?_
  simp only [List.length_map, List.getD_cons_zero, List.set_cons_zero, hz]
  exact h

/-- an object becomes rich: nil slices become slices of its own -/
theorem has_enrich {g2 : Nat} (ho : lkO o g = some (v, ⟨false, var, s, ty, es⟩)) (hrg : rich g = false) (hg2 : g2 = 4096 + g) (he : Each (Enr false) es es')
    (h : Has ⟨e.map (fun p => (p.1, ren g g2 p.2)), (g2, some (v, ⟨false, var, s, ty, es'⟩)) :: (g, none) :: o, n⟩ E O) : Has ⟨e, o, n⟩ E O := by
  have := Rw.enrich (σ := ⟨e, o, n⟩) g g2 v ⟨false, var, s, ty, es⟩ es' (by rw [go_lk]; exact ho) rfl (.inr ⟨hrg, hg2⟩) (by rw [hrg]; exact he)
  refine has_rw this ?_
  have hb : Nat.beq g g2 = false := by
    cases hb : Nat.beq g g2
    · rfl
    · have := Nat.eq_of_beq_eq_true hb; omega
  rw [hb]
  exact h
/-- cells of a rich object: nil slices become slices of its own -/
theorem has_enrich_r (ho : lkO o g = some (v, ⟨false, var, s, ty, es⟩)) (hrg : rich g = true) (he : Each (Enr true) es es')
    (h : Has ⟨e.map (fun p => (p.1, ren g g p.2)), (g, some (v, ⟨false, var, s, ty, es'⟩)) :: (g, some (v, ⟨false, var, s, ty, es'⟩)) :: o, n⟩ E O) : Has ⟨e, o, n⟩ E O := by
  have := Rw.enrich (σ := ⟨e, o, n⟩) g g v ⟨false, var, s, ty, es⟩ es' (by rw [go_lk]; exact ho) rfl (.inl ⟨rfl, hrg⟩) (by rw [hrg]; exact he)
  refine has_rw this ?_
  simpa using h
theorem enr_nils {s' ty' : Nat} {l : List (List α)} (en : α → D) (hs : 0 < s') (hl : ∀ q ∈ l, q = []) : Each (Enr false) (l.map fun _ => .nils) (l.map (eR s' ty' en)) := by
  refine ⟨by simp, fun i e e' h1 h2 => ?_⟩
  rw [List.getElem?_map, Option.map_eq_some_iff] at h1 h2
  obtain ⟨q, hq, rfl⟩ := h1
  obtain ⟨q', hq', rfl⟩ := h2
  rw [hq] at hq'; cases hq'
  have := hl q (List.mem_of_getElem? hq)
  subst this
  refine ⟨rfl, fun j c c' h1 h2 => ?_⟩
  rcases j with _ | j
  · simp only [cells, List.getElem?_cons_zero, Option.some.injEq] at h1 h2
    subst h1; subst h2
    exact .inr ⟨rfl, s', ty', hs, rfl⟩
  · simp [cells] at h1
/-- slices of its own are frozen -/
theorem has_frows (ho : lkO o g = some (v, ⟨false, var, s, ty, es⟩)) (he : Each Frr es es') (h : Has ⟨e, (g, some (v, ⟨false, var, s, ty, es'⟩)) :: o, n⟩ E O) (hrg : rich g = true := by rfl) : Has ⟨e, o, n⟩ E O := by
  have := Rw.frows (σ := ⟨e, o, n⟩) g v ⟨false, var, s, ty, es⟩ es' (by rw [go_lk]; exact ho) hrg rfl he
  exact has_rw this h
theorem frr_rows {s' ty' : Nat} {l : List (List α)} (en : α → D) (hp : ∀ q, plainE (en q) = true) : Each Frr (l.map (eR s' ty' en)) (l.map (eL en)) := by
  refine ⟨by simp, fun i e e' h1 h2 => ?_⟩
  rw [List.getElem?_map, Option.map_eq_some_iff] at h1 h2
  obtain ⟨q, hq, rfl⟩ := h1
  obtain ⟨q', hq', rfl⟩ := h2
  rw [hq] at hq'; cases hq'
  refine ⟨rfl, fun j c c' h1 h2 => ?_⟩
  rcases j with _ | j
  · simp only [cells, List.getElem?_cons_zero, Option.some.injEq] at h1 h2
    subst h1; subst h2
    exact .inr ⟨s', ty', _, rfl, fun e he => by
      obtain ⟨p, _, rfl⟩ := List.mem_map.1 he
      exact hp p, rfl⟩
  · simp [cells] at h1
/-- nil slices are empty ones -/
theorem has_nilsl (ho : lkO o g = some (v, ⟨false, false, s, ty, es⟩)) (he : es.map nrm = es') (h : Has ⟨e, (g, some (v, ⟨false, false, s, ty, es'⟩)) :: o, n⟩ E O) (hrg : rich g = false := by rfl) : Has ⟨e, o, n⟩ E O := by
  subst he
  have := Rw.nilsl (σ := ⟨e, o, n⟩) g v ⟨false, false, s, ty, es⟩ (by rw [go_lk]; exact ho) hrg rfl rfl
  exact has_rw this h
theorem nils_map {l : List (List α)} (en : α → D) (hl : ∀ q ∈ l, q = []) : (l.map fun _ => D.nils).map nrm = l.map (eL en) := by
  rw [List.map_map]
  refine List.map_congr_left fun q hq => ?_
  rw [hl q hq]
  rfl
/-- a variable that is not written any more -/
theorem has_fvar (ho : lkO o g = some (v, ⟨false, true, s, ty, [z]⟩)) (hc : (cells z).all isFro = true) (h : Has ⟨e.map (fun p => (p.1, frp g v z p.2)), (g, none) :: o.map (fun p => (p.1, frO g v z p.2)), n⟩ E O) : Has ⟨e, o, n⟩ E O := by
  have := Rw.fvar (σ := ⟨e, o, n⟩) g v ⟨false, true, s, ty, [z]⟩ z (by rw [go_lk]; exact ho) rfl rfl rfl hc
  exact has_rw this h
end
end Go.Dw
namespace Go.Dw

/-- an array, as the list of its elements (of one cell each) -/
abbrev eA {α : Type} (en : α → D) (l : List α) : D := .agg (l.map en)
def uA {α : Type} (u : D → α) : D → List α | .agg cs => cs.map u | _ => []
@[simp] theorem uA_e {α : Type} {u : D → α} {en : α → D} (h : ∀ a, u (en a) = a) (l : List α) : uA u (.agg (l.map en)) = l := by
  simp only [uA, List.map_map]
  conv => rhs; rw [← List.map_id l]
  exact List.map_congr_left fun a _ => h a

/-- what a frozen pointer points to; what a closure holds -/
def fpD : D → D | .fptr e _ => e | _ => .top
def capD : D → Nat → D | .clo _ caps, j => caps.getD j .top | _, _ => .top

theorem setAt_one (cs : List D) (off : Nat) (d : D) : setAt cs off [d] = cs.set off d := rfl

section
variable {Γ : Specs} {X : Type} {K : KR X} {t : Option X} {e : List (Nat × D)} {o : List (Nat × Obj?)} {n nv : Nat} {d : Bool} {acc : List Foot}
  {r : List DOper} {dst : Nat} {g : Option (Nat × Bool)} {af : List Nat} {α : Type}
variable {x y : Arg} {v w : D} {k k' : IntKind} {a b : Int} {s ty gi vi ii off m : Nat} {fz var : Bool} {l : List α} {en : α → D}

/-- the place of an element of an array -/
theorem trO_ixP {i len : Nat} (hg : gOn e g = true) (hx : rdArg e x = some (.optr gi vi i off)) (hy : rdArg e y = some (.int k a)) (hi : 0 ≤ a ∧ a < len)
    (h : TrO Γ r (nv + 1) ⟨(dst, .optr gi vi i (off + a.toNat * s)) :: e, o, n⟩ d (acc ++ [(gK g ++ (rdK x ++ rdK y), [.e dst], af)]) K t) :
    TrO Γ (⟨some dst, .ixP s len x y, g, af⟩ :: r) nv ⟨e, o, n⟩ d acc K t :=
  trO_op hg (c := True) (we := [(dst, .optr gi vi i (off + a.toNat * s))]) (wo := []) (rd := rdK x ++ rdK y) (by simp [evalOp, put1, strip, hx, hy, hi.1, hi.2]) (by simp [evalOp, strip, hx, hy]) trivial h
/-- an element of an array is read -/
theorem trO_ld_arr {q : α} {j : Nat} (hj : off = j) (hg : gOn e g = true) (hx : rdArg e x = some (.optr gi vi 0 off)) (ho : lkO o gi = some (vi, ⟨fz, var, s, ty, [.agg (l.map en)]⟩)) (hi : l[j]? = some q) (hpl : plain (en q) = true) (hc : ∀ q, cells (en q) = [en q])
    (h : TrO Γ r (nv + 1) ⟨(dst, en q) :: e, o, n⟩ d (acc ++ [(gK g ++ (rdK x ++ [.o gi]), [.e dst], af)]) K t) :
    TrO Γ (⟨some dst, .ld 1 false x, g, af⟩ :: r) nv ⟨e, o, n⟩ d acc K t := by
  subst hj
  have hl := (List.getElem?_eq_some_iff.1 hi).1
  refine trO_ld_obj (i := 0) (m := 1) (agg := false) (off := off) (z := .agg (l.map en)) (v := en q) hg hx ho rfl ?_ ?_ h (by simp [hpl])
  · simp only [cells, List.length_map]
    exact Nat.ble_eq_true_of_le (by omega)
  · simp only [partD, cells, Bool.false_eq_true, if_false]
    simp [hi]
/-- an element of an array is written -/
theorem trO_st_arr {q q' : α} {j : Nat} {z' : D} (hj : off = j) (hg : gOn e g = true) (hx : rdArg e x = some (.optr gi vi 0 off)) (hy : rdArg e y = some (en q')) (hw : strip (en q') = (true, en q')) (ho : lkO o gi = some (vi, ⟨false, true, s, ty, [.agg (l.map en)]⟩)) (hi : l[j]? = some q) (hk : known (en q') = true) (hc : cells (en q') = [en q']) (hz : D.agg ((l.set j q').map en) = z')
    (h : TrO Γ r (nv + 1) ⟨e, (gi, some (vi, ⟨false, true, s, ty, [z']⟩)) :: o, n⟩ d (acc ++ [(gK g ++ (rdK x ++ (rdK y ++ [.o gi])), [.o gi], af)]) K t) (hrg : rich gi = false := by rfl) :
    TrO Γ (⟨none, .st 1 x y, g, af⟩ :: r) nv ⟨e, o, n⟩ d acc K t := by
  subst hj
  subst hz
  have hl := (List.getElem?_eq_some_iff.1 hi).1
  refine trO_st_var (z := .agg (l.map en)) (z' := .agg ((l.set off q').map en)) hg hx hy hw ho hk (by rw [hc]; rfl) ?_ ?_ h hrg
  · simp only [cells, List.length_map]
    exact Nat.ble_eq_true_of_le (by omega)
  · simp only [setE, hc, setAt_one, List.map_set]
theorem trO_st_arr_rich {q q' : α} {j : Nat} {z' : D} (hj : off = j) (hg : gOn e g = true) (hx : rdArg e x = some (.optr gi vi 0 off)) (hy : rdArg e y = some (en q')) (hw : strip (en q') = (true, en q')) (ho : lkO o gi = some (vi, ⟨false, true, s, ty, [.agg (l.map en)]⟩)) (hi : l[j]? = some q) (hk : known (en q') = true) (hc : cells (en q') = [en q']) (hz : D.agg ((l.set j q').map en) = z')
    (hcl : (cloCs true [en q']).run ⟨e, o, n⟩ = (True ∧ True ∧ ([] : List (Nat × Obj?)).all (fun _ => ([] : List (Nat × Obj?)).all fun _ => true) = true, [en q'], [])) (hrd : (cloCs true [en q']).rd ⟨e, o, n⟩ = [])
    (h : TrO Γ r (nv + 1) ⟨e, (gi, some (vi, ⟨false, true, s, ty, [z']⟩)) :: o, n⟩ d (acc ++ [(gK g ++ (rdK x ++ (rdK y ++ [.o gi])), [.o gi], af)]) K t) (hrg : rich gi = true := by rfl) :
    TrO Γ (⟨none, .st 1 x y, g, af⟩ :: r) nv ⟨e, o, n⟩ d acc K t := by
  subst hj
  subst hz
  have hl := (List.getElem?_eq_some_iff.1 hi).1
  refine trO_st_rich (i := 0) (c := True ∧ True ∧ ([] : List (Nat × Obj?)).all (fun _ => ([] : List (Nat × Obj?)).all fun _ => true) = true) (z := .agg (l.map en)) (es' := [.agg ((l.set off q').map en)]) (cs' := [en q']) (wo := []) (rk := []) hg hx hy hw ho (by rw [hc]; exact hcl) (by rw [hc]; exact hrd) ⟨trivial, trivial, rfl⟩ rfl hk (by rw [hc]; rfl) ?_ ?_ rfl h hrg
  · simp only [cells, List.length_map]
    exact Nat.ble_eq_true_of_le (by omega)
  · simp only [setE, setAt_one, List.map_set, List.set_cons_zero]
theorem trO_ixP_f {len : Nat} {z : D} (hg : gOn e g = true) (hx : rdArg e x = some (.fptr z off)) (hy : rdArg e y = some (.int k a)) (hi : 0 ≤ a ∧ a < len)
    (h : TrO Γ r (nv + 1) ⟨(dst, .fptr z (off + a.toNat * s)) :: e, o, n⟩ d (acc ++ [(gK g ++ (rdK x ++ rdK y), [.e dst], af)]) K t) :
    TrO Γ (⟨some dst, .ixP s len x y, g, af⟩ :: r) nv ⟨e, o, n⟩ d acc K t :=
  trO_op hg (c := True) (we := [(dst, .fptr z (off + a.toNat * s))]) (wo := []) (rd := rdK x ++ rdK y) (by simp [evalOp, put1, strip, hx, hy, hi.1, hi.2]) (by simp [evalOp, strip, hx, hy]) trivial h
theorem trO_ld_arr_f {q : α} {j : Nat} (hj : off = j) (hg : gOn e g = true) (hx : rdArg e x = some (.fptr (.agg (l.map en)) off)) (hi : l[j]? = some q) (_hc : ∀ q, cells (en q) = [en q])
    (h : TrO Γ r (nv + 1) ⟨(dst, en q) :: e, o, n⟩ d (acc ++ [(gK g ++ rdK x, [.e dst], af)]) K t) :
    TrO Γ (⟨some dst, .ld 1 false x, g, af⟩ :: r) nv ⟨e, o, n⟩ d acc K t := by
  subst hj
  have hl := (List.getElem?_eq_some_iff.1 hi).1
  refine trO_ld_f (m := 1) (agg := false) (off := off) (z := .agg (l.map en)) (v := en q) hg hx ?_ ?_ h
  · simp only [cells, List.length_map]
    exact Nat.ble_eq_true_of_le (by omega)
  · simp only [partD, cells, Bool.false_eq_true, if_false]
    simp [hi]
/-- an element of an array's value -/
theorem trO_ix_arr {q : α} {len : Nat} (hg : gOn e g = true) (hx : rdArg e x = some (.agg (l.map en))) (hy : rdArg e y = some (.int k a)) (hi : 0 ≤ a ∧ a < len) (hl : len ≤ l.length) (hq : l[a.toNat]? = some q)
    (h : TrO Γ r (nv + 1) ⟨(dst, en q) :: e, o, n⟩ d (acc ++ [(gK g ++ (rdK x ++ rdK y), [.e dst], af)]) K t) :
    TrO Γ (⟨some dst, .ix 1 len false x y, g, af⟩ :: r) nv ⟨e, o, n⟩ d acc K t := by
  refine trO_op hg (c := True) (we := [(dst, en q)]) (wo := []) (rd := rdK x ++ rdK y) ?_ (by simp [evalOp, strip, hx, hy]) trivial h
  simp [evalOp, put1, strip, hx, hy, hi.1, hi.2, hl, partD, hq]
end
end Go.Dw
namespace Go.Dw
open Go.Sort

theorem inpl_of_row {P : Program} {f : Nat} {r : Bool} {fl : List Int → List Int} {fk : List Int → Nat} (h0 : ∀ zs, (fl zs).length = zs.length ∧ fk zs ≤ zs.length)
    (he : ∀ (w : World) (a : Option Addr) (cap : Nat), Calls P f #[.slice a 0 cap] w fun e w' => e = .returned (if r then .slice a 0 cap else .tuple #[]) ∧ w' = w)
    (hcon : ∀ (blk off cap : Nat) (zs : List Int) (w : World), Holds (Value.int .i64) w blk off zs.toArray → blk < w.heap.size → zs.length < 4611686018427387904 → zs.length ≤ cap →
      Calls P f #[.slice (some ⟨blk, off, none⟩) zs.length cap] w fun e w' => e = .returned (if r then .slice (some ⟨blk, off, none⟩) (fk zs) cap else .tuple #[]) ∧
        ∃ n os, w' = grow (putRow (Value.int .i64) (Sort.ahead w n) blk off (fl zs).toArray) os) : InplOk P f (r, fl, fk) := by
  refine ⟨h0, he, fun w b off cap ty C zs hpos hbig hcap hC hcell => ?_⟩
  have hb : b < w.heap.size := (Array.getElem?_eq_some_iff.1 hC).1
  have hH : Holds (Value.int .i64) w b off zs.toArray := by
    intro j hj
    have hj : j < zs.length := by simpa using hj
    have hz : zs[j]? = some zs[j] := List.getElem?_eq_getElem hj
    have hc := hcell j _ hz
    refine ⟨?_, ?_⟩
    · simp [World.cell?, hC, hc, hj]
    · simp [World.frozen?, hC]
  refine (hcon b off cap zs w hH hb hbig hcap).mono ?_
  rintro e w' ⟨rfl, n, os, rfl⟩
  have hheap : ∀ k, k < w.heap.size → (grow (putRow (Value.int .i64) (Sort.ahead w n) b off (fl zs).toArray) os).heap[k]? = if b = k then (w.heap[k]?).map (onCells (putCells (Value.int .i64) off (fl zs).toArray)) else w.heap[k]? := by
    intro k hk
    simp only [grow, putRow, mapBlock, Sort.ahead]
    rw [Array.getElem?_append_left (by simpa using hk), Array.getElem?_modify]
  refine ⟨rfl, rfl, rfl, rfl, ?_, fun b' hb' hne => ?_, putCells (Value.int .i64) off (fl zs).toArray C, ?_, ?_, ?_, ?_⟩
  · simp [grow, putRow, mapBlock, Sort.ahead]
  · rw [hheap b' hb', if_neg (fun e => hne e.symm)]
  · rw [hheap b hb, if_pos rfl, hC]; rfl
  · simp [putCells]
  · intro k hk
    have hl := (h0 zs).1
    simp only [putCells, Array.getElem?_mapIdx]
    cases hx : C[k]? with
    | none => rfl
    | some x =>
      simp only [Option.map_some]
      rw [if_neg]
      simp only [List.size_toArray, hl]
      omega
  · intro j x hx
    have hl := (h0 zs).1
    obtain ⟨hj, hjx⟩ := List.getElem?_eq_some_iff.1 (show (fl zs)[j]? = some x from hx)
    have hz : zs[j]? = some (zs[j]'(by omega)) := List.getElem?_eq_getElem _
    have hc := hcell j _ hz
    simp only [putCells, Array.getElem?_mapIdx, hc, Option.map_some]
    rw [if_pos (by simp; omega)]
    have : off + j - off = j := by omega
    rw [this]
    simp [hj, hjx]

/-- the spec of such a function -/
def inSpec (r : Bool) (fl : List Int → List Int) (fk : List Int → Nat) : Spec := ⟨[], .inpl r fl fk, fun _ => False, fun _ => .top, fun _ => []⟩

theorem compact_length (zs : List Int) : (Lib.compact zs).length ≤ zs.length := by
  unfold Lib.compact Lib.compactUpTo
  rw [List.length_map]
  exact Nat.le_trans (List.length_filter_le _ _) (by simp)
/-- what slices.Compact leaves in the cells -/
def compactIn (zs : List Int) : List Int := Lib.compact zs ++ List.replicate (zs.length - (Lib.compact zs).length) 0
theorem compactIn_take (zs : List Int) : (compactIn zs).take (Lib.compact zs).length = Lib.compact zs := by simp [compactIn]
def sortI (zs : List Int) : List Int := zs.mergeSort fun x y => decide (x ≤ y)
@[simp] theorem sortI_length (zs : List Int) : (sortI zs).length = zs.length := List.length_mergeSort zs
theorem compactIn_length (zs : List Int) : (compactIn zs).length = zs.length := by
  have := compact_length zs
  simp [compactIn]; omega
end Go.Dw
namespace Go.Dw
open Go.Proofs

/-- how many zero bits a word ends in -/
def tz64 (x : Int) : Option Int := chk (0 ≤ x ∧ x < 18446744073709551616) (some ((Lib.ctz 64 x.toNat : Nat) : Int))
def tz64_enc (a : Int) : List D := [.int .u64 a]
def tz64_dec (ds : List D) : Int := uI (ds.getD 0 .top)
theorem tz64_de (a : Int) : tz64_dec (tz64_enc a) = a := rfl
def tz64_R (b : Int) : D := .int .i64 b
def tz64_E (_b : Int) : List D := []
def tz64_S : Dw.Spec := fSpec [] .ground tz64_enc tz64_dec (fun a => tz64 a) tz64_R tz64_E

theorem tzTab_eq : tzTab = Lib.deBruijn64tab := by decide

theorem tz64_spec {P : Program} {f g : Nat} (he : Entered P f) (hg : P.globalNamed "math/bits.deBruijn64tab" = some g)
    (h : ∀ (x : Nat) (w : World), x < 18446744073709551616 → (x ≠ 0 → TabAt g Lib.deBruijn64tab w) → Calls P f #[.int .u64 (x : Int)] w fun e w' => e = .returned (.int .i64 (Lib.ctz 64 x : Nat)) ∧ w' = w) : SpecOk P f tz64_S := by
  intro F0 hG
  refine ⟨he, fun q hq => (by cases hq), fun _ _ w F ds vs M hsub hF hfin hA hp => ?_, fun φ hφ => (by cases hφ)⟩
  obtain ⟨a, b, rfl, hb⟩ := hp
  have hr : 0 ≤ a ∧ a < 18446744073709551616 := by
    by_cases hr : 0 ≤ a ∧ a < 18446744073709551616
    · exact hr
    · simp [tz64, chk, hr] at hb
  have hfa : tz64 a = some ((Lib.ctz 64 a.toNat : Nat) : Int) := by simp [tz64, chk, hr]
  have hb' : (fun a => tz64 a) a = some ((Lib.ctz 64 a.toNat : Nat) : Int) := hfa
  cases hA with
  | ptr j d ds xs M m hp => cases hp
  | val j d ds x xs M hp hn hx hr' =>
    cases hx
    cases hr'
    have ht : a.toNat ≠ 0 → TabAt g Lib.deBruijn64tab w := fun _ j hj => by
      have hj' : j < 64 := by have : Lib.deBruijn64tab.length = 64 := by decide
                              omega
      rw [← tzTab_eq]
      exact hF _ _ _ (hsub _ _ _ (hG g hg j hj'))
    have key := h a.toNat w (by omega) ht
    have e1 : ((a.toNat : Nat) : Int) = a := by omega
    rw [e1] at key
    refine key.mono ?_
    rintro e w' ⟨rfl, rfl⟩
    refine ⟨_, F, fun _ _ _ => False, fun _ => False, rfl, hF, hfin, Stp.refl _ _ _, ?_, ⟨fun k m hm => by simp at hm, fun _ _ _ h => h.elim, fun _ _ _ h => h.elim, fun _ _ _ _ _ h => h.elim, fun _ _ _ _ h => h.elim⟩, fun _ _ _ h => h.elim⟩
    show Fro F ((fSpec [] .ground tz64_enc tz64_dec (fun a => tz64 a) tz64_R tz64_E).res (tz64_enc a)) _
    rw [fSpec_res tz64_de hb']
    exact .int _ _
end Go.Dw
namespace Go.Dw

section
variable {Γ Γ' : Specs} {X ι γ : Type} {K : X → DExit → S → Prop} {t : Option X} {e E : List (Nat × D)} {o O : List (Nat × Obj?)} {n nv N : Nat} {acc : List Foot}
  {r : List DOper} {dst : Option Nat} {g : Option (Nat × Bool)} {af : List Nat}

/-- a description, and another one of what it describes -/
theorem has_then {σ : S} {E1 : List (Nat × D)} {O1 : List (Nat × Obj?)} (h : Has σ E1 O1) (k : ∀ n, Has ⟨E1, O1, n⟩ E O) : Has σ E O :=
  h.elim fun n h => (k n).imp fun _ k => h.trans k
/-- objects get other names -/
theorem has_nams (rn : Nat → Nat) (hn : namesOk rn (o.map Prod.fst) = true) (h : Has ⟨e.map (fun p => (p.1, rnm rn p.2)), o.map (fun p => (rn p.1, rnO rn p.2)), n⟩ E O) : Has ⟨e, o, n⟩ E O :=
  has_rw (Rw.nams (σ := ⟨e, o, n⟩) rn hn) h

/-- a call that is followed on the spot, and the rest of a stretch -/
def TrC (Γ : Specs) (op : DOper) (r : List DOper) (K : X → DExit → S → Prop) (σ : S) (t : Option X) : Prop := ∀ x, t = some x → xcall Γ op σ (Wk (fun τ => wpS Γ r τ.n τ (K x .normal)))
theorem trO_gen {op : DOper} {E : γ → List (Nat × D)} {O : γ → List (Nat × Obj?)} (g0 : γ) (hh : Has ⟨e, o, nv⟩ (E g0) (O g0)) (h : ∀ g nn, TrC Γ op r K ⟨E g, O g, nn⟩ t) : TrO Γ (op :: r) nv ⟨e, o, n⟩ false acc (kReg N K) t := by
  intro x hx
  refine ⟨fun _ => .inr ?_, fun hd => by cases hd⟩
  obtain ⟨m, hm⟩ := hh
  exact ⟨_, hm, h g0 m x hx⟩

/-- at the end of a function that is followed on the spot -/
def kInl (Γ : Specs) (r : List DOper) (dst : Option Nat) (rs : List DRes) (e : List (Nat × D)) (K : X → DExit → S → Prop) : X → DExit → S → Prop := fun x =>
  opnK rs e (fun d τ => Wk (fun τ => wpS Γ r τ.n τ (K x .normal)) ⟨put1 dst d ++ τ.e, τ.o, τ.n⟩)
/-- .. where the data have a given form -/
def kInlC (dst : Option Nat) (rs : List DRes) (e : List (Nat × D)) (E : ι → γ → List (Nat × D)) (O : ι → γ → List (Nat × Obj?)) (j : ι → Option X) : X → DExit → S → Prop := fun x =>
  opnK rs e (fun d τ => ∃ s g, j s = some x ∧ Has ⟨put1 dst d ++ τ.e, τ.o, τ.n⟩ (E s g) (O s g))

theorem trC_base {fa : Arg} {args : List Arg} {k np : Nat} {caps ds : List D} {rs : List DRes} {dc : DCode} {KK : X → DExit → S → Prop} (hg : gOn e g = true) (hf : rdArg e fa = some (.clo k caps)) (hds : rdArgs e args = ds) (hw : ds.all (fun d => (match d with | .when .. => false | _ => true)) = true) (hkb : Nat.blt k 4096 = true)
    (hΓ : Γ (k + 4096 * kcode ds) = some (opnS Γ' np rs dc)) (hnp : (ds ++ caps).length = np) (hE : argE 0 (ds ++ caps) = E) (hK : ∀ x ex τ, KK x ex τ → kInl Γ r dst rs e K x ex τ) (h : Tr Γ' dc KK ⟨E, o, n⟩ t) :
    TrC Γ ⟨dst, .call fa args, g, af⟩ r K ⟨e, o, n⟩ t := by
  intro x hx
  have hrd : (rdAs args).run ⟨e, o, n⟩ = ds := by rw [← hds]; exact rdAs_run' args
  have hraw : (raw fa).run ⟨e, o, n⟩ = .clo k caps := by simp [hf]
  have hon : onG g ⟨e, o, n⟩ := by
    cases g with
    | none => trivial
    | some p =>
      obtain ⟨tt, want⟩ := p
      show (guardOf ((S.mk e o n).ge tt) want).1 ∧ (guardOf ((S.mk e o n).ge tt) want).2 = true
      simp only [gOn, lookB_eq] at hg
      simp only [S.ge]
      generalize (look e tt).getD .top = dd at *
      cases dd <;> simp_all [guardOf]
      rename_i p dd
      cases dd <;> simp_all
  refine ⟨hon, fa, args, k, caps, opnS Γ' np rs dc, opnF Γ' np rs dc, Wk (fun τ => wpS Γ r τ.n τ (K x .normal)), fun τ hτ => hτ, rfl, hraw, hkb, ?_, rfl, ?_, ?_⟩
  · show Γ (k + 4096 * kcode ((rdAs args).run ⟨e, o, n⟩)) = _
    rw [hrd]; exact hΓ
  · show ((rdAs args).run ⟨e, o, n⟩).all _ = true
    rw [hrd]; exact hw
  · show opnF Γ' np rs dc ((rdAs args).run ⟨e, o, n⟩ ++ caps) ⟨e, o, n⟩ _
    rw [hrd]
    refine ⟨hnp, _, .refl _, ?_⟩
    show DWp Γ' dc _ ⟨argE 0 (ds ++ caps), o, n⟩
    rw [hE]
    exact DWp_mono dc _ _ _ (fun ex τ hq => hK x ex τ hq) (h x hx)
theorem trC_call {fa : Arg} {args : List Arg} {k np : Nat} {caps ds : List D} {rs : List DRes} {dc : DCode} (hg : gOn e g = true) (hf : rdArg e fa = some (.clo k caps)) (hds : rdArgs e args = ds) (hw : ds.all (fun d => (match d with | .when .. => false | _ => true)) = true) (hkb : Nat.blt k 4096 = true)
    (hΓ : Γ (k + 4096 * kcode ds) = some (opnS Γ' np rs dc)) (hnp : (ds ++ caps).length = np) (hE : argE 0 (ds ++ caps) = E) (h : Tr Γ' dc (kInl Γ r dst rs e K) ⟨E, o, n⟩ t) :
    TrC Γ ⟨dst, .call fa args, g, af⟩ r K ⟨e, o, n⟩ t := trC_base hg hf hds hw hkb hΓ hnp hE (fun _ _ _ h => h) h

theorem opnK_mono {rs : List DRes} {K1 K2 : D → S → Prop} (h : ∀ d τ, K1 d τ → K2 d τ) {ex : DExit} {τ : S} (hq : opnK rs e K1 ex τ) : opnK rs e K2 ex τ := by
  cases ex with
  | exit id => exact hq
  | normal => exact Wk.mono (fun τ h' => ⟨h'.1, h _ _ h'.2⟩) hq
  | ret => exact Wk.mono (fun τ h' => ⟨h'.1, h _ _ h'.2⟩) hq
theorem trC_cut {fa : Arg} {args : List Arg} {k np : Nat} {caps ds : List D} {rs : List DRes} {dc : DCode} {ES : ι → γ → List (Nat × D)} {OS : ι → γ → List (Nat × Obj?)} {j : ι → Option X} (hg : gOn e g = true) (hf : rdArg e fa = some (.clo k caps)) (hds : rdArgs e args = ds) (hw : ds.all (fun d => (match d with | .when .. => false | _ => true)) = true) (hkb : Nat.blt k 4096 = true)
    (hΓ : Γ (k + 4096 * kcode ds) = some (opnS Γ' np rs dc)) (hnp : (ds ++ caps).length = np) (hE : argE 0 (ds ++ caps) = E) (h : Tr Γ' dc (kInlC dst rs e ES OS j) ⟨E, o, n⟩ t) (h2 : ∀ s g nn, TrO Γ r nn ⟨ES s g, OS s g, nn⟩ false [] (kReg N K) (j s)) :
    TrC Γ ⟨dst, .call fa args, g, af⟩ r K ⟨e, o, n⟩ t := by
  refine trC_base (KK := kInlC dst rs e ES OS j) hg hf hds hw hkb hΓ hnp hE (fun x ex τ hq => ?_) h
  refine opnK_mono (fun d τ hq => ?_) hq
  obtain ⟨s, g, hj, m, hm⟩ := hq
  exact ⟨_, hm, (h2 s g m x hj).1 rfl⟩

/-- it returns -/
theorem trX_inl {rs : List DRes} {d : D} {ex : DExit} {e' : List (Nat × D)} {o' : List (Nat × Obj?)} {n' : Nat} (hex : (match ex with | .exit _ => false | _ => true) = true) (hr : (resVal rs ⟨e', o', n'⟩).1) (hd : (resVal rs ⟨e', o', n'⟩).2 = d) (hh : Has ⟨put1 dst d ++ e, o', n'⟩ E O)
    (h : ∀ nn, TrO Γ r nn ⟨E, O, nn⟩ false [] (kReg N K) t) : TrX ex (kInl Γ r dst rs e K) ⟨e', o', n'⟩ t := by
  intro x hx
  subst hd
  have key : Wk (fun τ => (resVal rs τ).1 ∧ (fun (d : D) (τ : S) => Wk (fun τ => wpS Γ r τ.n τ (K x .normal)) ⟨put1 dst d ++ τ.e, τ.o, τ.n⟩) (resVal rs τ).2 ⟨e, τ.o, τ.n⟩) ⟨e', o', n'⟩ := by
    refine ⟨_, .refl _, ?_⟩
    obtain ⟨m, hm⟩ := hh
    exact ⟨hr, _, hm, (h m x hx).1 rfl⟩
  cases ex with
  | exit id => cases hex
  | normal => exact key
  | ret => exact key
theorem trX_inlC {rs : List DRes} {d : D} {ex : DExit} {e' : List (Nat × D)} {o' : List (Nat × Obj?)} {n' : Nat} {ES : ι → γ → List (Nat × D)} {OS : ι → γ → List (Nat × Obj?)} {j : ι → Option X} {s : ι} (g : γ) (hex : (match ex with | .exit _ => false | _ => true) = true) (hr : (resVal rs ⟨e', o', n'⟩).1) (hd : (resVal rs ⟨e', o', n'⟩).2 = d)
    (hh : Has ⟨put1 dst d ++ e, o', n'⟩ (ES s g) (OS s g)) : TrX ex (kInlC dst rs e ES OS j) ⟨e', o', n'⟩ (j s) := by
  intro x hx
  subst hd
  have key : Wk (fun τ => (resVal rs τ).1 ∧ (fun (d : D) (τ : S) => ∃ s g, j s = some x ∧ Has ⟨put1 dst d ++ τ.e, τ.o, τ.n⟩ (ES s g) (OS s g)) (resVal rs τ).2 ⟨e, τ.o, τ.n⟩) ⟨e', o', n'⟩ := by
    refine ⟨_, .refl _, hr, s, g, hx, hh⟩
  cases ex with
  | exit id => cases hex
  | normal => exact key
  | ret => exact key
end
end Go.Dw
namespace Go.Dw
abbrev M (d s : Nat) : DOper := ⟨some d, .mv (.t s), none, []⟩
abbrev P (d : Nat) (o : DOp) : DOper := ⟨some d, o, none, []⟩
abbrev T (n : Nat) : Arg := .t n
abbrev C (n : Int) : Arg := .c (.int .i64 n)
end Go.Dw
namespace Go.Dw
open Go.ChangeShapes Go.WideShapes Go.ChangeAt Go.RowKit

theorem glob_of_laid {P : Program} {laid : List (String × DataW Unit)} {W : World} {t e : TypeId} (h : laidMetH P laid W) (hl : laid = [("math/bits.deBruijn64tab", .agg (tzTab.map fun n : Nat => .lit (.int .u8 (n : Int))))])
    (hn : (laid.all fun x => x.2.handleName?.isNone) = true) (ht : ∀ g, P.globalNamed "math/bits.deBruijn64tab" = some g → (P.globals[g]?).map (·.type) = some t)
    (ha : P.underlying t = some (.array 64 e)) (he : P.underlying e = some (.int .u8)) (hc : P.cellsOf e = 1) : Glob P (memF W) := by
  rw [MakeChecks.laidMetH_plain _ _ _ hn] at h
  subst hl
  obtain ⟨ps, ⟨g0, t0, cs0, f0, p0, q0, hg0, ht0, hv0, hd0, _⟩, _⟩ := h
  intro g hg j hj
  obtain rfl := Option.some.inj (hg.symm.trans hg0)
  obtain rfl := Option.some.inj ((ht _ hg0).symm.trans ht0)
  obtain ⟨xs, m, rfl, hx, hlen, hn64, hel⟩ := DataW.trod_array ha hd0
  simp only [Prod.mk.injEq, DataW.agg.injEq] at hx
  have hj' := hel j hj
  rw [hc] at hj'
  have hxj : xs[j]? = some (xs[j]'(by omega)) := List.getElem?_eq_getElem _
  rw [hxj] at hj'
  obtain ⟨k, e1, e2, _⟩ := DataW.trod_int he hj'
  have hk : ((xs.map (·.1))[j]?) = some (.lit (.int .u8 k)) := by
    rw [List.getElem?_map, hxj, Option.map_some, e2]
  rw [← hx.1] at hk
  have ht64 : tzTab.length = 64 := by decide
  rw [List.getElem?_map, List.getElem?_eq_getElem (show j < tzTab.length by omega), Option.map_some] at hk
  have hkk : k = ((tzTab[j]'(by omega) : Nat) : Int) := by simpa using hk.symm
  have hcell := World.var?_cell hg0 hv0 j
  have hcs : cs0.toList[j]? = some (.int .u8 k) := by
    have h0 : ((cs0.toList.drop (j * 1)).take 1)[0]? = some (.int .u8 k) := by rw [e1]; rfl
    simpa [List.getElem?_take, List.getElem?_drop] using h0
  show W.cell? ⟨g, j, none⟩ = _
  rw [hcell]
  have : cs0[j]? = some (.int .u8 k) := by simpa using hcs
  rw [this, hkk]
  simp [List.getD, List.getElem?_eq_getElem (show j < tzTab.length by omega)]

/-! ### Words of bits -/
def WW (w : Int) : Prop := 0 ≤ w ∧ w < 18446744073709551616
def bitW (w : Int) (j : Nat) : Bool := w.toNat.testBit j
theorem ofInt_toNat {w : Int} (h : WW w) : (BitVec.ofInt IntKind.u64.bits w).toNat = w.toNat := by
  show (BitVec.ofInt 64 w).toNat = w.toNat
  have := h.1; have := h.2
  rw [BitVec.toNat_ofInt]
  omega
theorem u64_of_nat {n : Nat} (h : n < 18446744073709551616) : IntKind.u64.wrap (n : Int) = n := by
  simp [IntKind.wrap, IntKind.signed, IntKind.bits]; omega
theorem u64_id {n : Int} (h : WW n) : IntKind.u64.wrap n = n := by
  have := h.1; have := h.2
  simp [IntKind.wrap, IntKind.signed, IntKind.bits]; omega
theorem WW.nat {n : Nat} (h : n < 18446744073709551616) : WW (n : Int) := ⟨by omega, by omega⟩
theorem WW.toNat_lt {w : Int} (h : WW w) : w.toNat < 18446744073709551616 := by have := h.1; have := h.2; omega
theorem bv_lt (b : BitVec IntKind.u64.bits) : b.toNat < 18446744073709551616 := b.isLt
theorem or_W {x y : Int} (hx : WW x) (hy : WW y) : IntKind.u64.wrap ((BitVec.ofInt IntKind.u64.bits x ||| BitVec.ofInt IntKind.u64.bits y).toNat : Nat) = ((x.toNat ||| y.toNat : Nat) : Int) := by
  rw [u64_of_nat (bv_lt _), BitVec.toNat_or, ofInt_toNat hx, ofInt_toNat hy]
theorem and_W {x y : Int} (hx : WW x) (hy : WW y) : IntKind.u64.wrap ((BitVec.ofInt IntKind.u64.bits x &&& BitVec.ofInt IntKind.u64.bits y).toNat : Nat) = ((x.toNat &&& y.toNat : Nat) : Int) := by
  rw [u64_of_nat (bv_lt _), BitVec.toNat_and, ofInt_toNat hx, ofInt_toNat hy]
/-- the bits of one word that another one has not -/
def clrN (x y : Nat) : Nat := x &&& (18446744073709551615 - y)
theorem andNot_W {x y : Int} (hx : WW x) (hy : WW y) : IntKind.u64.wrap ((BitVec.ofInt IntKind.u64.bits x &&& ~~~ BitVec.ofInt IntKind.u64.bits y).toNat : Nat) = ((clrN x.toNat y.toNat : Nat) : Int) := by
  rw [u64_of_nat (bv_lt _), BitVec.toNat_and, BitVec.toNat_not, ofInt_toNat hx, ofInt_toNat hy]
  rfl
theorem clrN_bit {x y j : Nat} (hx : x < 18446744073709551616) (hy : y < 18446744073709551616) : (clrN x y).testBit j = (x.testBit j && !y.testBit j) := by
  unfold clrN
  rw [Nat.testBit_and]
  by_cases hj : j < 64
  · have e : 18446744073709551615 - y = 2 ^ 64 - (y + 1) := by omega
    rw [e, Nat.testBit_two_pow_sub_succ (by simpa using hy)]
    simp [hj]
  · have : x.testBit j = false := Nat.testBit_lt_two_pow (Nat.lt_of_lt_of_le hx (Nat.pow_le_pow_right (by decide : 0 < 2) (show 64 ≤ j by omega)))
    simp [this]
theorem and_lt' {x y : Nat} (hx : x < 18446744073709551616) : x &&& y < 18446744073709551616 := Nat.lt_of_le_of_lt Nat.and_le_left hx
theorem or_lt' {x y : Nat} (hx : x < 18446744073709551616) (hy : y < 18446744073709551616) : x ||| y < 18446744073709551616 := by
  have := Nat.or_lt_two_pow (n := 64) (x := x) (y := y) (by simpa using hx) (by simpa using hy)
  simpa using this

/-- the lowest bit, and the word without it -/
theorem low_bits {x : Nat} (h0 : 0 < x) (h : x < 18446744073709551616) :
    Lib.ctz 64 x < 64 ∧ x.testBit (Lib.ctz 64 x) = true ∧ (∀ j, j < Lib.ctz 64 x → x.testBit j = false) ∧ ∀ j, (x &&& (x - 1)).testBit j = (x.testBit j && decide (j ≠ Lib.ctz 64 x)) := by
  unfold Lib.ctz
  rw [if_neg (by omega)]
  obtain ⟨m, hm, hk⟩ := Lib.ctzFrom_spec 64 x h0 (by simpa using h)
  generalize Lib.ctzFrom 64 x = k at hm hk
  have hp : 0 < 2 ^ k := Nat.two_pow_pos k
  have e1 : x = 2 ^ (k + 1) * m + 2 ^ k := by rw [hm, Nat.pow_succ, Nat.mul_add, Nat.mul_assoc, Nat.mul_one]
  have e2 : x - 1 = 2 ^ (k + 1) * m + (2 ^ k - 1) := by omega
  have b1 : 2 ^ k < 2 ^ (k + 1) := by rw [Nat.pow_succ]; omega
  have t1 : ∀ j, x.testBit j = if j < k + 1 then decide (k = j) else m.testBit (j - (k + 1)) := by
    intro j
    rw [e1, Nat.testBit_two_pow_mul_add _ b1, Nat.testBit_two_pow]
  have t2 : ∀ j, (x - 1).testBit j = if j < k + 1 then decide (j < k) else m.testBit (j - (k + 1)) := by
    intro j
    rw [e2, Nat.testBit_two_pow_mul_add _ (by omega), Nat.testBit_two_pow_sub_one]
  refine ⟨hk, by rw [t1, if_pos (by omega)]; simp, fun j hj => by rw [t1, if_pos (by omega)]; simp; omega, fun j => ?_⟩
  rw [Nat.testBit_and, t1, t2]
  by_cases hj : j < k + 1
  · rw [if_pos hj, if_pos hj]
    by_cases hkj : k = j
    · subst hkj; simp
    · simp [hkj]
  · rw [if_neg hj, if_neg hj]
    have : j ≠ k := by omega
    simp [this]
end Go.Dw
