/-
  The reference for what follows an instruction and for liveness: the step, and that repeating it ends in the least solution.
-/
import Derived.Test.YtihomlbcppfngaaPst
import Derived.Test.YtihomlbcppfngaaPpr
namespace Go.Proofs.Ytihomlbcppfngaa
open Go Go.Dw Go.Proofs

attribute [local simp] chk_pos Bool.cond_eq_ite

/-- the instructions that may follow instruction x at k -/
def nextN (x : TInstr) (k : Int) : List Int :=
  if x.Op = 20 then [x.A] else if x.Op = 23 ∨ x.Op = 24 then [] else
  if x.Op = 21 then (if x.B < k + 1 then [x.B, k + 1] else if k + 1 < x.B then [k + 1, x.B] else [k + 1]) else [k + 1]

theorem rnext_eq {f : TFunc} {k : Nat} {x : TInstr} (h : f.Code[k]? = some x) (hk : k < 9223372036854775807) : ref13_Next f (k : Int) = some (nextN x k) := by
  obtain ⟨hl, hx⟩ := List.getElem?_eq_some_iff.1 h
  have hnl : ¬ f.Code.length ≤ k := by omega
  have w : IntKind.i64.wrap ((k : Int) + 1) = (k : Int) + 1 := wrap64 (by omega) (by omega)
  unfold ref13_Next ref13_Next_j1 nextN
  obtain ⟨op, a, b, c, i⟩ := x
  by_cases h20 : op = 20
  · subst h20; simp [hx, hl, hnl, show ¬ (k : Int) < 0 by omega]
  · have e20 : (op == 20) = false := by simpa using h20
    by_cases h23 : op = 23
    · subst h23; simp [hx, hl, hnl, show ¬ (k : Int) < 0 by omega, ref13_Next_j2]
    · have e23 : (op == 23) = false := by simpa using h23
      by_cases h24 : op = 24
      · subst h24; simp [hx, hl, hnl, show ¬ (k : Int) < 0 by omega, ref13_Next_j2]
      · have e24 : (op == 24) = false := by simpa using h24
        by_cases h21 : op = 21
        · subst h21
          by_cases hb : b < (k : Int) + 1
          · simp [hx, hl, hnl, show ¬ (k : Int) < 0 by omega, ref13_Next_j2, w, hb]
          · by_cases hb' : (k : Int) + 1 < b
            · simp [hx, hl, hnl, show ¬ (k : Int) < 0 by omega, ref13_Next_j2, w, hb, hb']
            · simp [hx, hl, hnl, show ¬ (k : Int) < 0 by omega, ref13_Next_j2, w, hb, hb']
        · have e21 : (op == 21) = false := by simpa using h21
          simp [hx, hl, hnl, show ¬ (k : Int) < 0 by omega, ref13_Next_j2, w, e20, e23, e24, e21, h20, h23, h24, h21]

def usesN (x : TInstr) : List Int := if x.Op = 15 ∨ x.Op = 17 then [x.B] else []
def inN (x : TInstr) (s : List Int) : List Int := unionN (if x.Op = 16 ∨ x.Op = 17 then s.filter (· != x.A) else s) (usesN x)

theorem in_eq (x : TInstr) (s : List Int) (h : s.length ≤ 900000) : ref15_In x s = some (inN x s) := by
  obtain ⟨op, a, b, c, i⟩ := x
  have hu : ref15_Uses ⟨op, a, b, c, i⟩ = some (usesN ⟨op, a, b, c, i⟩) := by
    unfold ref15_Uses usesN
    by_cases h15 : op = 15
    · simp [h15]
    · have e15 : (op == 15) = false := by simpa using h15
      by_cases h17 : op = 17
      · simp [h17]
      · have e17 : (op == 17) = false := by simpa using h17
        simp [h15, e15, h17, e17]
  have hul : (usesN ⟨op, a, b, c, i⟩).length ≤ 1 := by unfold usesN; split <;> simp
  have hfl : (s.filter (· != a)).length ≤ s.length := List.length_filter_le ..
  have hr := remove_eq s a (by omega)
  have hu1 := union_eq (s.filter (· != a)) (usesN ⟨op, a, b, c, i⟩) (by omega)
  have hu2 := union_eq s (usesN ⟨op, a, b, c, i⟩) (by omega)
  unfold ref15_In ref15_Defines ref15_Removable inN
  by_cases h16 : op = 16
  · subst h16; simp [hr, hu, hu1]
  · have e16 : (op == 16) = false := by simpa using h16
    by_cases h17 : op = 17
    · subst h17; simp [hr, hu, hu1]
    · have e17 : (op == 17) = false := by simpa using h17
      simp [h16, e16, h17, e17, hu, hu2]

/-- code whose steps stay inside, and whose slots are there -/
structure FlowOk (f : TFunc) : Prop where
  len : 1 ≤ f.Code.length
  len' : f.Code.length ≤ 10000
  slots : f.Slots.length ≤ 500
  next : ∀ (k : Nat) x, f.Code[k]? = some x → ∀ j ∈ nextN x k, 0 ≤ j ∧ j < f.Code.length
  uses : ∀ x ∈ f.Code, ∀ v ∈ usesN x, 0 ≤ v ∧ v < f.Slots.length

theorem FuncOk.flow {ps : List Int} {i most : Int} {f : TFunc} (h : FuncOk ps i most f) (hm : most ≤ 1000) : FlowOk f := by
  have hl := h.len
  have hl' := h.len'
  have hs := h.slots
  refine ⟨hl, by omega, by omega, fun k x hx j hj => ?_, fun x hx v hv => ?_⟩
  · have hkl := (List.getElem?_eq_some_iff.1 hx).1
    by_cases hk : k + 1 < f.Code.length
    · have hins := h.body k x hx hk
      cases hins with
      | jump t h1 => simp [nextN] at hj; subst hj; exact h1
      | branch a t h0 h1 =>
        simp [nextN] at hj
        have : j = t ∨ j = (k : Int) + 1 := by
          split at hj
          · simpa using hj
          · split at hj
            · simp at hj; omega
            · simp at hj; omega
        rcases this with rfl | rfl <;> omega
      | bin op a b c h1 h2 h3 h4 h5 h6 =>
        simp [nextN, show op ≠ 20 by omega, show op ≠ 23 by omega, show op ≠ 24 by omega, show op ≠ 21 by omega] at hj
        subst hj; omega
      | un op a h1 h2 =>
        simp [nextN, show op ≠ 20 by omega, show op ≠ 23 by omega, show op ≠ 24 by omega, show op ≠ 21 by omega] at hj
        subst hj; omega
      | _ => simp [nextN] at hj; subst hj; omega
    · have he := h.last x (by rw [show f.Code.length - 1 = k by omega]; exact hx)
      rcases he with rfl | ⟨w, _, rfl⟩ <;> simp [nextN] at hj
  · obtain ⟨k, hk⟩ := List.getElem?_of_mem hx
    have hkl := (List.getElem?_eq_some_iff.1 hk).1
    by_cases hk1 : k + 1 < f.Code.length
    · have hins := h.body k x hk hk1
      cases hins with
      | load a b h0 h1 h2 => simp [usesN] at hv; subst hv; exact ⟨h1, h2⟩
      | move a b h0 h1 h2 => simp [usesN] at hv; subst hv; exact ⟨h1, h2⟩
      | bin op a b c h1 h2 h3 h4 h5 h6 => simp [usesN, show op ≠ 15 by omega, show op ≠ 17 by omega] at hv
      | un op a h1 h2 => simp [usesN, show op ≠ 15 by omega, show op ≠ 17 by omega] at hv
      | _ => simp [usesN] at hv
    · have he := h.last x (by rw [show f.Code.length - 1 = k by omega]; exact hk)
      rcases he with rfl | ⟨w, _, rfl⟩ <;> simp [usesN] at hv

theorem inN_set {f : TFunc} (hf : FlowOk f) {x : TInstr} (hx : x ∈ f.Code) {s : List Int} (hs : SetIn f.Slots.length s) :
    SetIn f.Slots.length (inN x s) ∧ ∀ v, v ∈ inN x s ↔ (v ∈ s ∧ ¬ ((x.Op = 16 ∨ x.Op = 17) ∧ x.A = v)) ∨ v ∈ usesN x := by
  have hsl := hf.slots
  have h0 : SetIn f.Slots.length (if x.Op = 16 ∨ x.Op = 17 then s.filter (· != x.A) else s) := by
    split
    · exact ⟨hs.1.filter _, fun v hv => hs.2 v (List.mem_filter.1 hv).1⟩
    · exact hs
  obtain ⟨h1, h2⟩ := unionN_set (n := f.Slots.length) (by omega) (b := usesN x) h0 (hf.uses x hx)
  refine ⟨h1, fun v => ?_⟩
  unfold inN
  rw [h2]
  by_cases hd : x.Op = 16 ∨ x.Op = 17
  · simp only [hd, if_true, List.mem_filter, true_and]
    constructor
    · rintro (⟨h3, h4⟩ | h3)
      · exact .inl ⟨h3, fun e => by simp [e] at h4⟩
      · exact .inr h3
    · rintro (⟨h3, h4⟩ | h3)
      · exact .inl ⟨h3, by simpa using fun e : v = x.A => h4 e.symm⟩
      · exact .inr h3
  · simp [hd]

def codeAt (f : TFunc) (j : Int) : TInstr := (f.Code[j.toNat]?).getD default
def outAt (l : List (List Int)) (j : Int) : List Int := (l[j.toNat]?).getD []
def stepRow (f : TFunc) (l : List (List Int)) (k : Int) : List Int := (nextN (codeAt f k) k).foldl (fun o j => unionN o (inN (codeAt f j) (outAt l j))) []
def stepL (f : TFunc) (l : List (List Int)) : List (List Int) := (List.range f.Code.length).map fun k => stepRow f l (k : Nat)

/-- an annotation of the right size, of sets of slots -/
def LvOk (f : TFunc) (l : List (List Int)) : Prop := l.length = f.Code.length ∧ ∀ s ∈ l, SetIn f.Slots.length s

theorem fold_set {f : TFunc} (hf : FlowOk f) {l : List (List Int)} (hl : LvOk f l) : ∀ {js : List Int} {o : List Int}, (∀ j ∈ js, 0 ≤ j ∧ j < f.Code.length) → SetIn f.Slots.length o →
    SetIn f.Slots.length (js.foldl (fun o j => unionN o (inN (codeAt f j) (outAt l j))) o) ∧ ∀ v, v ∈ js.foldl (fun o j => unionN o (inN (codeAt f j) (outAt l j))) o ↔ v ∈ o ∨ ∃ j ∈ js, v ∈ inN (codeAt f j) (outAt l j)
  | [], o, _, ho => ⟨ho, fun v => by simp⟩
  | j :: js, o, hj, ho => by
    have hsl := hf.slots
    have h0 := hj j (List.mem_cons_self ..)
    have hc : codeAt f j ∈ f.Code := by
      unfold codeAt
      rw [List.getElem?_eq_getElem (show j.toNat < f.Code.length by omega)]
      exact List.getElem_mem _
    have ho' : SetIn f.Slots.length (outAt l j) := by
      unfold outAt
      rw [List.getElem?_eq_getElem (show j.toNat < l.length by have := hl.1; omega)]
      exact hl.2 _ (List.getElem_mem _)
    obtain ⟨h1, h2⟩ := inN_set hf hc ho'
    obtain ⟨h3, h4⟩ := unionN_set (n := f.Slots.length) (by omega) (b := inN (codeAt f j) (outAt l j)) ho fun x hx => ⟨(h1.1.2 x hx).1, h1.2 x hx⟩
    obtain ⟨h5, h6⟩ := fold_set hf hl (fun q hq => hj q (List.mem_cons_of_mem _ hq)) h3
    refine ⟨h5, fun v => ?_⟩
    simp only [List.foldl_cons]
    rw [h6, h4]
    simp only [List.mem_cons, exists_eq_or_imp, or_assoc]

theorem stepRow_set {f : TFunc} (hf : FlowOk f) {l : List (List Int)} (hl : LvOk f l) {k : Nat} (hk : k < f.Code.length) :
    SetIn f.Slots.length (stepRow f l k) ∧ ∀ v, v ∈ stepRow f l k ↔ ∃ j ∈ nextN (codeAt f k) k, v ∈ inN (codeAt f j) (outAt l j) := by
  have hx : f.Code[k]? = some (codeAt f k) := by simp [codeAt, hk]
  obtain ⟨h1, h2⟩ := fold_set hf hl (js := nextN (codeAt f k) k) (hf.next k _ hx) (SetIn.nil _)
  exact ⟨h1, fun v => by unfold stepRow; rw [h2]; simp⟩
theorem stepL_ok {f : TFunc} (hf : FlowOk f) {l : List (List Int)} (hl : LvOk f l) : LvOk f (stepL f l) := by
  refine ⟨by simp [stepL], fun s hs => ?_⟩
  obtain ⟨k, hk, rfl⟩ := List.mem_map.1 hs
  exact (stepRow_set hf hl (List.mem_range.1 hk)).1

theorem step_eq {f : TFunc} (hf : FlowOk f) {l : List (List Int)} (hl : LvOk f l) : ref16_Step f ⟨l⟩ = some ⟨stepL f l⟩ := by
  have hlen := hf.len'
  unfold ref16_Step
  rw [chk_pos (by omega)]
  have key : Hs (LoopT (fun s : List (List Int) × Int => ref16_Step_b1 f ⟨l⟩ s.1 s.2) (List.replicate (f.Code.length : Int).toNat ([] : List Int), 0)) fun r => r = ⟨stepL f l⟩ := by
    refine Hs.loop (fun s => s.1.length = f.Code.length ∧ ∃ k : Nat, s.2 = (k : Int) ∧ k ≤ f.Code.length ∧ ∀ (j : Nat) r, s.1[j]? = some r → r = if j < k then stepRow f l j else []) (fun s => f.Code.length - s.2.toNat) ⟨by simp, 0, rfl, Nat.zero_le _, fun j r hj => ?_⟩ ?_
    · have := List.mem_of_getElem? hj
      rw [List.mem_replicate] at this
      simp [this.2]
    rintro ⟨x, k'⟩ ⟨hxl, k, hke, hk, hall⟩
    simp only at hxl hke hall
    subst hke
    by_cases hlt : k < f.Code.length
    · have w := wrap_succ (show k < 9223372036854775807 by omega)
      have hx : f.Code[k]? = some (codeAt f k) := by simp [codeAt, hlt]
      have hxk : x[k]? = some [] := by
        have h1 : x[k]? = some (x[k]'(by omega)) := List.getElem?_eq_getElem _
        have := hall k _ h1
        rw [h1, this, if_neg (by omega)]
      have hset : x.set k [] = x := by
        obtain ⟨h1, h2⟩ := List.getElem?_eq_some_iff.1 hxk
        rw [← h2]; exact List.set_getElem_self h1
      have inner := loop_list (body := fun s : List (List Int) × Int => ref16_Step_b3 (nextN (codeAt f k) k) k f ⟨l⟩ s.1 s.2) (nextN (codeAt f k) k) (fun (o : List Int) i => (x.set k o, i)) (fun o _ => SetIn f.Slots.length o)
        (fun o js => some (.inl (x.set k (js.foldl (fun o j => unionN o (inN (codeAt f j) (outAt l j))) o), ((k + 1 : Nat) : Int))))
        (fun o _ => ⟨_, by simp [ref16_Step_b3, ref16_Step_j2, w]; rfl, by simp⟩) (fun o i j r ho hd hi hj => by
          left
          have wi := wrap_succ (show i < 9223372036854775807 by
            have : (nextN (codeAt f k) k).length ≤ 2 := by unfold nextN; (repeat' split) <;> simp
            omega)
          have hjm := hf.next k _ hx j (List.mem_of_getElem? hj)
          have hjc : f.Code[j.toNat]? = some (codeAt f j) := by simp [codeAt, show j.toNat < f.Code.length by omega]
          have hjl : j.toNat < l.length := by have := hl.1; omega
          have hjo : l[j.toNat]? = some (outAt l j) := by simp [outAt, hjl]
          have hos : SetIn f.Slots.length (outAt l j) := hl.2 _ (List.mem_of_getElem? hjo)
          have hsl := hf.slots
          obtain ⟨g1, g2⟩ := inN_set hf (List.mem_of_getElem? hjc) hos
          obtain ⟨g3, g4⟩ := unionN_set (n := f.Slots.length) (by omega) (b := inN (codeAt f j) (outAt l j)) ho fun x hx => ⟨(g1.1.2 x hx).1, g1.2 x hx⟩
          have e1 := in_eq (codeAt f j) (outAt l j) (by have := hos.1.length_le; omega)
          have e2 := union_eq o (inN (codeAt f j) (outAt l j)) (by have := ho.1.length_le; have := g1.1.length_le; omega)
          obtain ⟨_, hje⟩ := List.getElem?_eq_some_iff.1 hj
          refine ⟨unionN o (inN (codeAt f j) (outAt l j)), g3, ?_, by simp⟩
          simp [ref16_Step_b3, hi, hje, hxl, hlt, ixO_pos _ hjm.1, hjc, hjo, e1, e2, wi]) [] (SetIn.nil _)
      simp only [hset] at inner
      refine ⟨.inl (x.set k (stepRow f l k), ((k + 1 : Nat) : Int)), ?_, ⟨by simpa using hxl, k + 1, rfl, hlt, fun j r hj => ?_⟩, by simp only; omega⟩
      · simp only [ref16_Step_b1, decide_eq_true (Int.ofNat_lt.2 hlt), cond_true, rnext_eq hx (by omega), Option.bind_some]
        exact inner
      · simp only at hj
        by_cases e : k = j
        · subst e
          rw [List.getElem?_set_self (by omega)] at hj
          obtain rfl := Option.some.inj hj
          rw [if_pos (by omega)]
        · rw [List.getElem?_set_ne e] at hj
          rw [hall j r hj]
          by_cases e2 : j < k
          · rw [if_pos e2, if_pos (by omega)]
          · rw [if_neg e2, if_neg (by omega)]
    · refine ⟨.inr ⟨x⟩, by simp [ref16_Step_b1, hlt], ?_⟩
      show TLive.mk x = ⟨stepL f l⟩
      congr 1
      refine List.ext_getElem (by simp [stepL, hxl]) fun j h1 h2 => ?_
      have := hall j _ (List.getElem?_eq_getElem h1)
      rw [this, if_pos (by omega)]
      simp [stepL]
  obtain ⟨r, h1, rfl⟩ := key
  exact h1

/-- row by row, every element -/
def LE (a b : List (List Int)) : Prop := ∀ (k : Nat) s t, a[k]? = some s → b[k]? = some t → ∀ v ∈ s, v ∈ t
theorem LE.trans {a b c : List (List Int)} (h1 : LE a b) (h2 : LE b c) (hl : a.length = b.length) : LE a c := by
  intro k s t hs ht v hv
  have hk := (List.getElem?_eq_some_iff.1 hs).1
  have hb : b[k]? = some (b[k]'(by omega)) := List.getElem?_eq_getElem _
  exact h2 k _ t hb ht v (h1 k s _ hs hb v hv)
theorem sum_le : ∀ {a b : List (List Int)}, a.length = b.length → (∀ s ∈ a, IsSet s) → (∀ s ∈ b, IsSet s) → LE a b → (a.map List.length).sum ≤ (b.map List.length).sum ∧ ((a.map List.length).sum = (b.map List.length).sum → a = b)
  | [], [], _, _, _, _ => ⟨Nat.le_refl _, fun _ => rfl⟩
  | [], y :: b, h, _, _, _ => by simp at h
  | x :: a, [], h, _, _, _ => by simp at h
  | x :: a, y :: b, h, ha, hb, hle => by
    have hsub := (ha x (List.mem_cons_self ..)).sub (hb y (List.mem_cons_self ..)) (hle 0 x y rfl rfl)
    obtain ⟨h1, h2⟩ := sum_le (a := a) (b := b) (by simpa using h) (fun s hs => ha s (List.mem_cons_of_mem _ hs)) (fun s hs => hb s (List.mem_cons_of_mem _ hs)) fun k s t hs ht => hle (k + 1) s t (by simpa using hs) (by simpa using ht)
    have hlen := hsub.length_le
    simp only [List.map_cons, List.sum_cons]
    refine ⟨by omega, fun he => ?_⟩
    rw [h2 (by omega), hsub.eq_of_length (by omega)]
theorem sum_bound : ∀ {a : List (List Int)}, (∀ s ∈ a, IsSet s) → (a.map List.length).sum ≤ 512 * a.length
  | [], _ => by simp
  | x :: a, ha => by
    have h1 := (ha x (List.mem_cons_self ..)).length_le
    have h2 := sum_bound (a := a) fun s hs => ha s (List.mem_cons_of_mem _ hs)
    simp only [List.map_cons, List.sum_cons, List.length_cons]
    omega

theorem inN_mono {f : TFunc} (hf : FlowOk f) {x : TInstr} (hx : x ∈ f.Code) {s t : List Int} (hs : SetIn f.Slots.length s) (ht : SetIn f.Slots.length t) (h : ∀ v ∈ s, v ∈ t) : ∀ v ∈ inN x s, v ∈ inN x t := by
  intro v hv
  rw [(inN_set hf hx hs).2] at hv
  rw [(inN_set hf hx ht).2]
  rcases hv with ⟨h1, h2⟩ | h1
  · exact .inl ⟨h v h1, h2⟩
  · exact .inr h1
theorem step_mono {f : TFunc} (hf : FlowOk f) {a b : List (List Int)} (ha : LvOk f a) (hb : LvOk f b) (h : LE a b) : LE (stepL f a) (stepL f b) := by
  intro k s t hs ht v hv
  have hk : k < f.Code.length := by have := (List.getElem?_eq_some_iff.1 hs).1; simpa [stepL] using this
  have e1 : s = stepRow f a k := by simp [stepL, hk] at hs; exact hs.symm
  have e2 : t = stepRow f b k := by simp [stepL, hk] at ht; exact ht.symm
  subst e1 e2
  rw [(stepRow_set hf ha hk).2] at hv
  rw [(stepRow_set hf hb hk).2]
  obtain ⟨j, hj, hv⟩ := hv
  have hx : f.Code[k]? = some (codeAt f k) := by simp [codeAt, hk]
  have hjm := hf.next k _ hx j hj
  have hjc : f.Code[j.toNat]? = some (codeAt f j) := by simp [codeAt, show j.toNat < f.Code.length by omega]
  have hja : a[j.toNat]? = some (outAt a j) := by simp [outAt, show j.toNat < a.length by have := ha.1; omega]
  have hjb : b[j.toNat]? = some (outAt b j) := by simp [outAt, show j.toNat < b.length by have := hb.1; omega]
  exact ⟨j, hj, inN_mono hf (List.mem_of_getElem? hjc) (ha.2 _ (List.mem_of_getElem? hja)) (hb.2 _ (List.mem_of_getElem? hjb)) (h _ _ _ hja hjb) v hv⟩

/-- the least solution -/
structure LeastOk (f : TFunc) (l : List (List Int)) : Prop where
  ok : LvOk f l
  fix : stepL f l = l
  least : ∀ b, LvOk f b → LE (stepL f b) b → LE l b

theorem solve_hs {f : TFunc} (hf : FlowOk f) : Hs (ref16_Solve f) fun l => LeastOk f l.Out := by
  have hlen := hf.len'
  unfold ref16_Solve
  refine .chk (by omega) ?_
  refine Hs.loop (fun l => LvOk f l ∧ LE l (stepL f l) ∧ ∀ b, LvOk f b → LE (stepL f b) b → LE l b) (fun l => 512 * f.Code.length - (l.map List.length).sum) ⟨⟨by simp, fun s hs => ?_⟩, fun k s t hs ht v hv => ?_, fun b _ _ k s t hs ht v hv => ?_⟩ ?_
  · rw [List.mem_replicate] at hs; rw [hs.2]; exact SetIn.nil _
  · have := List.mem_of_getElem? hs; rw [List.mem_replicate] at this; rw [this.2] at hv; cases hv
  · have := List.mem_of_getElem? hs; rw [List.mem_replicate] at this; rw [this.2] at hv; cases hv
  · rintro l ⟨hl, hle, hleast⟩
    have hl' := stepL_ok hf hl
    have e1 := step_eq hf hl
    have e2 : ref16_Same ⟨stepL f l⟩ ⟨l⟩ = some (decide (stepL f l = l)) := by
      unfold ref16_Same
      rw [sameall_eq _ _ (by have := hl'.1; simp only; omega) (fun s hs => by have := (hl'.2 s hs).1.length_le; omega)]
      rfl
    obtain ⟨s1, s2⟩ := sum_le (by rw [hl.1, hl'.1]) (fun s hs => (hl.2 s hs).1) (fun s hs => (hl'.2 s hs).1) hle
    have s3 := sum_bound fun s hs => (hl'.2 s hs).1
    rw [hl'.1] at s3
    unfold ref16_Solve_b1
    rw [e1, Option.bind_some, e2, Option.bind_some]
    by_cases he : stepL f l = l
    · simp only [he, decide_true, cond_true]
      exact .lft (.pure ⟨hl, he, hleast⟩)
    · simp only [he, decide_false, cond_false]
      refine .cnt ⟨⟨hl', step_mono hf hl hl' hle, fun b hb hb' => (step_mono hf hl hb (hleast b hb hb')).trans hb' (by rw [hl'.1, (stepL_ok hf hb).1])⟩, ?_⟩
      have : (l.map List.length).sum ≠ ((stepL f l).map List.length).sum := fun e => he (s2 e).symm
      simp only
      omega
end Go.Proofs.Ytihomlbcppfngaa
