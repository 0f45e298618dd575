/-
  THE LAYER Dx, PART 5: from a law's spec to its row's step.
-/
import Derived.Test.YtlphpepmbcbmiaaDx4
namespace Go.Dw
open Go.ChangeShapes Go.WideShapes Go.ChangeAt Go.RowKit

section
variable {H : Type} {enc : TypeId × Value → H} {P : Program} {W W' : World}

theorem cell_old (hb : ∀ b, b < W.heap.size → W'.heap[b]? = W.heap[b]?) {a : Addr} (h : a.block < W.heap.size) : W'.cell? a = W.cell? a := by
  unfold World.cell?
  rw [hb _ h]
theorem frozen_old (hb : ∀ b, b < W.heap.size → W'.heap[b]? = W.heap[b]?) {a : Addr} (h : a.block < W.heap.size) : W'.frozen? a = W.frozen? a := by
  unfold World.frozen?
  rw [hb _ h]
theorem same_old (hb : ∀ b, b < W.heap.size → W'.heap[b]? = W.heap[b]?) {p : MemPlace} (h : p.block < W.heap.size) : W.sameAt W' p := by
  cases p with
  | cell b off => exact cell_old hb h
  | map b => exact hb b h

theorem trodAll_still {sp : Nat → Bool} (K : Kids P (· < P.types.size)) (hz : ∀ t e, t < P.types.size → P.underlying t = some (.slice e) → 0 < P.cellsOf e) : ∀ {ts : List TypeId} {vs : List Value} {ds : List (DataW H)} {ps : List MemPlace}, (∀ t ∈ ts, t < P.types.size) →
    DataW.TrodAll enc P W 0 (fun _ => true) true ts vs ds ps → (∀ p ∈ ps, W.sameAt W' p) → (∀ p ∈ ps, sp p.block = true) → DataW.TrodAll enc P W' 0 sp true ts vs ds ps
  | [], [], [], _, _, h, _, _ => h
  | _ :: _, _ :: _, _ :: _, _, hT, ⟨p, q, ⟨n, h1⟩, h2, e⟩, hs, hsp => by
    subst e
    exact ⟨p, q, ⟨n, DataW.trod_respare K hz n _ _ _ (hT _ (List.mem_cons.2 (Or.inl rfl))) (DataW.trod_carry n _ _ _ h1 (fun x hx => hs x (List.mem_append_left _ hx))) (fun x hx => hsp x (List.mem_append_left _ hx))⟩,
      trodAll_still K hz (fun t ht => hT t (List.mem_cons.2 (Or.inr ht))) h2 (fun x hx => hs x (List.mem_append_right _ hx)) (fun x hx => hsp x (List.mem_append_right _ hx)), rfl⟩
  | [], [], _ :: _, _, _, h, _, _ => h.elim
  | [], _ :: _, _, _, _, h, _, _ => h.elim
  | _ :: _, [], _, _, _, h, _, _ => h.elim
  | _ :: _, _ :: _, [], _, _, h, _, _ => h.elim

theorem post_of_still {f : Func} {s : ChangeSpec} {apart fresh handsOn again : Bool} {args : Array Value} {v : Value} {ds gs : List (DataW H)} {before : List MemPlace}
    (hW : DataW.Whole enc P f.params.toList s.vars apart W args.toList ds gs before) (hvs : s.vars = []) (K : Kids P (· < P.types.size)) (hz : ∀ t e, t < P.types.size → P.underlying t = some (.slice e) → 0 < P.cellsOf e) (hts : ∀ t ∈ f.params.toList, t < P.types.size)
    (hres : ∀ (b : Nat) (sp : Nat → Bool) (hd : Bool), DataW.TrodAll enc P W' b sp hd f.resultTypes.toList (v.resultList f.resultTypes.size) (s.fn H (ds ++ gs)).results [])
    (hargs : (s.fn H (ds ++ gs)).args = ds) (hvars : (s.fn H (ds ++ gs)).vars = []) (hos : W'.os = W.os) (hout : W'.output = W.output) (hb : ∀ b, b < W.heap.size → W'.heap[b]? = W.heap[b]?)
    (hok : ∀ (j : Nat) (t : TypeId) (r : Value), f.resultTypes[j]? = some t → (v.resultList f.resultTypes.size)[j]? = some r → Value.okWide P W' .any 0 t r) :
    s.post enc P f apart fresh handsOn again W args v W' := by
  have hW' := hW
  obtain ⟨p, q, hA, hV, e, hzz, hn⟩ := hW
  rw [hvs] at hV
  obtain ⟨rfl, rfl⟩ := trodVars_none hV
  subst e
  simp only [List.append_nil] at hW' hn hzz
  have hlt : ∀ x ∈ p, x.block < W.heap.size := hW'.lt
  have hargs' : ∀ sp : Nat → Bool, (∀ x ∈ p, sp x.block = true) → DataW.TrodAll enc P W' 0 sp true f.params.toList args.toList (s.fn H (ds ++ [])).args p := by
    intro sp hsp
    rw [hargs]
    exact trodAll_still K hz hts hA (fun x hx => same_old hb (hlt x hx)) hsp
  have hvars' : ∀ sp : Nat → Bool, DataW.TrodVars enc P W' sp s.vars (s.fn H (ds ++ [])).vars [] := by
    intro sp
    rw [hvs, hvars]
    exact (rfl : ([] : List MemPlace) = [])
  have hold : ∀ x ∈ p, (fun b => decide (b < W.heap.size)) x.block = true := fun x hx => by simpa using hlt x hx
  refine ⟨ds, [], p, [], p, [], hW', hres _ _ _, hargs' _ hold, hvars' _, ⟨hos, hout, fun i hi => ?_⟩, fun _ => ?_⟩
  · rw [hb i hi]
    cases W.heap[i]? with
    | none => rfl
    | some o => cases o <;> first | exact ⟨rfl, rfl, rfl, fun _ _ => rfl⟩ | exact .inr ⟨rfl, rfl⟩ | rfl
  · refine ⟨hok, _, _, ([] ++ p) ++ [], ⟨[] ++ p, [], trodAll_append (hargs' _ (fun _ _ => rfl)) (hres _ _ _), hvars' _, rfl, ?_, ?_⟩, ?_⟩
    · intro b off hp
      have hp' : MemPlace.cell b off ∈ p := by simpa using hp
      rw [frozen_old hb (hlt _ hp')]
      exact hzz b off hp'
    · intro ha
      have := hn ha
      simpa using this
    · intro x hp _
      simpa using hp

/-- A LAW: its typed program answers true at whatever the arguments read as. -/
theorem law_contract {k : Nat} {fn : Func} {A : Type} {enc0 : A → List D} {dec0 : List D → A} {f : A → Option Bool} {encR : Bool → D} {encE : Bool → List D} (hspec : SpecOk P k (fSpec [] .ground enc0 dec0 f encR encE)) (hde : ∀ a, dec0 (enc0 a) = a) (hR : encR true = .bool true)
    {s : ChangeSpec} {apart fresh handsOn again : Bool} {args : Array Value} {ds gs : List (DataW H)} {before : List MemPlace} (hW : DataW.Whole enc P fn.params.toList s.vars apart W args.toList ds gs before) (hvs : s.vars = [])
    (hl : laidOutB P = true) (hm : mapsRowed P = true) (hz : ((List.range P.types.size).all fun t => match P.underlying t with | some (.slice e) => decide (0 < P.cellsOf e) | _ => true) = true) (hts : fn.params.toList.all (fun t => decide (t < P.types.size)) = true)
    {tb : TypeId} (hrt : fn.resultTypes = #[tb]) (htb : P.underlying tb = some .bool) (hfn : ∀ ds : List (DataW H), ds.length = fn.params.size → s.fn H ds = { results := [.lit (.bool true)], args := ds, vars := [] }) (hlen : ds.length = fn.params.size)
    (hread : ∃ a, ArgsOk (memF W) W [] 0 (enc0 a) args.toList [] ∧ f a = some true) :
    Calls P k args W fun e W' => ∃ v, e = .returned v ∧ s.post enc P fn apart fresh handsOn again W args v W' := by
  obtain ⟨a, hA, hfa⟩ := hread
  have hgs : gs = [] := by
    obtain ⟨p, q, _, hV, _⟩ := hW
    rw [hvs] at hV
    exact (trodVars_none hV).1
  subst hgs
  have hF : Fok (memF W) W := fun b i x h => h
  have hfin : ∀ b i x, memF W b i = some x → b < W.heap.size := by
    intro b i x h
    simp only [memF, World.cell?] at h
    split at h
    · rename_i hb
      exact (Array.getElem?_eq_some_iff.1 hb).1
    · cases h
  have h := hspec.2.2 rfl W (memF W) (enc0 a) args.toList [] hF hfin hA ⟨a, true, rfl, hfa⟩
  have e0 : args.toList.toArray = args := by simp
  rw [e0] at h
  refine h.mono fun e W' hq => ?_
  obtain ⟨v, F', _, _, rfl, _, _, hst, hres, _⟩ := hq
  have hv : v = .bool true := by
    have h1 : Fro F' ((fSpec [] .ground enc0 dec0 f encR encE).res (enc0 a)) v := hres
    rw [fSpec_res hde hfa, hR] at h1
    cases h1
    rfl
  subst hv
  refine ⟨_, rfl, post_of_still hW hvs (kids_rows hl hm) (slices_full_of P hz) (fun t ht => by simpa using List.all_eq_true.1 hts t ht) ?_ ?_ ?_ hst.os hst.output (fun b hb => hst.block b hb (fun ⟨_, hm, _⟩ => by cases hm)) ?_⟩
  · intro b sp hd
    rw [List.append_nil, hfn ds hlen, hrt]
    exact trodAll_cons_mk (p := []) (p' := []) (shut_bool htb true) trodAll_mk0
  · rw [List.append_nil, hfn ds hlen]
  · rw [List.append_nil, hfn ds hlen]
  · exact ok_one hrt rfl (okWide_bool_mk htb true)
end
end Go.Dw
