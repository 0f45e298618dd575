/-
  THE LAYER Dw, library functions that write a slice of ints in place: from the shelf's words to 'InplOk'. No program is named here.
-/
import Derived.Test.YtlphpepmbcbmiaaDw24
import Derived.Sort.Row
import Derived.Sort.Grow
import Derived.Lib.SlicesCompact
namespace Go.Dw
open Go.Sort

theorem inpl_of_row {P : Program} {f : Nat} {r : Bool} {fl : List Int → List Int} {fk : List Int → Nat} (h0 : ∀ zs, (fl zs).length = zs.length ∧ fk zs ≤ zs.length)
    (he : ∀ (w : World) (a : Option Addr) (cap : Nat), Calls P f #[.slice a 0 cap] w fun e w' => e = .returned (if r then .slice a 0 cap else .tuple #[]) ∧ w' = w)
    (hcon : ∀ (blk off cap : Nat) (zs : List Int) (w : World), Holds (Value.int .i64) w blk off zs.toArray → blk < w.heap.size → zs.length < 4611686018427387904 → zs.length ≤ cap →
      Calls P f #[.slice (some ⟨blk, off, none⟩) zs.length cap] w fun e w' => e = .returned (if r then .slice (some ⟨blk, off, none⟩) (fk zs) cap else .tuple #[]) ∧
        ∃ n os, w' = grow (putRow (Value.int .i64) (Sort.ahead w n) blk off (fl zs).toArray) os) : InplOk P f (r, fl, fk) := by
  refine ⟨h0, he, fun w b off cap ty C zs hpos hbig hcap hC hcell => ?_⟩
  have hb : b < w.heap.size := (Array.getElem?_eq_some_iff.1 hC).1
  have hH : Holds (Value.int .i64) w b off zs.toArray := by
    intro j hj
    have hj : j < zs.length := by simpa using hj
    have hz : zs[j]? = some zs[j] := List.getElem?_eq_getElem hj
    have hc := hcell j _ hz
    refine ⟨?_, ?_⟩
    · simp [World.cell?, hC, hc, hj]
    · simp [World.frozen?, hC]
  refine (hcon b off cap zs w hH hb hbig hcap).mono ?_
  rintro e w' ⟨rfl, n, os, rfl⟩
  have hheap : ∀ k, k < w.heap.size → (grow (putRow (Value.int .i64) (Sort.ahead w n) b off (fl zs).toArray) os).heap[k]? = if b = k then (w.heap[k]?).map (onCells (putCells (Value.int .i64) off (fl zs).toArray)) else w.heap[k]? := by
    intro k hk
    simp only [grow, putRow, mapBlock, Sort.ahead]
    rw [Array.getElem?_append_left (by simpa using hk), Array.getElem?_modify]
  refine ⟨rfl, rfl, rfl, rfl, ?_, fun b' hb' hne => ?_, putCells (Value.int .i64) off (fl zs).toArray C, ?_, ?_, ?_, ?_⟩
  · simp [grow, putRow, mapBlock, Sort.ahead]
  · rw [hheap b' hb', if_neg (fun e => hne e.symm)]
  · rw [hheap b hb, if_pos rfl, hC]; rfl
  · simp [putCells]
  · intro k hk
    have hl := (h0 zs).1
    simp only [putCells, Array.getElem?_mapIdx]
    cases hx : C[k]? with
    | none => rfl
    | some x =>
      simp only [Option.map_some]
      rw [if_neg]
      simp only [List.size_toArray, hl]
      omega
  · intro j x hx
    have hl := (h0 zs).1
    obtain ⟨hj, hjx⟩ := List.getElem?_eq_some_iff.1 (show (fl zs)[j]? = some x from hx)
    have hz : zs[j]? = some (zs[j]'(by omega)) := List.getElem?_eq_getElem _
    have hc := hcell j _ hz
    simp only [putCells, Array.getElem?_mapIdx, hc, Option.map_some]
    rw [if_pos (by simp; omega)]
    have : off + j - off = j := by omega
    rw [this]
    simp [hj, hjx]

/-- the spec of such a function -/
def inSpec (r : Bool) (fl : List Int → List Int) (fk : List Int → Nat) : Spec := ⟨[], .inpl r fl fk, fun _ => False, fun _ => .top, fun _ => []⟩

theorem compact_length (zs : List Int) : (Lib.compact zs).length ≤ zs.length := by
  unfold Lib.compact Lib.compactUpTo
  rw [List.length_map]
  exact Nat.le_trans (List.length_filter_le _ _) (by simp)
/-- what slices.Compact leaves in the cells -/
def compactIn (zs : List Int) : List Int := Lib.compact zs ++ List.replicate (zs.length - (Lib.compact zs).length) 0
theorem compactIn_take (zs : List Int) : (compactIn zs).take (Lib.compact zs).length = Lib.compact zs := by simp [compactIn]
def sortI (zs : List Int) : List Int := zs.mergeSort fun x y => decide (x ≤ y)
@[simp] theorem sortI_length (zs : List Int) : (sortI zs).length = zs.length := List.length_mergeSort zs
theorem compactIn_length (zs : List Int) : (compactIn zs).length = zs.length := by
  have := compact_length zs
  simp [compactIn]; omega
end Go.Dw
