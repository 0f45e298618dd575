/-
  The library functions that write a slice in place: what they do, at this program.
-/
import Derived.Shelf.Slices.CompactI
import Derived.Shelf.Slices.In.SortNone
import Derived.Shelf.Sort.Plain
import Derived.KernelRfl
import Derived.Test.YtjjmcedpoolghaaDoorProg
import Derived.Test.YtjjmcedpoolghaaDoorDc
namespace Go.Proofs
open Go.Shelf
def Tryd.YI : Go.Shelf.Ren := ⟨fun | 189 => 36 | 125 => 52 | 257 => 51 | 128 => 66 | 129 => 67 | 294 => 57 | 295 => 58 | 296 => 59 | 297 => 60 | 298 => 61 | 299 => 62 | 216 => 63 | 300 => 64 | 301 => 65 | 328 => 69 | 329 => 70 | 330 => 71 | 331 => 72 | 332 => 73 | 215 => 74 | 343 => 75 | n => n, fun | 28 => 36 | 3 => 3 | 46 => 89 | 0 => 0 | 51 => 103 | 53 => 41 | 4 => 4 | 183 => 96 | 182 => 95 | 131 => 62 | 5 => 5 | 9 => 9 | 218 => 105 | 222 => 108 | 228 => 110 | 229 => 111 | n => n, fun | n => n⟩
theorem Tryd.YN : Go.Proofs.Lays.n189 Tryd.prog Tryd.YI := {
  mixed := by kernel_rfl
  f125 := Tryd.func52.trans (congrArg some (by kernel_rfl))
  f128 := Tryd.func66.trans (congrArg some (by kernel_rfl))
  f129 := Tryd.func67.trans (congrArg some (by kernel_rfl))
  f189 := Tryd.func36.trans (congrArg some (by kernel_rfl))
  f215 := Tryd.func74.trans (congrArg some (by kernel_rfl))
  f216 := Tryd.func63.trans (congrArg some (by kernel_rfl))
  f257 := Tryd.func51.trans (congrArg some (by kernel_rfl))
  f294 := Tryd.func57.trans (congrArg some (by kernel_rfl))
  f295 := Tryd.func58.trans (congrArg some (by kernel_rfl))
  f296 := Tryd.func59.trans (congrArg some (by kernel_rfl))
  f297 := Tryd.func60.trans (congrArg some (by kernel_rfl))
  f298 := Tryd.func61.trans (congrArg some (by kernel_rfl))
  f299 := Tryd.func62.trans (congrArg some (by kernel_rfl))
  f300 := Tryd.func64.trans (congrArg some (by kernel_rfl))
  f301 := Tryd.func65.trans (congrArg some (by kernel_rfl))
  f328 := Tryd.func69.trans (congrArg some (by kernel_rfl))
  f329 := Tryd.func70.trans (congrArg some (by kernel_rfl))
  f330 := Tryd.func71.trans (congrArg some (by kernel_rfl))
  f331 := Tryd.func72.trans (congrArg some (by kernel_rfl))
  f332 := Tryd.func73.trans (congrArg some (by kernel_rfl))
  f343 := Tryd.func75.trans (congrArg some (by kernel_rfl))
  t0 := Tryd.underlying0
  a0 := Tryd.isAgg0
  z0 := Tryd.sizeOf0
  v0 := Tryd.zeroValue0
  t3 := Tryd.underlying3
  a3 := Tryd.isAgg3
  z3 := Tryd.sizeOf3
  v3 := Tryd.zeroValue3
  t4 := Tryd.underlying4
  a4 := Tryd.isAgg4
  z4 := Tryd.sizeOf4
  v4 := Tryd.zeroValue4
  t5 := Tryd.underlying5
  a5 := Tryd.isAgg5
  z5 := Tryd.sizeOf5
  v5 := Tryd.zeroValue5
  t9 := Tryd.underlying9
  a9 := Tryd.isAgg9
  z9 := Tryd.sizeOf9
  v9 := Tryd.zeroValue9
  t28 := Tryd.underlying36
  a28 := Tryd.isAgg36
  z28 := Tryd.sizeOf36
  v28 := Tryd.zeroValue36
  t46 := Tryd.underlying89
  a46 := Tryd.isAgg89
  z46 := Tryd.sizeOf89
  v46 := Tryd.zeroValue89
  t51 := Tryd.underlying103
  a51 := Tryd.isAgg103
  z51 := Tryd.sizeOf103
  v51 := Tryd.zeroValue103
  t53 := Tryd.underlying41
  a53 := Tryd.isAgg41
  z53 := Tryd.sizeOf41
  v53 := Tryd.zeroValue41
  t131 := Tryd.underlying62
  a131 := Tryd.isAgg62
  z131 := Tryd.sizeOf62
  v131 := Tryd.zeroValue62
  t182 := Tryd.underlying95
  a182 := Tryd.isAgg95
  z182 := Tryd.sizeOf95
  v182 := Tryd.zeroValue95
  t183 := Tryd.underlying96
  a183 := Tryd.isAgg96
  z183 := Tryd.sizeOf96
  v183 := Tryd.zeroValue96
  t218 := Tryd.underlying105
  a218 := Tryd.isAgg105
  z218 := Tryd.sizeOf105
  v218 := Tryd.zeroValue105
  t222 := Tryd.underlying108
  a222 := Tryd.isAgg108
  z222 := Tryd.sizeOf108
  v222 := Tryd.zeroValue108
  t228 := Tryd.underlying110
  a228 := Tryd.isAgg110
  z228 := Tryd.sizeOf110
  v228 := Tryd.zeroValue110
  t229 := Tryd.underlying111
  a229 := Tryd.isAgg111
  z229 := Tryd.sizeOf111
  v229 := Tryd.zeroValue111 }
open Go.Sort Go.RowKit in
theorem Tryd.slices_Sort_int (blk off cap : Nat) (zs : List Int) (w : World) (hH : Holds (Value.int .i64) w blk off zs.toArray) (hblk : blk < w.heap.size) (hsz : zs.length < 4611686018427387904) :
    Calls Tryd.prog 36 #[.slice (some ⟨blk, off, none⟩) zs.length cap] w fun e w' =>
      e = .returned (.tuple #[]) ∧ ∃ n os, w' = grow (putRow (Value.int .i64) (Sort.ahead w n) blk off (zs.mergeSort fun x y => decide (x ≤ y)).toArray) os := Any.slices_Sort_int Tryd.YN blk off cap zs w hH hblk hsz
open Go.RowKit Go.Sort in
theorem Tryd.slices_Sort_int_none (p : Option Addr) (cap : Nat) (w : World) :
    Calls Tryd.prog 36 #[.slice p 0 cap] w fun e w' => e = .returned (.tuple #[]) ∧ w' = w := Any.slices_Sort_int_none Tryd.YN p cap w
def Tryd.XQ : Go.Shelf.Ren := ⟨fun | 20 => 37 | n => n, fun | 22 => 36 | 3 => 3 | 4 => 4 | 0 => 0 | n => n, fun | n => n⟩
theorem Tryd.XJ : Go.Proofs.Lays2.n20 Tryd.prog Tryd.XQ := {
  mixed := by kernel_rfl
  f20 := Tryd.func37.trans (congrArg some (by kernel_rfl))
  t0 := Tryd.underlying0
  a0 := Tryd.isAgg0
  z0 := Tryd.sizeOf0
  v0 := Tryd.zeroValue0
  t3 := Tryd.underlying3
  a3 := Tryd.isAgg3
  z3 := Tryd.sizeOf3
  v3 := Tryd.zeroValue3
  t4 := Tryd.underlying4
  a4 := Tryd.isAgg4
  z4 := Tryd.sizeOf4
  v4 := Tryd.zeroValue4
  t22 := Tryd.underlying36
  a22 := Tryd.isAgg36
  z22 := Tryd.sizeOf36
  v22 := Tryd.zeroValue36
  i3 := by kernel_rfl }
open Go.RowKit Go.Lib Go.Sort in
theorem Tryd.slices_Compact_int (blk off cap : Nat) (zs : List Int) (w : World) (hH : Holds (Value.int .i64) w blk off zs.toArray) (hsz : zs.length ≤ 9223372036854775807) (hcap : zs.length ≤ cap) :
    Calls Tryd.prog 37 #[.slice (some ⟨blk, off, none⟩) zs.length cap] w fun e w' => e = .returned (.slice (some ⟨blk, off, none⟩) (Lib.compact zs).length cap) ∧ ∃ q, w' = putRow (Value.int .i64) (Sort.ahead w q) blk off (Lib.compact zs ++ List.replicate (zs.length - (Lib.compact zs).length) 0).toArray := Any.slices_Compact_int Tryd.XJ blk off cap zs w hH hsz hcap
open Go.RowKit Go.Lib Go.Sort in
theorem Tryd.slices_Compact_int_empty (a : Option Addr) (cap : Nat) (w : World) :
    Calls Tryd.prog 37 #[.slice a 0 cap] w fun e w' => e = .returned (.slice a 0 cap) ∧ w' = w := Any.slices_Compact_int_empty Tryd.XJ a cap w
def Tryd.Yo : Go.Shelf.Ren := ⟨fun | 29 => 54 | n => n, fun | 0 => 0 | 3 => 3 | 4 => 4 | 5 => 5 | 22 => 41 | 25 => 89 | 54 => 104 | n => n, fun | 1 => 0 | n => n⟩
theorem Tryd.AaJ : Go.Proofs.Lays7.n29 Tryd.prog Tryd.Yo := {
  mixed := by kernel_rfl
  f29 := Tryd.func54.trans (congrArg some (by kernel_rfl))
  t0 := Tryd.underlying0
  a0 := Tryd.isAgg0
  z0 := Tryd.sizeOf0
  v0 := Tryd.zeroValue0
  i0 := by kernel_rfl
  t3 := Tryd.underlying3
  a3 := Tryd.isAgg3
  z3 := Tryd.sizeOf3
  v3 := Tryd.zeroValue3
  i3 := by kernel_rfl
  t4 := Tryd.underlying4
  a4 := Tryd.isAgg4
  z4 := Tryd.sizeOf4
  v4 := Tryd.zeroValue4
  i4 := by kernel_rfl
  t5 := Tryd.underlying5
  a5 := Tryd.isAgg5
  z5 := Tryd.sizeOf5
  v5 := Tryd.zeroValue5
  i5 := by kernel_rfl
  t22 := Tryd.underlying41
  a22 := Tryd.isAgg41
  z22 := Tryd.sizeOf41
  v22 := Tryd.zeroValue41
  i22 := by kernel_rfl
  t25 := Tryd.underlying89
  a25 := Tryd.isAgg89
  z25 := Tryd.sizeOf89
  v25 := Tryd.zeroValue89
  i25 := by kernel_rfl
  t54 := Tryd.underlying104
  a54 := Tryd.isAgg104
  z54 := Tryd.sizeOf104
  g1 := by kernel_rfl }

end Go.Proofs
namespace Go.Proofs.YtjjmcedpoolghaaDoor
open Go Go.Dw Go.Proofs Go.Sort
def Ox : Dw.Spec := Zp false (LL) (fun _ => 0)
theorem UA : KF Tryd.prog 36 Ox := fun _ _ =>
  ⟨⟨Tryd.f36, Tryd.func36, by decide, rfl⟩, fun q hq => by
    cases hq
    exact WS (fun zs => ⟨Yr zs, Nat.zero_le _⟩) (fun w a cap => Tryd.slices_Sort_int_none a cap w) (fun blk off cap zs w hH hb hs hc => Tryd.slices_Sort_int blk off cap zs w hH hb hs), (fun h => by cases h), (fun φ hφ => by cases hφ)⟩
def Nr : Dw.Spec := Zp true (QY) (fun zs => (Lib.compact zs).length)
theorem Tt : KF Tryd.prog 37 Nr := fun _ _ =>
  ⟨⟨Tryd.f37, Tryd.func37, by decide, rfl⟩, fun q hq => by
    cases hq
    exact WS (fun zs => ⟨Xc zs, UG zs⟩) (fun w a cap => Tryd.slices_Compact_int_empty a cap w) (fun blk off cap zs w hH hb hs hc => (Tryd.slices_Compact_int blk off cap zs w hH (by omega) hc).mono (by rintro e w1 ⟨rfl, n, rfl⟩; exact ⟨rfl, n, #[], by simp [QY]⟩)), (fun h => by cases h), (fun φ hφ => by cases hφ)⟩
theorem Abt : KF Tryd.prog 54 Xv := Zz (g := 0) ⟨Tryd.f54, Tryd.func54, by decide, rfl⟩ (by kernel_rfl) fun x w hx hT => Any7.bits_TrailingZeros64 Tryd.AaJ x hx w hT
end Go.Proofs.YtjjmcedpoolghaaDoor
