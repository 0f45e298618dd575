/-
  The library functions that write a slice in place: what they do, at this program.
-/
import Derived.Shelf.Slices.CompactI
import Derived.Shelf.Slices.In.SortNone
import Derived.Shelf.Sort.Plain
import Derived.KernelRfl
import Derived.Test.YtfpgidpffhmadaaDoorProg
import Derived.Test.YtfpgidpffhmadaaDoorDc
namespace Go.Proofs
open Go.Shelf
def Tryd.Aes : Go.Shelf.Ren := ⟨fun | 189 => 92 | 125 => 100 | 257 => 99 | 128 => 109 | 129 => 110 | 294 => 101 | 295 => 102 | 296 => 103 | 297 => 104 | 298 => 105 | 299 => 106 | 216 => 60 | 300 => 107 | 301 => 108 | 328 => 111 | 329 => 112 | 330 => 113 | 331 => 114 | 332 => 115 | 215 => 79 | 343 => 116 | n => n, fun | 28 => 42 | 3 => 3 | 46 => 100 | 0 => 0 | 51 => 134 | 53 => 55 | 4 => 4 | 183 => 128 | 182 => 127 | 131 => 75 | 5 => 5 | 9 => 9 | 218 => 135 | 222 => 138 | 228 => 140 | 229 => 141 | n => n, fun | n => n⟩
theorem Tryd.Aeu : Go.Proofs.Lays.n189 Tryd.prog Tryd.Aes := {
  mixed := by kernel_rfl
  f125 := Tryd.func100.trans (congrArg some (by kernel_rfl))
  f128 := Tryd.func109.trans (congrArg some (by kernel_rfl))
  f129 := Tryd.func110.trans (congrArg some (by kernel_rfl))
  f189 := Tryd.func92.trans (congrArg some (by kernel_rfl))
  f215 := Tryd.func79.trans (congrArg some (by kernel_rfl))
  f216 := Tryd.func60.trans (congrArg some (by kernel_rfl))
  f257 := Tryd.func99.trans (congrArg some (by kernel_rfl))
  f294 := Tryd.func101.trans (congrArg some (by kernel_rfl))
  f295 := Tryd.func102.trans (congrArg some (by kernel_rfl))
  f296 := Tryd.func103.trans (congrArg some (by kernel_rfl))
  f297 := Tryd.func104.trans (congrArg some (by kernel_rfl))
  f298 := Tryd.func105.trans (congrArg some (by kernel_rfl))
  f299 := Tryd.func106.trans (congrArg some (by kernel_rfl))
  f300 := Tryd.func107.trans (congrArg some (by kernel_rfl))
  f301 := Tryd.func108.trans (congrArg some (by kernel_rfl))
  f328 := Tryd.func111.trans (congrArg some (by kernel_rfl))
  f329 := Tryd.func112.trans (congrArg some (by kernel_rfl))
  f330 := Tryd.func113.trans (congrArg some (by kernel_rfl))
  f331 := Tryd.func114.trans (congrArg some (by kernel_rfl))
  f332 := Tryd.func115.trans (congrArg some (by kernel_rfl))
  f343 := Tryd.func116.trans (congrArg some (by kernel_rfl))
  t0 := Tryd.underlying0
  a0 := Tryd.isAgg0
  z0 := Tryd.sizeOf0
  v0 := Tryd.zeroValue0
  t3 := Tryd.underlying3
  a3 := Tryd.isAgg3
  z3 := Tryd.sizeOf3
  v3 := Tryd.zeroValue3
  t4 := Tryd.underlying4
  a4 := Tryd.isAgg4
  z4 := Tryd.sizeOf4
  v4 := Tryd.zeroValue4
  t5 := Tryd.underlying5
  a5 := Tryd.isAgg5
  z5 := Tryd.sizeOf5
  v5 := Tryd.zeroValue5
  t9 := Tryd.underlying9
  a9 := Tryd.isAgg9
  z9 := Tryd.sizeOf9
  v9 := Tryd.zeroValue9
  t28 := Tryd.underlying42
  a28 := Tryd.isAgg42
  z28 := Tryd.sizeOf42
  v28 := Tryd.zeroValue42
  t46 := Tryd.underlying100
  a46 := Tryd.isAgg100
  z46 := Tryd.sizeOf100
  v46 := Tryd.zeroValue100
  t51 := Tryd.underlying134
  a51 := Tryd.isAgg134
  z51 := Tryd.sizeOf134
  v51 := Tryd.zeroValue134
  t53 := Tryd.underlying55
  a53 := Tryd.isAgg55
  z53 := Tryd.sizeOf55
  v53 := Tryd.zeroValue55
  t131 := Tryd.underlying75
  a131 := Tryd.isAgg75
  z131 := Tryd.sizeOf75
  v131 := Tryd.zeroValue75
  t182 := Tryd.underlying127
  a182 := Tryd.isAgg127
  z182 := Tryd.sizeOf127
  v182 := Tryd.zeroValue127
  t183 := Tryd.underlying128
  a183 := Tryd.isAgg128
  z183 := Tryd.sizeOf128
  v183 := Tryd.zeroValue128
  t218 := Tryd.underlying135
  a218 := Tryd.isAgg135
  z218 := Tryd.sizeOf135
  v218 := Tryd.zeroValue135
  t222 := Tryd.underlying138
  a222 := Tryd.isAgg138
  z222 := Tryd.sizeOf138
  v222 := Tryd.zeroValue138
  t228 := Tryd.underlying140
  a228 := Tryd.isAgg140
  z228 := Tryd.sizeOf140
  v228 := Tryd.zeroValue140
  t229 := Tryd.underlying141
  a229 := Tryd.isAgg141
  z229 := Tryd.sizeOf141
  v229 := Tryd.zeroValue141 }
open Go.Sort Go.RowKit in
theorem Tryd.slices_Sort_int (blk off cap : Nat) (zs : List Int) (w : World) (hH : Holds (Value.int .i64) w blk off zs.toArray) (hblk : blk < w.heap.size) (hsz : zs.length < 4611686018427387904) :
    Calls Tryd.prog 92 #[.slice (some ⟨blk, off, none⟩) zs.length cap] w fun e w' =>
      e = .returned (.tuple #[]) ∧ ∃ n os, w' = grow (putRow (Value.int .i64) (Sort.ahead w n) blk off (zs.mergeSort fun x y => decide (x ≤ y)).toArray) os := Any.slices_Sort_int Tryd.Aeu blk off cap zs w hH hblk hsz
open Go.RowKit Go.Sort in
theorem Tryd.slices_Sort_int_none (p : Option Addr) (cap : Nat) (w : World) :
    Calls Tryd.prog 92 #[.slice p 0 cap] w fun e w' => e = .returned (.tuple #[]) ∧ w' = w := Any.slices_Sort_int_none Tryd.Aeu p cap w
def Tryd.Ado : Go.Shelf.Ren := ⟨fun | 20 => 93 | n => n, fun | 22 => 42 | 3 => 3 | 4 => 4 | 0 => 0 | n => n, fun | n => n⟩
theorem Tryd.Adj : Go.Proofs.Lays2.n20 Tryd.prog Tryd.Ado := {
  mixed := by kernel_rfl
  f20 := Tryd.func93.trans (congrArg some (by kernel_rfl))
  t0 := Tryd.underlying0
  a0 := Tryd.isAgg0
  z0 := Tryd.sizeOf0
  v0 := Tryd.zeroValue0
  t3 := Tryd.underlying3
  a3 := Tryd.isAgg3
  z3 := Tryd.sizeOf3
  v3 := Tryd.zeroValue3
  t4 := Tryd.underlying4
  a4 := Tryd.isAgg4
  z4 := Tryd.sizeOf4
  v4 := Tryd.zeroValue4
  t22 := Tryd.underlying42
  a22 := Tryd.isAgg42
  z22 := Tryd.sizeOf42
  v22 := Tryd.zeroValue42
  i3 := by kernel_rfl }
open Go.RowKit Go.Lib Go.Sort in
theorem Tryd.slices_Compact_int (blk off cap : Nat) (zs : List Int) (w : World) (hH : Holds (Value.int .i64) w blk off zs.toArray) (hsz : zs.length ≤ 9223372036854775807) (hcap : zs.length ≤ cap) :
    Calls Tryd.prog 93 #[.slice (some ⟨blk, off, none⟩) zs.length cap] w fun e w' => e = .returned (.slice (some ⟨blk, off, none⟩) (Lib.compact zs).length cap) ∧ ∃ q, w' = putRow (Value.int .i64) (Sort.ahead w q) blk off (Lib.compact zs ++ List.replicate (zs.length - (Lib.compact zs).length) 0).toArray := Any.slices_Compact_int Tryd.Adj blk off cap zs w hH hsz hcap
open Go.RowKit Go.Lib Go.Sort in
theorem Tryd.slices_Compact_int_empty (a : Option Addr) (cap : Nat) (w : World) :
    Calls Tryd.prog 93 #[.slice a 0 cap] w fun e w' => e = .returned (.slice a 0 cap) ∧ w' = w := Any.slices_Compact_int_empty Tryd.Adj a cap w
def Tryd.AdY : Go.Shelf.Ren := ⟨fun | 29 => 98 | n => n, fun | 0 => 0 | 3 => 3 | 4 => 4 | 5 => 5 | 22 => 55 | 25 => 100 | 54 => 125 | n => n, fun | 1 => 0 | n => n⟩
theorem Tryd.AgG : Go.Proofs.Lays7.n29 Tryd.prog Tryd.AdY := {
  mixed := by kernel_rfl
  f29 := Tryd.func98.trans (congrArg some (by kernel_rfl))
  t0 := Tryd.underlying0
  a0 := Tryd.isAgg0
  z0 := Tryd.sizeOf0
  v0 := Tryd.zeroValue0
  i0 := by kernel_rfl
  t3 := Tryd.underlying3
  a3 := Tryd.isAgg3
  z3 := Tryd.sizeOf3
  v3 := Tryd.zeroValue3
  i3 := by kernel_rfl
  t4 := Tryd.underlying4
  a4 := Tryd.isAgg4
  z4 := Tryd.sizeOf4
  v4 := Tryd.zeroValue4
  i4 := by kernel_rfl
  t5 := Tryd.underlying5
  a5 := Tryd.isAgg5
  z5 := Tryd.sizeOf5
  v5 := Tryd.zeroValue5
  i5 := by kernel_rfl
  t22 := Tryd.underlying55
  a22 := Tryd.isAgg55
  z22 := Tryd.sizeOf55
  v22 := Tryd.zeroValue55
  i22 := by kernel_rfl
  t25 := Tryd.underlying100
  a25 := Tryd.isAgg100
  z25 := Tryd.sizeOf100
  v25 := Tryd.zeroValue100
  i25 := by kernel_rfl
  t54 := Tryd.underlying125
  a54 := Tryd.isAgg125
  z54 := Tryd.sizeOf125
  g1 := by kernel_rfl }

end Go.Proofs
namespace Go.Proofs.YtfpgidpffhmadaaDoor
open Go Go.Dw Go.Proofs Go.Sort
def RM : Dw.Spec := AeU false (NI) (fun _ => 0)
theorem ZM : Mi Tryd.prog 92 RM := fun _ _ =>
  ⟨⟨Tryd.f92, Tryd.func92, by decide, rfl⟩, fun q hq => by
    cases hq
    exact Ace (fun zs => ⟨Aef zs, Nat.zero_le _⟩) (fun w a cap => Tryd.slices_Sort_int_none a cap w) (fun blk off cap zs w hH hb hs hc => Tryd.slices_Sort_int blk off cap zs w hH hb hs), (fun h => by cases h), (fun φ hφ => by cases hφ)⟩
def Qv : Dw.Spec := AeU true (Ve) (fun zs => (Lib.compact zs).length)
theorem Yf : Mi Tryd.prog 93 Qv := fun _ _ =>
  ⟨⟨Tryd.f93, Tryd.func93, by decide, rfl⟩, fun q hq => by
    cases hq
    exact Ace (fun zs => ⟨Acn zs, ZW zs⟩) (fun w a cap => Tryd.slices_Compact_int_empty a cap w) (fun blk off cap zs w hH hb hs hc => (Tryd.slices_Compact_int blk off cap zs w hH (by omega) hc).mono (by rintro e w1 ⟨rfl, n, rfl⟩; exact ⟨rfl, n, #[], by simp [Ve]⟩)), (fun h => by cases h), (fun φ hφ => by cases hφ)⟩
theorem Aho : Mi Tryd.prog 98 AcJ := Aff (g := 0) ⟨Tryd.f98, Tryd.func98, by decide, rfl⟩ (by kernel_rfl) fun x w hx hT => Any7.bits_TrailingZeros64 Tryd.AgG x hx w hT
end Go.Proofs.YtfpgidpffhmadaaDoor
