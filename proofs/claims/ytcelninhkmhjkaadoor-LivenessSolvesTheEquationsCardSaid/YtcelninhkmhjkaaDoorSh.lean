/-
  The library functions that write a slice in place: what they do, at this program.
-/
import Derived.Shelf.Slices.CompactI
import Derived.Shelf.Slices.In.SortNone
import Derived.Shelf.Sort.Plain
import Derived.KernelRfl
import Derived.Test.YtcelninhkmhjkaaDoorProg
import Derived.Test.YtcelninhkmhjkaaDoorDc
namespace Go.Proofs
open Go.Shelf
def Tryd.Aay : Go.Shelf.Ren := ⟨fun | 189 => 113 | 125 => 124 | 257 => 123 | 128 => 135 | 129 => 136 | 294 => 126 | 295 => 127 | 296 => 128 | 297 => 129 | 298 => 130 | 299 => 131 | 216 => 132 | 300 => 133 | 301 => 134 | 328 => 137 | 329 => 138 | 330 => 139 | 331 => 140 | 332 => 141 | 215 => 142 | 343 => 143 | n => n, fun | 28 => 36 | 3 => 3 | 46 => 124 | 0 => 0 | 51 => 141 | 53 => 64 | 4 => 4 | 183 => 134 | 182 => 133 | 131 => 84 | 5 => 5 | 9 => 9 | 218 => 142 | 222 => 145 | 228 => 147 | 229 => 148 | n => n, fun | n => n⟩
theorem Tryd.AaC : Go.Proofs.Lays.n189 Tryd.prog Tryd.Aay := {
  mixed := by kernel_rfl
  f125 := Tryd.func124.trans (congrArg some (by kernel_rfl))
  f128 := Tryd.func135.trans (congrArg some (by kernel_rfl))
  f129 := Tryd.func136.trans (congrArg some (by kernel_rfl))
  f189 := Tryd.func113.trans (congrArg some (by kernel_rfl))
  f215 := Tryd.func142.trans (congrArg some (by kernel_rfl))
  f216 := Tryd.func132.trans (congrArg some (by kernel_rfl))
  f257 := Tryd.func123.trans (congrArg some (by kernel_rfl))
  f294 := Tryd.func126.trans (congrArg some (by kernel_rfl))
  f295 := Tryd.func127.trans (congrArg some (by kernel_rfl))
  f296 := Tryd.func128.trans (congrArg some (by kernel_rfl))
  f297 := Tryd.func129.trans (congrArg some (by kernel_rfl))
  f298 := Tryd.func130.trans (congrArg some (by kernel_rfl))
  f299 := Tryd.func131.trans (congrArg some (by kernel_rfl))
  f300 := Tryd.func133.trans (congrArg some (by kernel_rfl))
  f301 := Tryd.func134.trans (congrArg some (by kernel_rfl))
  f328 := Tryd.func137.trans (congrArg some (by kernel_rfl))
  f329 := Tryd.func138.trans (congrArg some (by kernel_rfl))
  f330 := Tryd.func139.trans (congrArg some (by kernel_rfl))
  f331 := Tryd.func140.trans (congrArg some (by kernel_rfl))
  f332 := Tryd.func141.trans (congrArg some (by kernel_rfl))
  f343 := Tryd.func143.trans (congrArg some (by kernel_rfl))
  t0 := Tryd.underlying0
  a0 := Tryd.isAgg0
  z0 := Tryd.sizeOf0
  v0 := Tryd.zeroValue0
  t3 := Tryd.underlying3
  a3 := Tryd.isAgg3
  z3 := Tryd.sizeOf3
  v3 := Tryd.zeroValue3
  t4 := Tryd.underlying4
  a4 := Tryd.isAgg4
  z4 := Tryd.sizeOf4
  v4 := Tryd.zeroValue4
  t5 := Tryd.underlying5
  a5 := Tryd.isAgg5
  z5 := Tryd.sizeOf5
  v5 := Tryd.zeroValue5
  t9 := Tryd.underlying9
  a9 := Tryd.isAgg9
  z9 := Tryd.sizeOf9
  v9 := Tryd.zeroValue9
  t28 := Tryd.underlying36
  a28 := Tryd.isAgg36
  z28 := Tryd.sizeOf36
  v28 := Tryd.zeroValue36
  t46 := Tryd.underlying124
  a46 := Tryd.isAgg124
  z46 := Tryd.sizeOf124
  v46 := Tryd.zeroValue124
  t51 := Tryd.underlying141
  a51 := Tryd.isAgg141
  z51 := Tryd.sizeOf141
  v51 := Tryd.zeroValue141
  t53 := Tryd.underlying64
  a53 := Tryd.isAgg64
  z53 := Tryd.sizeOf64
  v53 := Tryd.zeroValue64
  t131 := Tryd.underlying84
  a131 := Tryd.isAgg84
  z131 := Tryd.sizeOf84
  v131 := Tryd.zeroValue84
  t182 := Tryd.underlying133
  a182 := Tryd.isAgg133
  z182 := Tryd.sizeOf133
  v182 := Tryd.zeroValue133
  t183 := Tryd.underlying134
  a183 := Tryd.isAgg134
  z183 := Tryd.sizeOf134
  v183 := Tryd.zeroValue134
  t218 := Tryd.underlying142
  a218 := Tryd.isAgg142
  z218 := Tryd.sizeOf142
  v218 := Tryd.zeroValue142
  t222 := Tryd.underlying145
  a222 := Tryd.isAgg145
  z222 := Tryd.sizeOf145
  v222 := Tryd.zeroValue145
  t228 := Tryd.underlying147
  a228 := Tryd.isAgg147
  z228 := Tryd.sizeOf147
  v228 := Tryd.zeroValue147
  t229 := Tryd.underlying148
  a229 := Tryd.isAgg148
  z229 := Tryd.sizeOf148
  v229 := Tryd.zeroValue148 }
open Go.Sort Go.RowKit in
theorem Tryd.slices_Sort_int (blk off cap : Nat) (zs : List Int) (w : World) (hH : Holds (Value.int .i64) w blk off zs.toArray) (hblk : blk < w.heap.size) (hsz : zs.length < 4611686018427387904) :
    Calls Tryd.prog 113 #[.slice (some ⟨blk, off, none⟩) zs.length cap] w fun e w' =>
      e = .returned (.tuple #[]) ∧ ∃ n os, w' = grow (putRow (Value.int .i64) (Sort.ahead w n) blk off (zs.mergeSort fun x y => decide (x ≤ y)).toArray) os := Any.slices_Sort_int Tryd.AaC blk off cap zs w hH hblk hsz
open Go.RowKit Go.Sort in
theorem Tryd.slices_Sort_int_none (p : Option Addr) (cap : Nat) (w : World) :
    Calls Tryd.prog 113 #[.slice p 0 cap] w fun e w' => e = .returned (.tuple #[]) ∧ w' = w := Any.slices_Sort_int_none Tryd.AaC p cap w
def Tryd.ZG : Go.Shelf.Ren := ⟨fun | 20 => 114 | n => n, fun | 22 => 36 | 3 => 3 | 4 => 4 | 0 => 0 | n => n, fun | n => n⟩
theorem Tryd.ZA : Go.Proofs.Lays2.n20 Tryd.prog Tryd.ZG := {
  mixed := by kernel_rfl
  f20 := Tryd.func114.trans (congrArg some (by kernel_rfl))
  t0 := Tryd.underlying0
  a0 := Tryd.isAgg0
  z0 := Tryd.sizeOf0
  v0 := Tryd.zeroValue0
  t3 := Tryd.underlying3
  a3 := Tryd.isAgg3
  z3 := Tryd.sizeOf3
  v3 := Tryd.zeroValue3
  t4 := Tryd.underlying4
  a4 := Tryd.isAgg4
  z4 := Tryd.sizeOf4
  v4 := Tryd.zeroValue4
  t22 := Tryd.underlying36
  a22 := Tryd.isAgg36
  z22 := Tryd.sizeOf36
  v22 := Tryd.zeroValue36
  i3 := by kernel_rfl }
open Go.RowKit Go.Lib Go.Sort in
theorem Tryd.slices_Compact_int (blk off cap : Nat) (zs : List Int) (w : World) (hH : Holds (Value.int .i64) w blk off zs.toArray) (hsz : zs.length ≤ 9223372036854775807) (hcap : zs.length ≤ cap) :
    Calls Tryd.prog 114 #[.slice (some ⟨blk, off, none⟩) zs.length cap] w fun e w' => e = .returned (.slice (some ⟨blk, off, none⟩) (Lib.compact zs).length cap) ∧ ∃ q, w' = putRow (Value.int .i64) (Sort.ahead w q) blk off (Lib.compact zs ++ List.replicate (zs.length - (Lib.compact zs).length) 0).toArray := Any.slices_Compact_int Tryd.ZA blk off cap zs w hH hsz hcap
open Go.RowKit Go.Lib Go.Sort in
theorem Tryd.slices_Compact_int_empty (a : Option Addr) (cap : Nat) (w : World) :
    Calls Tryd.prog 114 #[.slice a 0 cap] w fun e w' => e = .returned (.slice a 0 cap) ∧ w' = w := Any.slices_Compact_int_empty Tryd.ZA a cap w
def Tryd.Aag : Go.Shelf.Ren := ⟨fun | 29 => 117 | n => n, fun | 0 => 0 | 3 => 3 | 4 => 4 | 5 => 5 | 22 => 64 | 25 => 124 | 54 => 130 | n => n, fun | 1 => 0 | n => n⟩
theorem Tryd.AcB : Go.Proofs.Lays7.n29 Tryd.prog Tryd.Aag := {
  mixed := by kernel_rfl
  f29 := Tryd.func117.trans (congrArg some (by kernel_rfl))
  t0 := Tryd.underlying0
  a0 := Tryd.isAgg0
  z0 := Tryd.sizeOf0
  v0 := Tryd.zeroValue0
  i0 := by kernel_rfl
  t3 := Tryd.underlying3
  a3 := Tryd.isAgg3
  z3 := Tryd.sizeOf3
  v3 := Tryd.zeroValue3
  i3 := by kernel_rfl
  t4 := Tryd.underlying4
  a4 := Tryd.isAgg4
  z4 := Tryd.sizeOf4
  v4 := Tryd.zeroValue4
  i4 := by kernel_rfl
  t5 := Tryd.underlying5
  a5 := Tryd.isAgg5
  z5 := Tryd.sizeOf5
  v5 := Tryd.zeroValue5
  i5 := by kernel_rfl
  t22 := Tryd.underlying64
  a22 := Tryd.isAgg64
  z22 := Tryd.sizeOf64
  v22 := Tryd.zeroValue64
  i22 := by kernel_rfl
  t25 := Tryd.underlying124
  a25 := Tryd.isAgg124
  z25 := Tryd.sizeOf124
  v25 := Tryd.zeroValue124
  i25 := by kernel_rfl
  t54 := Tryd.underlying130
  a54 := Tryd.isAgg130
  z54 := Tryd.sizeOf130
  g1 := by kernel_rfl }

end Go.Proofs
namespace Go.Proofs.YtcelninhkmhjkaaDoor
open Go Go.Dw Go.Proofs Go.Sort
def Qd : Dw.Spec := Abm false (Nk) (fun _ => 0)
theorem Wv : Mi Tryd.prog 113 Qd := fun _ _ =>
  ⟨⟨Tryd.f113, Tryd.func113, by decide, rfl⟩, fun q hq => by
    cases hq
    exact YK (fun zs => ⟨Aan zs, Nat.zero_le _⟩) (fun w a cap => Tryd.slices_Sort_int_none a cap w) (fun blk off cap zs w hH hb hs hc => Tryd.slices_Sort_int blk off cap zs w hH hb hs), (fun h => by cases h), (fun φ hφ => by cases hφ)⟩
def OW : Dw.Spec := Abm true (SL) (fun zs => (Lib.compact zs).length)
theorem Vp : Mi Tryd.prog 114 OW := fun _ _ =>
  ⟨⟨Tryd.f114, Tryd.func114, by decide, rfl⟩, fun q hq => by
    cases hq
    exact YK (fun zs => ⟨YT zs, Wy zs⟩) (fun w a cap => Tryd.slices_Compact_int_empty a cap w) (fun blk off cap zs w hH hb hs hc => (Tryd.slices_Compact_int blk off cap zs w hH (by omega) hc).mono (by rintro e w1 ⟨rfl, n, rfl⟩; exact ⟨rfl, n, #[], by simp [SL]⟩)), (fun h => by cases h), (fun φ hφ => by cases hφ)⟩
theorem AdC : Mi Tryd.prog 117 Zo := Abw (g := 0) ⟨Tryd.f117, Tryd.func117, by decide, rfl⟩ (by kernel_rfl) fun x w hx hT => Any7.bits_TrailingZeros64 Tryd.AcB x hx w hT
end Go.Proofs.YtcelninhkmhjkaaDoor
