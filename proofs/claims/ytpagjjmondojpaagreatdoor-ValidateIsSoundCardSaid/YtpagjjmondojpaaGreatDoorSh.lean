/-
  The library functions that write a slice in place: what they do, at this program.
-/
import Derived.Shelf.Slices.CompactI
import Derived.Shelf.Slices.In.SortNone
import Derived.Shelf.Sort.Plain
import Derived.KernelRfl
import Derived.Test.YtpagjjmondojpaaGreatDoorProg
import Derived.Test.YtpagjjmondojpaaGreatDoorDd
namespace Go.Proofs
open Go.Shelf
def Tryz.AoK : Go.Shelf.Ren := ⟨fun | 189 => 133 | 125 => 152 | 257 => 151 | 128 => 166 | 129 => 167 | 294 => 157 | 295 => 158 | 296 => 159 | 297 => 160 | 298 => 161 | 299 => 162 | 216 => 163 | 300 => 164 | 301 => 165 | 328 => 168 | 329 => 169 | 330 => 170 | 331 => 171 | 332 => 172 | 215 => 173 | 343 => 174 | n => n, fun | 28 => 30 | 3 => 3 | 46 => 198 | 0 => 0 | 51 => 209 | 53 => 55 | 4 => 4 | 183 => 203 | 182 => 202 | 131 => 80 | 5 => 5 | 9 => 9 | 218 => 210 | 222 => 213 | 228 => 215 | 229 => 216 | n => n, fun | n => n⟩
theorem Tryz.Apd : Go.Proofs.Lays.n189 Tryz.prog Tryz.AoK := {
  mixed := by kernel_rfl
  f125 := Tryz.func152.trans (congrArg some (by kernel_rfl))
  f128 := Tryz.func166.trans (congrArg some (by kernel_rfl))
  f129 := Tryz.func167.trans (congrArg some (by kernel_rfl))
  f189 := Tryz.func133.trans (congrArg some (by kernel_rfl))
  f215 := Tryz.func173.trans (congrArg some (by kernel_rfl))
  f216 := Tryz.func163.trans (congrArg some (by kernel_rfl))
  f257 := Tryz.func151.trans (congrArg some (by kernel_rfl))
  f294 := Tryz.func157.trans (congrArg some (by kernel_rfl))
  f295 := Tryz.func158.trans (congrArg some (by kernel_rfl))
  f296 := Tryz.func159.trans (congrArg some (by kernel_rfl))
  f297 := Tryz.func160.trans (congrArg some (by kernel_rfl))
  f298 := Tryz.func161.trans (congrArg some (by kernel_rfl))
  f299 := Tryz.func162.trans (congrArg some (by kernel_rfl))
  f300 := Tryz.func164.trans (congrArg some (by kernel_rfl))
  f301 := Tryz.func165.trans (congrArg some (by kernel_rfl))
  f328 := Tryz.func168.trans (congrArg some (by kernel_rfl))
  f329 := Tryz.func169.trans (congrArg some (by kernel_rfl))
  f330 := Tryz.func170.trans (congrArg some (by kernel_rfl))
  f331 := Tryz.func171.trans (congrArg some (by kernel_rfl))
  f332 := Tryz.func172.trans (congrArg some (by kernel_rfl))
  f343 := Tryz.func174.trans (congrArg some (by kernel_rfl))
  t0 := Tryz.underlying0
  a0 := Tryz.isAgg0
  z0 := Tryz.sizeOf0
  v0 := Tryz.zeroValue0
  t3 := Tryz.underlying3
  a3 := Tryz.isAgg3
  z3 := Tryz.sizeOf3
  v3 := Tryz.zeroValue3
  t4 := Tryz.underlying4
  a4 := Tryz.isAgg4
  z4 := Tryz.sizeOf4
  v4 := Tryz.zeroValue4
  t5 := Tryz.underlying5
  a5 := Tryz.isAgg5
  z5 := Tryz.sizeOf5
  v5 := Tryz.zeroValue5
  t9 := Tryz.underlying9
  a9 := Tryz.isAgg9
  z9 := Tryz.sizeOf9
  v9 := Tryz.zeroValue9
  t28 := Tryz.underlying30
  a28 := Tryz.isAgg30
  z28 := Tryz.sizeOf30
  v28 := Tryz.zeroValue30
  t46 := Tryz.underlying198
  a46 := Tryz.isAgg198
  z46 := Tryz.sizeOf198
  v46 := Tryz.zeroValue198
  t51 := Tryz.underlying209
  a51 := Tryz.isAgg209
  z51 := Tryz.sizeOf209
  v51 := Tryz.zeroValue209
  t53 := Tryz.underlying55
  a53 := Tryz.isAgg55
  z53 := Tryz.sizeOf55
  v53 := Tryz.zeroValue55
  t131 := Tryz.underlying80
  a131 := Tryz.isAgg80
  z131 := Tryz.sizeOf80
  v131 := Tryz.zeroValue80
  t182 := Tryz.underlying202
  a182 := Tryz.isAgg202
  z182 := Tryz.sizeOf202
  v182 := Tryz.zeroValue202
  t183 := Tryz.underlying203
  a183 := Tryz.isAgg203
  z183 := Tryz.sizeOf203
  v183 := Tryz.zeroValue203
  t218 := Tryz.underlying210
  a218 := Tryz.isAgg210
  z218 := Tryz.sizeOf210
  v218 := Tryz.zeroValue210
  t222 := Tryz.underlying213
  a222 := Tryz.isAgg213
  z222 := Tryz.sizeOf213
  v222 := Tryz.zeroValue213
  t228 := Tryz.underlying215
  a228 := Tryz.isAgg215
  z228 := Tryz.sizeOf215
  v228 := Tryz.zeroValue215
  t229 := Tryz.underlying216
  a229 := Tryz.isAgg216
  z229 := Tryz.sizeOf216
  v229 := Tryz.zeroValue216 }
open Go.Sort Go.RowKit in
theorem Tryz.slices_Sort_int (blk off cap : Nat) (zs : List Int) (w : World) (hH : Holds (Value.int .i64) w blk off zs.toArray) (hblk : blk < w.heap.size) (hsz : zs.length < 4611686018427387904) :
    Calls Tryz.prog 133 #[.slice (some ⟨blk, off, none⟩) zs.length cap] w λe w' =>
      e = .returned (.tuple #[]) /\ ∃ n os, w' = grow (putRow (Value.int .i64) (Sort.ahead w n) blk off (zs.mergeSort λx y => decide (x <= y)).toArray) os := Any.slices_Sort_int Tryz.Apd blk off cap zs w hH hblk hsz
open Go.RowKit Go.Sort in
theorem Tryz.slices_Sort_int_none (p : Option Addr) (cap : Nat) (w : World) :
    Calls Tryz.prog 133 #[.slice p 0 cap] w λe w' => e = .returned (.tuple #[]) /\ w' = w := Any.slices_Sort_int_none Tryz.Apd p cap w
def Tryz.Amb : Go.Shelf.Ren := ⟨fun | 20 => 134 | n => n, fun | 22 => 30 | 3 => 3 | 4 => 4 | 0 => 0 | n => n, fun | n => n⟩
theorem Tryz.AlO : Go.Proofs.Lays2.n20 Tryz.prog Tryz.Amb := {
  mixed := by kernel_rfl
  f20 := Tryz.func134.trans (congrArg some (by kernel_rfl))
  t0 := Tryz.underlying0
  a0 := Tryz.isAgg0
  z0 := Tryz.sizeOf0
  v0 := Tryz.zeroValue0
  t3 := Tryz.underlying3
  a3 := Tryz.isAgg3
  z3 := Tryz.sizeOf3
  v3 := Tryz.zeroValue3
  t4 := Tryz.underlying4
  a4 := Tryz.isAgg4
  z4 := Tryz.sizeOf4
  v4 := Tryz.zeroValue4
  t22 := Tryz.underlying30
  a22 := Tryz.isAgg30
  z22 := Tryz.sizeOf30
  v22 := Tryz.zeroValue30
  i3 := by kernel_rfl }
open Go.RowKit Go.Lib Go.Sort in
theorem Tryz.slices_Compact_int (blk off cap : Nat) (zs : List Int) (w : World) (hH : Holds (Value.int .i64) w blk off zs.toArray) (hsz : zs.length <= 9223372036854775807) (hcap : zs.length <= cap) :
    Calls Tryz.prog 134 #[.slice (some ⟨blk, off, none⟩) zs.length cap] w λe w' => e = .returned (.slice (some ⟨blk, off, none⟩) (Lib.compact zs).length cap) /\ ∃ q, w' = putRow (Value.int .i64) (Sort.ahead w q) blk off (Lib.compact zs ++ List.replicate (zs.length - (Lib.compact zs).length) 0).toArray := Any.slices_Compact_int Tryz.AlO blk off cap zs w hH hsz hcap
open Go.RowKit Go.Lib Go.Sort in
theorem Tryz.slices_Compact_int_empty (a : Option Addr) (cap : Nat) (w : World) :
    Calls Tryz.prog 134 #[.slice a 0 cap] w λe w' => e = .returned (.slice a 0 cap) /\ w' = w := Any.slices_Compact_int_empty Tryz.AlO a cap w
def Tryz.AnG : Go.Shelf.Ren := ⟨fun | 29 => 139 | n => n, fun | 0 => 0 | 3 => 3 | 4 => 4 | 5 => 5 | 22 => 55 | 25 => 198 | 54 => 199 | n => n, fun | 1 => 0 | n => n⟩
theorem Tryz.Ara : Go.Proofs.Lays7.n29 Tryz.prog Tryz.AnG := {
  mixed := by kernel_rfl
  f29 := Tryz.func139.trans (congrArg some (by kernel_rfl))
  t0 := Tryz.underlying0
  a0 := Tryz.isAgg0
  z0 := Tryz.sizeOf0
  v0 := Tryz.zeroValue0
  i0 := by kernel_rfl
  t3 := Tryz.underlying3
  a3 := Tryz.isAgg3
  z3 := Tryz.sizeOf3
  v3 := Tryz.zeroValue3
  i3 := by kernel_rfl
  t4 := Tryz.underlying4
  a4 := Tryz.isAgg4
  z4 := Tryz.sizeOf4
  v4 := Tryz.zeroValue4
  i4 := by kernel_rfl
  t5 := Tryz.underlying5
  a5 := Tryz.isAgg5
  z5 := Tryz.sizeOf5
  v5 := Tryz.zeroValue5
  i5 := by kernel_rfl
  t22 := Tryz.underlying55
  a22 := Tryz.isAgg55
  z22 := Tryz.sizeOf55
  v22 := Tryz.zeroValue55
  i22 := by kernel_rfl
  t25 := Tryz.underlying198
  a25 := Tryz.isAgg198
  z25 := Tryz.sizeOf198
  v25 := Tryz.zeroValue198
  i25 := by kernel_rfl
  t54 := Tryz.underlying199
  a54 := Tryz.isAgg199
  z54 := Tryz.sizeOf199
  g1 := by kernel_rfl }

end Go.Proofs
namespace Go.Proofs.YtpagjjmondojpaaGreatDoor
open Go Go.Dw Go.Proofs Go.Sort
def AaV : Dw.Spec := ApY false (XZ) (λ_ => 0)
theorem Afa : NG Tryz.prog 133 AaV := λ_ _ =>
  ⟨⟨Tryz.f133, Tryz.func133, by decide, rfl⟩, λq hq => by
    cases hq
    exact AiS (λzs => ⟨Aol zs, Nat.zero_le _⟩) (λw a cap => Tryz.slices_Sort_int_none a cap w) (λblk off cap zs w hH hb hs hc => Tryz.slices_Sort_int blk off cap zs w hH hb hs), (λh => by cases h), (λφ hφ => by cases hφ)⟩
def YC : Dw.Spec := ApY true (AaI) (λzs => (Lib.compact zs).length)
theorem Ady : NG Tryz.prog 134 YC := λ_ _ =>
  ⟨⟨Tryz.f134, Tryz.func134, by decide, rfl⟩, λq hq => by
    cases hq
    exact AiS (λzs => ⟨Ajl zs, Afg zs⟩) (λw a cap => Tryz.slices_Compact_int_empty a cap w) (λblk off cap zs w hH hb hs hc => (Tryz.slices_Compact_int blk off cap zs w hH (by omega) hc).mono (by rintro e w1 ⟨rfl, n, rfl⟩; exact ⟨rfl, n, #[], by simp [AaI]⟩)), (λh => by cases h), (λφ hφ => by cases hφ)⟩
theorem Ase : NG Tryz.prog 139 Aoq := Aqx (g := 0) ⟨Tryz.f139, Tryz.func139, by decide, rfl⟩ (by kernel_rfl) λx w hx hT => Any7.bits_TrailingZeros64 Tryz.Ara x hx w hT
end Go.Proofs.YtpagjjmondojpaaGreatDoor
