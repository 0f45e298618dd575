/-
  The library functions that write a slice in place: what they do, at this program.
-/
import Derived.Below
import Derived.BigCall
import Derived.BigGuard
import Derived.Lib.ItoaMem
import Derived.Shelf.LaysM
import Derived.Shelf.Strconv.Itoa0
import Derived.Shelf.Strconv.Itoa1
import Derived.Shelf.Strconv.Itoa2
import Derived.Shelf.Strings.Builder1
import Derived.Shelf.Strings.BuilderF
import Derived.Shelf.Strings.OnBuilder
import Derived.KernelRfl
import Derived.Test.YtbnconokpjdnjaaDoorProg
import Derived.Test.YtbnconokpjdnjaaDoorDd
namespace Go.Proofs
open Go.Shelf
def Tryd.ZX : Go.Shelf.Ren := ⟨fun | 283 => 62 | n => n, fun | 3 => 3 | 9 => 9 | 4 => 4 | n => n, fun | n => n⟩
theorem Tryd.AbF : Go.Proofs.Lays.n283 Tryd.prog Tryd.ZX := {
  mixed := by kernel_rfl
  f283 := Tryd.func62.trans (congrArg some (by kernel_rfl))
  t3 := Tryd.underlying3
  a3 := Tryd.isAgg3
  z3 := Tryd.sizeOf3
  v3 := Tryd.zeroValue3
  t4 := Tryd.underlying4
  a4 := Tryd.isAgg4
  z4 := Tryd.sizeOf4
  v4 := Tryd.zeroValue4
  t9 := Tryd.underlying9
  a9 := Tryd.isAgg9
  z9 := Tryd.sizeOf9
  v9 := Tryd.zeroValue9 }
open Go.Lib in
theorem Tryd.internal_strconv_small (i : Nat) (h : i < 100) (w : World) :
    Calls Tryd.prog 62 #[.int .i64 i] w λe w' => e = .returned (.string ⟨(Lib.decDigits i).toArray⟩) /\ w' = w := Any.internal_strconv_small Tryd.AbF i h w
def Tryd.ZY : Go.Shelf.Ren := ⟨fun | 285 => 64 | n => n, fun | 37 => 28 | 53 => 22 | 3 => 3 | 4 => 4 | 51 => 137 | 9 => 9 | 5 => 5 | 0 => 0 | n => n, fun | n => n⟩
theorem Tryd.Vk : Go.Proofs.Lays.n285 Tryd.prog Tryd.ZY := {
  mixed := by kernel_rfl
  f285 := Tryd.func64.trans (congrArg some (by kernel_rfl))
  t0 := Tryd.underlying0
  a0 := Tryd.isAgg0
  z0 := Tryd.sizeOf0
  v0 := Tryd.zeroValue0
  t3 := Tryd.underlying3
  a3 := Tryd.isAgg3
  z3 := Tryd.sizeOf3
  v3 := Tryd.zeroValue3
  t4 := Tryd.underlying4
  a4 := Tryd.isAgg4
  z4 := Tryd.sizeOf4
  v4 := Tryd.zeroValue4
  t5 := Tryd.underlying5
  a5 := Tryd.isAgg5
  z5 := Tryd.sizeOf5
  v5 := Tryd.zeroValue5
  t9 := Tryd.underlying9
  a9 := Tryd.isAgg9
  z9 := Tryd.sizeOf9
  v9 := Tryd.zeroValue9
  t37 := Tryd.underlying28
  a37 := Tryd.isAgg28
  z37 := Tryd.sizeOf28
  v37 := Tryd.zeroValue28
  t51 := Tryd.underlying137
  a51 := Tryd.isAgg137
  z51 := Tryd.sizeOf137
  v51 := Tryd.zeroValue137
  t53 := Tryd.underlying22
  a53 := Tryd.isAgg22
  z53 := Tryd.sizeOf22
  v53 := Tryd.zeroValue22 }
open Go.RowKit Go.Sort Go.Lib in
theorem Tryd.internal_strconv_formatBase10 (blk off cap : Nat) (u : Nat) (d : Array UInt8) (w : World) (hH : Holds (λ(b : UInt8) => Value.int .u8 (b.toNat : Int)) w blk off d) (hu : u < 10 ^ d.size) (hu64 : u < 18446744073709551616) (hsz : d.size < 4611686018427387904) :
    Calls Tryd.prog 64 #[.slice (some ⟨blk, off, none⟩) d.size cap, .int .u64 u] w λe w' =>
      e = .returned (.tuple #[]) /\ ∃ (n v' : Nat) (dk : Array UInt8), w' = (putRow (λ(b : UInt8) => Value.int .u8 (b.toNat : Int)) w blk off dk).drewN n /\ FmtInv d.size u 0 v' dk := Any.internal_strconv_formatBase10 Tryd.Vk blk off cap u d w hH hu hu64 hsz
def Tryd.ZV : Go.Shelf.Ren := ⟨fun | 129 => 85 | n => n, fun | 53 => 22 | 3 => 3 | 4 => 4 | 46 => 139 | 5 => 5 | 9 => 9 | n => n, fun | n => n⟩
theorem Tryd.AbE : Go.Proofs.Lays.n129 Tryd.prog Tryd.ZV := {
  mixed := by kernel_rfl
  f129 := Tryd.func85.trans (congrArg some (by kernel_rfl))
  t3 := Tryd.underlying3
  a3 := Tryd.isAgg3
  z3 := Tryd.sizeOf3
  v3 := Tryd.zeroValue3
  t4 := Tryd.underlying4
  a4 := Tryd.isAgg4
  z4 := Tryd.sizeOf4
  v4 := Tryd.zeroValue4
  t5 := Tryd.underlying5
  a5 := Tryd.isAgg5
  z5 := Tryd.sizeOf5
  v5 := Tryd.zeroValue5
  t9 := Tryd.underlying9
  a9 := Tryd.isAgg9
  z9 := Tryd.sizeOf9
  v9 := Tryd.zeroValue9
  t46 := Tryd.underlying139
  a46 := Tryd.isAgg139
  z46 := Tryd.sizeOf139
  v46 := Tryd.zeroValue139
  t53 := Tryd.underlying22
  a53 := Tryd.isAgg22
  z53 := Tryd.sizeOf22
  v53 := Tryd.zeroValue22 }
theorem Tryd.bits_Len64 (x : Int) (w : World) (h0 : 0 <= x) (h1 : x <= 18446744073709551615) :
    Calls Tryd.prog 85 #[.int .u64 x] w λe w' => e = .returned (.int .i64 (Lib.bitLen x.toNat)) /\ w' = w := Any.bits_Len64 Tryd.AbE x w h0 h1
def Tryd.ZZ : Go.Shelf.Ren := ⟨fun | 317 => 84 | n => n, fun | 3 => 3 | 46 => 139 | n => n, fun | n => n⟩
theorem Tryd.AbG : Go.Proofs.Lays.n317 Tryd.prog Tryd.ZZ := {
  mixed := by kernel_rfl
  f317 := Tryd.func84.trans (congrArg some (by kernel_rfl))
  t3 := Tryd.underlying3
  a3 := Tryd.isAgg3
  z3 := Tryd.sizeOf3
  v3 := Tryd.zeroValue3
  t46 := Tryd.underlying139
  a46 := Tryd.isAgg139
  z46 := Tryd.sizeOf139
  v46 := Tryd.zeroValue139 }
open Go.Lib in
theorem Tryd.internal_strconv_log10Pow2 (x : Nat) (h : x <= 64) (w : World) :
    Calls Tryd.prog 84 #[.int .i64 x] w λe w' => e = .returned (.int .i64 (Lib.l10 x)) /\ w' = w := Any.internal_strconv_log10Pow2 Tryd.AbG x h w
def Tryd.Aaa : Go.Shelf.Ren := ⟨fun | 318 => 86 | n => n, fun | 3 => 3 | 4 => 4 | n => n, fun | n => n⟩
theorem Tryd.AbH : Go.Proofs.Lays.n318 Tryd.prog Tryd.Aaa := {
  mixed := by kernel_rfl
  f318 := Tryd.func86.trans (congrArg some (by kernel_rfl))
  t3 := Tryd.underlying3
  a3 := Tryd.isAgg3
  z3 := Tryd.sizeOf3
  v3 := Tryd.zeroValue3
  t4 := Tryd.underlying4
  a4 := Tryd.isAgg4
  z4 := Tryd.sizeOf4
  v4 := Tryd.zeroValue4 }
open Go.Lib in
theorem Tryd.internal_strconv_bool2_int (b : Bool) (w : World) :
    Calls Tryd.prog 86 #[.bool b] w λe w' => e = .returned (.int .i64 (if b then 1 else 0)) /\ w' = w := Any.internal_strconv_bool2_int Tryd.AbH b w
def Tryd.XT : Go.Shelf.Ren := ⟨fun | 156 => 23 | 165 => 48 | 166 => 35 | 169 => 37 | 240 => 53 | 241 => 67 | 276 => 73 | 277 => 89 | n => n, fun | 31 => 54 | 9 => 9 | 3 => 3 | 4 => 4 | 0 => 0 | 20 => 20 | 72 => 79 | 76 => 82 | 70 => 77 | 37 => 28 | 75 => 81 | 127 => 104 | 164 => 124 | 5 => 5 | 80 => 84 | n => n, fun | n => n⟩
theorem Tryd.Xu : Go.Proofs.Lays.n156 Tryd.prog Tryd.XT := {
  mixed := by kernel_rfl
  f156 := Tryd.func23.trans (congrArg some (by kernel_rfl))
  f165 := Tryd.func48.trans (congrArg some (by kernel_rfl))
  f166 := Tryd.func35.trans (congrArg some (by kernel_rfl))
  f169 := Tryd.func37.trans (congrArg some (by kernel_rfl))
  f240 := Tryd.func53.trans (congrArg some (by kernel_rfl))
  f241 := Tryd.func67.trans (congrArg some (by kernel_rfl))
  f276 := Tryd.func73.trans (congrArg some (by kernel_rfl))
  f277 := Tryd.func89.trans (congrArg some (by kernel_rfl))
  t0 := Tryd.underlying0
  a0 := Tryd.isAgg0
  z0 := Tryd.sizeOf0
  v0 := Tryd.zeroValue0
  t3 := Tryd.underlying3
  a3 := Tryd.isAgg3
  z3 := Tryd.sizeOf3
  v3 := Tryd.zeroValue3
  t4 := Tryd.underlying4
  a4 := Tryd.isAgg4
  z4 := Tryd.sizeOf4
  v4 := Tryd.zeroValue4
  t9 := Tryd.underlying9
  a9 := Tryd.isAgg9
  z9 := Tryd.sizeOf9
  v9 := Tryd.zeroValue9
  t20 := Tryd.underlying20
  a20 := Tryd.isAgg20
  z20 := Tryd.sizeOf20
  v20 := Tryd.zeroValue20
  t31 := Tryd.underlying54
  a31 := Tryd.isAgg54
  z31 := Tryd.sizeOf54
  v31 := Tryd.zeroValue54
  t37 := Tryd.underlying28
  a37 := Tryd.isAgg28
  z37 := Tryd.sizeOf28
  v37 := Tryd.zeroValue28
  t70 := Tryd.underlying77
  a70 := Tryd.isAgg77
  z70 := Tryd.sizeOf77
  v70 := Tryd.zeroValue77
  t72 := Tryd.underlying79
  a72 := Tryd.isAgg79
  z72 := Tryd.sizeOf79
  v72 := Tryd.zeroValue79
  t75 := Tryd.underlying81
  a75 := Tryd.isAgg81
  z75 := Tryd.sizeOf81
  v75 := Tryd.zeroValue81
  t76 := Tryd.underlying82
  a76 := Tryd.isAgg82
  z76 := Tryd.sizeOf82
  v76 := Tryd.zeroValue82
  t127 := Tryd.underlying104
  a127 := Tryd.isAgg104
  z127 := Tryd.sizeOf104
  v127 := Tryd.zeroValue104
  t164 := Tryd.underlying124
  a164 := Tryd.isAgg124
  z164 := Tryd.sizeOf124
  v164 := Tryd.zeroValue124 }
theorem Tryd.TU : Builder.Extra Tryd.prog Tryd.XT := {
  sizeBuilder := by kernel_rfl
  liesBuilder := by kernel_rfl
  t5 := Tryd.underlying5
  a5 := Tryd.isAgg5
  z5 := Tryd.sizeOf5
  v5 := Tryd.zeroValue5
  infoByte := by kernel_rfl
  cellsByte := by kernel_rfl
  sizeByte := by kernel_rfl
  neB5 := by decide }
open Go.RowKit in
theorem Tryd.strings_Join_none (a : Option Addr) (c : Nat) (sep : ByteArray) (w : World) :
    Calls Tryd.prog 23 #[.slice a 0 c, .string sep] w λe w' => e = .returned (.string ⟨#[]⟩) /\ w' = w := Any.strings_Join_none Tryd.Xu Tryd.TU a c sep w
open Go.RowKit in
theorem Tryd.strings_Join (bk o c : Nat) (xs : List ByteArray) (sep : ByteArray) (w : World) (hcells : ∀ (j : Nat) x, xs[j]? = some x -> w.cell? ⟨bk, o + j, none⟩ = some (.string x)) (hbk : bk < w.heap.size) (hN : xs.length <= 140737488355328) (hcap : xs.length <= c) (hlen : (Lib.join (xs.map (·.data.toList)) sep.data.toList).length <= 140737488355328) :
    Calls Tryd.prog 23 #[.slice (some ⟨bk, o, none⟩) xs.length c, .string sep] w λe w' => e = .returned (.string ⟨(Lib.join (xs.map (·.data.toList)) sep.data.toList).toArray⟩) /\ Below w.heap.size w w' := Any.strings_Join Tryd.Xu Tryd.TU bk o c xs sep w hcells hbk hN hcap hlen
def Tryd.ZW : Go.Shelf.Ren := ⟨fun | 170 => 36 | n => n, fun | 70 => 77 | 3 => 3 | 0 => 0 | 72 => 79 | 37 => 28 | 5 => 5 | n => n, fun | n => n⟩
theorem Tryd.Aah : Go.Proofs.Lays.n170 Tryd.prog Tryd.ZW := {
  mixed := by kernel_rfl
  f170 := Tryd.func36.trans (congrArg some (by kernel_rfl))
  t0 := Tryd.underlying0
  a0 := Tryd.isAgg0
  z0 := Tryd.sizeOf0
  v0 := Tryd.zeroValue0
  t3 := Tryd.underlying3
  a3 := Tryd.isAgg3
  z3 := Tryd.sizeOf3
  v3 := Tryd.zeroValue3
  t37 := Tryd.underlying28
  a37 := Tryd.isAgg28
  z37 := Tryd.sizeOf28
  v37 := Tryd.zeroValue28
  t70 := Tryd.underlying77
  a70 := Tryd.isAgg77
  z70 := Tryd.sizeOf77
  v70 := Tryd.zeroValue77
  t72 := Tryd.underlying79
  a72 := Tryd.isAgg79
  z72 := Tryd.sizeOf79
  v72 := Tryd.zeroValue79 }
open Go.RowKit in
theorem Tryd.Builder_Len (B b : Nat) (bs : List Value) (w : World) (h : Lib.IsBuilder 79 5 B b bs w) :
    Calls Tryd.prog 36 #[.pointer (some ⟨b, 0, none⟩)] w λe w' => e = .returned (.int .i64 bs.length) /\ w' = w := Any.Builder_Len Tryd.Aah B b bs w h
def Tryd.ZB : Go.Shelf.Ren := ⟨fun | 29 => 105 | n => n, fun | 0 => 0 | 3 => 3 | 4 => 4 | 5 => 5 | 22 => 22 | 25 => 139 | 54 => 159 | n => n, fun | 1 => 6 | n => n⟩
theorem Tryd.Abk : Go.Proofs.Lays7.n29 Tryd.prog Tryd.ZB := {
  mixed := by kernel_rfl
  f29 := Tryd.func105.trans (congrArg some (by kernel_rfl))
  t0 := Tryd.underlying0
  a0 := Tryd.isAgg0
  z0 := Tryd.sizeOf0
  v0 := Tryd.zeroValue0
  i0 := by kernel_rfl
  t3 := Tryd.underlying3
  a3 := Tryd.isAgg3
  z3 := Tryd.sizeOf3
  v3 := Tryd.zeroValue3
  i3 := by kernel_rfl
  t4 := Tryd.underlying4
  a4 := Tryd.isAgg4
  z4 := Tryd.sizeOf4
  v4 := Tryd.zeroValue4
  i4 := by kernel_rfl
  t5 := Tryd.underlying5
  a5 := Tryd.isAgg5
  z5 := Tryd.sizeOf5
  v5 := Tryd.zeroValue5
  i5 := by kernel_rfl
  t22 := Tryd.underlying22
  a22 := Tryd.isAgg22
  z22 := Tryd.sizeOf22
  v22 := Tryd.zeroValue22
  i22 := by kernel_rfl
  t25 := Tryd.underlying139
  a25 := Tryd.isAgg139
  z25 := Tryd.sizeOf139
  v25 := Tryd.zeroValue139
  i25 := by kernel_rfl
  t54 := Tryd.underlying159
  a54 := Tryd.isAgg159
  z54 := Tryd.sizeOf159
  g1 := by kernel_rfl }
end Go.Proofs
namespace Go.Proofs
open Go.Shelf Go.RowKit Go.Sort Go.Lib
set_option maxHeartbeats 6400000
set_option maxRecDepth 100000
theorem Ys {u : Nat} (h1 : 1 <= u) (h2 : u < 18446744073709551616) : Lib.nDigits u <= 20 := by
  have := Lib.numDigits_eq u h1 h2
  split at this <;> omega
/-- how many digits a number has, where the table's cells are as laid -/
theorem Tryd.Wf (u : Nat) (h1 : 1 <= u) (h2 : u < 18446744073709551616) (w : World) (hT : ∀ j : Nat, j < 20 -> w.cell? ⟨2, j, none⟩ = some (.int .u64 ((10 ^ j : Nat) : Int))) :
    Calls Tryd.prog 63 #[.int .u64 u] w λe w' => e = .returned (.int .i64 (Lib.nDigits u)) /\ w' = w := by
  have mixed := Tryd.Vk.mixed
  have t22 := Tryd.underlying22; have a22 := Tryd.isAgg22; have z22 := Tryd.sizeOf22; have v22 := Tryd.zeroValue22
  have t3 := Tryd.underlying3; have a3 := Tryd.isAgg3; have z3 := Tryd.sizeOf3; have v3 := Tryd.zeroValue3
  have t136 := Tryd.underlying136; have a136 := Tryd.isAgg136; have z136 := Tryd.sizeOf136; have v136 := Tryd.zeroValue136
  have t0 := Tryd.underlying0; have a0 := Tryd.isAgg0; have z0 := Tryd.sizeOf0; have v0 := Tryd.zeroValue0
  have t4 := Tryd.underlying4; have a4 := Tryd.isAgg4; have z4 := Tryd.sizeOf4; have v4 := Tryd.zeroValue4
  have e85 : ∀ args w, (callFunc 85 args).run Tryd.prog w = .ok (.enter 85 args) w := enters_of Tryd.func85 (by kernel_rfl) rfl
  have e84 : ∀ args w, (callFunc 84 args).run Tryd.prog w = .ok (.enter 84 args) w := enters_of Tryd.func84 (by kernel_rfl) rfl
  have e86 : ∀ args w, (callFunc 86 args).run Tryd.prog w = .ok (.enter 86 args) w := enters_of Tryd.func86 (by kernel_rfl) rfl
  obtain ⟨hnd, h19⟩ := Lib.numDigits_eq u h1 h2
  have hL : Lib.bitLen u <= 64 := Lib.bitLen_le u 64 (Nat.le_refl _) h2
  have hcell := hT (Lib.l10 (Lib.bitLen u)) (by omega)
  have hto : ((u : Int)).toNat = u := by omega
  generalize hq : Lib.l10 (Lib.bitLen u) = q at hnd h19 hcell
  generalize hP : 10 ^ q = T at hnd hcell
  have h20 : q < 20 := by omega
  have Hnd := Lib.hid hnd
  clear hnd
  go_enter Tryd.func63, Tryd.ntmps63
  go_wp2_with (first
    | (go_at_fn 85; refine (Tryd.bits_Len64 _ _ (by omega) (by omega)).mono ?_; rintro e w' ⟨rfl, rfl⟩)
    | (go_at_fn 84; refine (Tryd.internal_strconv_log10Pow2 _ (by first | exact hL | (rw [hto]; exact hL)) _).mono ?_; rintro e w' ⟨rfl, rfl⟩)
    | (go_at_fn 86; refine (Tryd.internal_strconv_bool2_int _ _).mono ?_; rintro e w' ⟨rfl, rfl⟩))
  all_goals go_ret
  all_goals
    refine ⟨?_, rfl⟩
    have hnd := Hnd.out
    congr 2
    split at hnd <;> simp_all <;> omega
abbrev TF (b : UInt8) : Value := .int .u8 (b.toNat : Int)
/-- a new row of zeros -/
theorem YC (w : World) (T : TypeId) (o nd : Nat) (hs : o + nd <= 24) : Holds TF (w.alloc (.cells Lib.zeros24 T)) w.heap.size o (Array.replicate nd (0 : UInt8)) := λj hj => by
  have hj' : j < nd := by simpa using hj
  refine ⟨?_, World.frozen?_alloc_new _ _ _ _⟩
  rw [World.cell?_alloc_new, Lib.zeros24_at _ (by omega), getElem!_pos _ j hj]
  simp
/-- what lies below stays -/
theorem Xl (w : World) (o : Obj) (off k : Nat) (dk : Array UInt8) : Below w.heap.size w ((putRow TF (w.alloc o) w.heap.size off dk).drewN k) := by
  rw [alloc_eq_grow]
  obtain ⟨os', _, e⟩ := putRow_grow_new TF w #[o] w.heap.size off dk (Nat.le_refl _)
  rw [e]
  refine ⟨rfl, rfl, rfl, by simp [World.drewN, grow], λb hb => ?_⟩
  show (w.heap ++ os')[b]? = _
  rw [Array.getElem?_append_left hb]
theorem Xp {w : World} {g : Nat} {f : Nat -> Value} {n : Nat} (h : ∀ j : Nat, j < n -> w.cell? ⟨g, j, none⟩ = some (f j)) (o : Obj) (j : Nat) (hj : j < n) : (w.alloc o).cell? ⟨g, j, none⟩ = some (f j) := by
  rw [World.cell?_alloc_old _ _ _ (λe => ?_)]
  · exact h j hj
  · have k := h j hj
    have e : g = w.heap.size := e
    subst e
    simp [World.cell?] at k
/-- bytes of the new block become a string -/
theorem ZF {P : Program} {w : World} {o : Obj} {off k u v' cap ts tr te : Nat} {dk : Array UInt8} (hH : Holds TF (w.alloc o) w.heap.size off (Array.replicate (Lib.nDigits u) 0)) (hF : FmtInv (Lib.nDigits u) u 0 v' dk)
    (h1 : P.underlying ts = some (.slice te)) (h2 : P.underlying te = some (.int .u8)) (h3 : P.underlying tr = some .string) :
    (convert ts tr (.slice (some ⟨w.heap.size, off, none⟩) (Lib.nDigits u) cap)).run P ((putRow TF (w.alloc o) w.heap.size off dk).drewN k) = .ok (.string ⟨(Lib.decDigits u).toArray⟩) ((putRow TF (w.alloc o) w.heap.size off dk).drewN k) := by
  have h := run_convert_bytes_back (P := P) ((putRow TF (w.alloc o) w.heap.size off dk).drewN k) ts tr te ⟨w.heap.size, off, none⟩ cap (Lib.decDigits u) h1 h2 h3 (λj hj => by
    rw [Lib.row_is_numeral hF j hj, Lib.add_plain, World.cell?_drewN]
    exact cell?_putRow TF _ w.heap.size off _ dk hH (by rw [hF.size, Array.size_replicate]) j (by rw [hF.size]; rw [Lib.decDigits_length] at hj; exact hj))
  rw [Lib.decDigits_length] at h
  exact h
/-- a number in decimal digits -/
theorem Tryd.Acg (u : Nat) (hu : u < 18446744073709551616) (w : World) (hT : ∀ j : Nat, j < 20 -> w.cell? ⟨2, j, none⟩ = some (.int .u64 ((10 ^ j : Nat) : Int))) :
    Calls Tryd.prog 46 #[.int .u64 u, .int .i64 10] w λe w' => e = .returned (.string ⟨(Lib.decDigits u).toArray⟩) /\ Below w.heap.size w w' := by
  have mixed := Tryd.Vk.mixed
  have t22 := Tryd.underlying22; have a22 := Tryd.isAgg22; have z22 := Tryd.sizeOf22; have v22 := Tryd.zeroValue22
  have t3 := Tryd.underlying3; have a3 := Tryd.isAgg3; have z3 := Tryd.sizeOf3; have v3 := Tryd.zeroValue3
  have t4 := Tryd.underlying4; have a4 := Tryd.isAgg4; have z4 := Tryd.sizeOf4; have v4 := Tryd.zeroValue4
  have t9 := Tryd.underlying9; have a9 := Tryd.isAgg9; have z9 := Tryd.sizeOf9; have v9 := Tryd.zeroValue9
  have t0 := Tryd.underlying0; have a0 := Tryd.isAgg0; have z0 := Tryd.sizeOf0; have v0 := Tryd.zeroValue0
  have t113 := Tryd.underlying113; have a113 := Tryd.isAgg113; have z113 := Tryd.sizeOf113; have v113 := Tryd.zeroValue113
  have t28 := Tryd.underlying28; have a28 := Tryd.isAgg28; have z28 := Tryd.sizeOf28; have v28 := Tryd.zeroValue28
  have t5 := Tryd.underlying5; have a5 := Tryd.isAgg5; have z5 := Tryd.sizeOf5; have v5 := Tryd.zeroValue5
  have t116 := Tryd.underlying116; have a116 := Tryd.isAgg116; have z116 := Tryd.sizeOf116; have v116 := Tryd.zeroValue116
  have e62 : ∀ args w, (callFunc 62 args).run Tryd.prog w = .ok (.enter 62 args) w := enters_of Tryd.func62 (by kernel_rfl) rfl
  have e63 : ∀ args w, (callFunc 63 args).run Tryd.prog w = .ok (.enter 63 args) w := enters_of Tryd.func63 (by kernel_rfl) rfl
  have e64 : ∀ args w, (callFunc 64 args).run Tryd.prog w = .ok (.enter 64 args) w := enters_of Tryd.func64 (by kernel_rfl) rfl
  by_cases hs : u < 100
  · go_enter Tryd.func46, Tryd.ntmps46
    go_wp2_with (go_at_fn 62; refine (Tryd.internal_strconv_small u hs _).mono ?_; rintro e w' ⟨rfl, rfl⟩)
    go_ret
    exact ⟨rfl, Below.refl _ _⟩
  · have hu1 : 1 <= u := by omega
    have hnd20 := Ys hu1 hu
    have hal : Tryd.prog.arrayLen 113 = 24 := by simp [Program.arrayLen, t113]
    have hsl1 : ∀ W, (Instr.sliceAt 113 (.pointer (some ⟨w.heap.size, 0, none⟩)) none (some (.int .i64 (Lib.nDigits u : Int))) none).run Tryd.prog W = .ok (.slice (some ⟨w.heap.size, 0, none⟩) (Lib.nDigits u) 24) W := λW => by
      rw [run_sliceAt_array_h W 113 ⟨w.heap.size, 0, none⟩ (by simp [Program.arrayLen, Program.elem, t113]) .i64 (Lib.nDigits u : Int) (by omega) (by rw [hal]; omega)]
      go_simp
    have hH0 := YC w 113 0 (Lib.nDigits u) (by omega)
    have hfmt := Tryd.internal_strconv_formatBase10 w.heap.size 0 24 u (Array.replicate (Lib.nDigits u) 0) (w.alloc (.cells Lib.zeros24 113)) hH0 (by rw [Array.size_replicate]; exact Lib.lt_pow_nDigits u) hu (by rw [Array.size_replicate]; omega)
    rw [Array.size_replicate] at hfmt
    have HH0 := Lib.hid hH0
    have HT := Lib.hid hT
    clear hH0 hal hT
    go_enter Tryd.func46, Tryd.ntmps46
    go_wp2_with (go_at_fn 63; refine (Tryd.Wf u hu1 hu _ (Xp HT.out _)).mono ?_; rintro e w' ⟨rfl, rfl⟩)
    go_at_fn 64
    refine hfmt.mono ?_
    rintro e w' ⟨rfl, k, v', dk, rfl, hF⟩
    have hcv := ZF (P := Tryd.prog) (cap := 24) (k := k) HH0.out hF t28 t5 t9
    go_wp2
    go_ret
    exact ⟨rfl, Xl _ _ _ _ _⟩
theorem AaL (w : World) (o : Obj) (off k : Nat) (dk : Array UInt8) (j : Nat) (v : Value) : Below w.heap.size w (((putRow TF (w.alloc o) w.heap.size off dk).drewN k).setCell ⟨w.heap.size, j, none⟩ v) :=
  (Xl w o off k dk).setCell (Nat.le_refl _) v
/-- '-' and the bytes behind it become a string -/
theorem Abl {P : Program} {w : World} {k u v' ts tr te t : Nat} {dk : Array UInt8} (hH : Holds TF (w.alloc (.cells Lib.zeros24 t)) w.heap.size 1 (Array.replicate (Lib.nDigits u) 0)) (hF : FmtInv (Lib.nDigits u) u 0 v' dk)
    (h1 : P.underlying ts = some (.slice te)) (h2 : P.underlying te = some (.int .u8)) (h3 : P.underlying tr = some .string) :
    ((putRow TF (w.alloc (.cells Lib.zeros24 t)) w.heap.size 1 dk).drewN k).cell? ⟨w.heap.size, 0, none⟩ = some (.int .u8 0) /\ ((putRow TF (w.alloc (.cells Lib.zeros24 t)) w.heap.size 1 dk).drewN k).frozen? ⟨w.heap.size, 0, none⟩ = false /\
    (convert ts tr (.slice (some ⟨w.heap.size, 0, none⟩) (1 + Lib.nDigits u) 24)).run P (((putRow TF (w.alloc (.cells Lib.zeros24 t)) w.heap.size 1 dk).drewN k).setCell ⟨w.heap.size, 0, none⟩ (.int .u8 45)) =
      .ok (.string ⟨(45 :: Lib.decDigits u).toArray⟩) (((putRow TF (w.alloc (.cells Lib.zeros24 t)) w.heap.size 1 dk).drewN k).setCell ⟨w.heap.size, 0, none⟩ (.int .u8 45)) := by
  have hc0 : ((putRow TF (w.alloc (.cells Lib.zeros24 t)) w.heap.size 1 dk).drewN k).cell? ⟨w.heap.size, 0, none⟩ = some (.int .u8 0) := by
    rw [World.cell?_drewN, cell?_putRow_other _ _ _ _ _ _ (Or.inr (Or.inl (Nat.zero_lt_one))), World.cell?_alloc_new]
    exact Lib.zeros24_at 0 (by omega)
  refine ⟨hc0, by rw [World.frozen?_drewN, frozen?_putRow]; exact World.frozen?_alloc_new _ _ _ _, ?_⟩
  have h := run_convert_bytes_back (P := P) (((putRow TF (w.alloc (.cells Lib.zeros24 t)) w.heap.size 1 dk).drewN k).setCell ⟨w.heap.size, 0, none⟩ (.int .u8 45)) ts tr te ⟨w.heap.size, 0, none⟩ 24 (45 :: Lib.decDigits u) h1 h2 h3 (λj hj => by
    rw [Lib.add_plain]
    cases j with
    | zero => exact World.cell?_setCell_same _ _ _ hc0
    | succ i =>
      have hi : i < (Lib.decDigits u).length := by simpa using hj
      rw [World.cell?_setCell_other _ _ _ _ (by simp), List.getElem_cons_succ, Lib.row_is_numeral hF i hi, World.cell?_drewN, show 0 + (i + 1) = 1 + i by omega]
      exact cell?_putRow TF _ w.heap.size 1 _ dk hH (by rw [hF.size, Array.size_replicate]) i (by rw [hF.size]; rw [Lib.decDigits_length] at hi; exact hi))
  rw [List.length_cons, Lib.decDigits_length, Nat.add_comm] at h
  exact h
/-- a number with its sign in decimal digits -/
theorem Tryd.Acf (n : Int) (h0 : -9223372036854775808 <= n) (h1 : n <= 9223372036854775807) (w : World) (hT : ∀ j : Nat, j < 20 -> w.cell? ⟨2, j, none⟩ = some (.int .u64 ((10 ^ j : Nat) : Int))) :
    Calls Tryd.prog 66 #[.int .i64 n, .int .i64 10] w λe w' => e = .returned (.string ⟨(Lib.itoa n).toArray⟩) /\ Below w.heap.size w w' := by
  have mixed := Tryd.Vk.mixed
  have t2 := Tryd.underlying2; have a2 := Tryd.isAgg2; have z2 := Tryd.sizeOf2; have v2 := Tryd.zeroValue2
  have t22 := Tryd.underlying22; have a22 := Tryd.isAgg22; have z22 := Tryd.sizeOf22; have v22 := Tryd.zeroValue22
  have t3 := Tryd.underlying3; have a3 := Tryd.isAgg3; have z3 := Tryd.sizeOf3; have v3 := Tryd.zeroValue3
  have t4 := Tryd.underlying4; have a4 := Tryd.isAgg4; have z4 := Tryd.sizeOf4; have v4 := Tryd.zeroValue4
  have t9 := Tryd.underlying9; have a9 := Tryd.isAgg9; have z9 := Tryd.sizeOf9; have v9 := Tryd.zeroValue9
  have t0 := Tryd.underlying0; have a0 := Tryd.isAgg0; have z0 := Tryd.sizeOf0; have v0 := Tryd.zeroValue0
  have t113 := Tryd.underlying113; have a113 := Tryd.isAgg113; have z113 := Tryd.sizeOf113; have v113 := Tryd.zeroValue113
  have t28 := Tryd.underlying28; have a28 := Tryd.isAgg28; have z28 := Tryd.sizeOf28; have v28 := Tryd.zeroValue28
  have t5 := Tryd.underlying5; have a5 := Tryd.isAgg5; have z5 := Tryd.sizeOf5; have v5 := Tryd.zeroValue5
  have t116 := Tryd.underlying116; have a116 := Tryd.isAgg116; have z116 := Tryd.sizeOf116; have v116 := Tryd.zeroValue116
  have e62 : ∀ args w, (callFunc 62 args).run Tryd.prog w = .ok (.enter 62 args) w := enters_of Tryd.func62 (by kernel_rfl) rfl
  have e63 : ∀ args w, (callFunc 63 args).run Tryd.prog w = .ok (.enter 63 args) w := enters_of Tryd.func63 (by kernel_rfl) rfl
  have e64 : ∀ args w, (callFunc 64 args).run Tryd.prog w = .ok (.enter 64 args) w := enters_of Tryd.func64 (by kernel_rfl) rfl
  by_cases hs : 0 <= n /\ n < 100
  · obtain ⟨i, rfl⟩ : ∃ i : Nat, n = i := ⟨n.toNat, by omega⟩
    have hi : i < 100 := by omega
    go_enter Tryd.func66, Tryd.ntmps66
    go_wp2_with (go_at_fn 62; refine (Tryd.internal_strconv_small i hi _).mono ?_; rintro e w' ⟨rfl, rfl⟩)
    go_ret
    rw [Lib.itoa_nonneg]
    exact ⟨rfl, Below.refl _ _⟩
  · obtain ⟨u, hu⟩ : ∃ u : Nat, n = u \/ n = -(u : Int) /\ n < 0 := ⟨n.natAbs, by omega⟩
    have hu1 : 1 <= u := by omega
    have hu64 : u < 18446744073709551616 := by omega
    have hnd20 := Ys hu1 hu64
    have hb3 : Lib.nDigits u <= 23 := by omega
    have hal : Tryd.prog.arrayLen 113 = 24 := by simp [Program.arrayLen, t113]
    have hsl1 : ∀ W, (Instr.sliceAt 113 (.pointer (some ⟨w.heap.size, 0, none⟩)) (some (.int .i64 1)) (some (.int .i64 (1 + (Lib.nDigits u : Int)))) none).run Tryd.prog W = .ok (.slice (some ⟨w.heap.size, 1, none⟩) (Lib.nDigits u) 23) W := λW => by
      rw [run_sliceAt_array_lh W 113 ⟨w.heap.size, 0, none⟩ (by simp [Program.arrayLen, Program.elem, t113]) .i64 .i64 1 (1 + (Lib.nDigits u : Int)) (by omega) (by omega) (by rw [hal]; omega)]
      go_simp
      omega
    have hsl2 : ∀ W, (Instr.sliceAt 113 (.pointer (some ⟨w.heap.size, 0, none⟩)) none (some (.int .i64 (1 + (Lib.nDigits u : Int)))) none).run Tryd.prog W = .ok (.slice (some ⟨w.heap.size, 0, none⟩) (1 + Lib.nDigits u) 24) W := λW => by
      rw [run_sliceAt_array_h W 113 ⟨w.heap.size, 0, none⟩ (by simp [Program.arrayLen, Program.elem, t113]) .i64 (1 + (Lib.nDigits u : Int)) (by omega) (by rw [hal]; omega)]
      go_simp
      omega
    have hH0 := YC w 113 1 (Lib.nDigits u) (by omega)
    have hfmt := Tryd.internal_strconv_formatBase10 w.heap.size 1 23 u (Array.replicate (Lib.nDigits u) 0) (w.alloc (.cells Lib.zeros24 113)) hH0 (by rw [Array.size_replicate]; exact Lib.lt_pow_nDigits u) hu64 (by rw [Array.size_replicate]; omega)
    rw [Array.size_replicate] at hfmt
    have HH0 := Lib.hid hH0
    have HT := Lib.hid hT
    clear hH0 hal hT
    rcases hu with rfl | ⟨rfl, hneg⟩
    · go_enter Tryd.func66, Tryd.ntmps66
      go_wp2_with (go_at_fn 63; refine (Tryd.Wf u hu1 hu64 _ (Xp HT.out _)).mono ?_; rintro e w' ⟨rfl, rfl⟩)
      go_at_fn 64
      refine hfmt.mono ?_
      rintro e w' ⟨rfl, k, v', dk, rfl, hF⟩
      have hcv := ZF (P := Tryd.prog) (cap := 23) (k := k) HH0.out hF t28 t5 t9
      go_wp2
      go_ret
      rw [Lib.itoa_nonneg]
      exact ⟨rfl, Xl _ _ _ _ _⟩
    · have hwr : IntKind.u64.wrap (-IntKind.u64.wrap (-(u : Int))) = (u : Int) := by rw [IntKind.wrap_u64, IntKind.wrap_u64]; omega
      go_enter Tryd.func66, Tryd.ntmps66
      go_wp2_with (go_at_fn 63; refine (Tryd.Wf u hu1 hu64 _ (Xp HT.out _)).mono ?_; rintro e w' ⟨rfl, rfl⟩)
      go_at_fn 64
      refine hfmt.mono ?_
      rintro e w' ⟨rfl, k, v', dk, rfl, hF⟩
      obtain ⟨hc0, hf0, hcv⟩ := Abl (P := Tryd.prog) (k := k) HH0.out hF t28 t5 t9
      go_wp2
      go_ret
      rw [Lib.itoa_neg u hu1]
      exact ⟨rfl, AaL _ _ _ _ _ _ _⟩
theorem Tryd.AbD (n : Int) (h0 : -9223372036854775808 <= n) (h1 : n <= 9223372036854775807) (w : World) (hT : ∀ j : Nat, j < 20 -> w.cell? ⟨2, j, none⟩ = some (.int .u64 ((10 ^ j : Nat) : Int))) :
    Calls Tryd.prog 47 #[.int .i64 n] w λe w' => e = .returned (.string ⟨(Lib.itoa n).toArray⟩) /\ Below w.heap.size w w' := by
  have mixed := Tryd.Vk.mixed
  have t2 := Tryd.underlying2; have a2 := Tryd.isAgg2; have z2 := Tryd.sizeOf2; have v2 := Tryd.zeroValue2
  have t3 := Tryd.underlying3; have a3 := Tryd.isAgg3; have z3 := Tryd.sizeOf3; have v3 := Tryd.zeroValue3
  have t9 := Tryd.underlying9; have a9 := Tryd.isAgg9; have z9 := Tryd.sizeOf9; have v9 := Tryd.zeroValue9
  have e66 : ∀ args w, (callFunc 66 args).run Tryd.prog w = .ok (.enter 66 args) w := enters_of Tryd.func66 (by kernel_rfl) rfl
  have HT := Lib.hid hT
  clear hT
  go_enter Tryd.func47, Tryd.ntmps47
  go_wp2_with (go_at_fn 66; refine (Tryd.Acf n h0 h1 _ HT.out).mono ?_; rintro e w' ⟨rfl, hb⟩)
  go_ret
  exact ⟨rfl, hb⟩
theorem Tryd.Ach (n : Int) (h0 : -9223372036854775808 <= n) (h1 : n <= 9223372036854775807) (w : World) (hT : ∀ j : Nat, j < 20 -> w.cell? ⟨2, j, none⟩ = some (.int .u64 ((10 ^ j : Nat) : Int))) :
    Calls Tryd.prog 22 #[.int .i64 n] w λe w' => e = .returned (.string ⟨(Lib.itoa n).toArray⟩) /\ Below w.heap.size w w' := by
  have mixed := Tryd.Vk.mixed
  have t2 := Tryd.underlying2; have a2 := Tryd.isAgg2; have z2 := Tryd.sizeOf2; have v2 := Tryd.zeroValue2
  have t3 := Tryd.underlying3; have a3 := Tryd.isAgg3; have z3 := Tryd.sizeOf3; have v3 := Tryd.zeroValue3
  have t9 := Tryd.underlying9; have a9 := Tryd.isAgg9; have z9 := Tryd.sizeOf9; have v9 := Tryd.zeroValue9
  have e47 : ∀ args w, (callFunc 47 args).run Tryd.prog w = .ok (.enter 47 args) w := enters_of Tryd.func47 (by kernel_rfl) rfl
  have HT := Lib.hid hT
  clear hT
  go_enter Tryd.func22, Tryd.ntmps22
  go_wp2_with (go_at_fn 47; refine (Tryd.AbD n h0 h1 _ HT.out).mono ?_; rintro e w' ⟨rfl, hb⟩)
  go_ret
  exact ⟨rfl, hb⟩
theorem Tryd.AbN (u : Nat) (hu : u < 18446744073709551616) (w : World) (hT : ∀ j : Nat, j < 20 -> w.cell? ⟨2, j, none⟩ = some (.int .u64 ((10 ^ j : Nat) : Int))) :
    Calls Tryd.prog 21 #[.int .u64 u, .int .i64 10] w λe w' => e = .returned (.string ⟨(Lib.decDigits u).toArray⟩) /\ Below w.heap.size w w' := by
  have mixed := Tryd.Vk.mixed
  have t22 := Tryd.underlying22; have a22 := Tryd.isAgg22; have z22 := Tryd.sizeOf22; have v22 := Tryd.zeroValue22
  have t3 := Tryd.underlying3; have a3 := Tryd.isAgg3; have z3 := Tryd.sizeOf3; have v3 := Tryd.zeroValue3
  have t9 := Tryd.underlying9; have a9 := Tryd.isAgg9; have z9 := Tryd.sizeOf9; have v9 := Tryd.zeroValue9
  have e46 : ∀ args w, (callFunc 46 args).run Tryd.prog w = .ok (.enter 46 args) w := enters_of Tryd.func46 (by kernel_rfl) rfl
  have HT := Lib.hid hT
  clear hT
  go_enter Tryd.func21, Tryd.ntmps21
  go_wp2_with (go_at_fn 46; refine (Tryd.Acg u hu _ HT.out).mono ?_; rintro e w' ⟨rfl, hb⟩)
  go_ret
  exact ⟨rfl, hb⟩

end Go.Proofs
namespace Go.Proofs.YtbnconokpjdnjaaDoor
open Go Go.Dw Go.Proofs Go.Sort Go.RowKit
theorem AcI : QU Tryd.prog 105 AaR := AaS (g := 6) ⟨Tryd.f105, Tryd.func105, by decide, rfl⟩ (by kernel_rfl) λx w hx hT => Any7.bits_TrailingZeros64 Tryd.Abk x hx w hT
theorem Zz : QU Tryd.prog 22 Xt := Aay (g := 2) ⟨Tryd.f22, Tryd.func22, by decide, rfl⟩ (by kernel_rfl) λn h0 h1 w hT => Tryd.Ach n h0 h1 w hT
theorem Abf : QU Tryd.prog 21 YG := Aat (g := 2) ⟨Tryd.f21, Tryd.func21, by decide, rfl⟩ (by kernel_rfl) λu hu w hT => Tryd.AbN u hu w hT
theorem Abj : QU Tryd.prog 23 YH := Aaz ⟨Tryd.f23, Tryd.func23, by decide, rfl⟩ (λa c s w => Tryd.strings_Join_none a c s w) λb o c xs s w h1 h2 h3 h4 h5 => Tryd.strings_Join b o c xs s w h1 h2 h3 h4 h5
abbrev Abw : Dw.Spec := Ue (Abb 79 5)
abbrev Abu : Dw.Spec := Ue (AaX 79 5)
abbrev Abv : Dw.Spec := Ue (AaZ 79 5)
theorem Acd : QU Tryd.prog 35 Abw := Abc ⟨Tryd.f35, Tryd.func35, by decide, rfl⟩ λb l s w h hl => AaD { Tryd.Xu with } Tryd.TU b l s w h hl
theorem AbZ : QU Tryd.prog 36 Abu := AaY ⟨Tryd.f36, Tryd.func36, by decide, rfl⟩ λb l w h => Any.Builder_Len_f Tryd.Aah 0 b (Lib.byteCells l) w h
theorem Acb : QU Tryd.prog 37 Abv := Aba ⟨Tryd.f37, Tryd.func37, by decide, rfl⟩ λb l w h h0 => AaW { Tryd.Xu with } Tryd.TU b l w h h0
end Go.Proofs.YtbnconokpjdnjaaDoor
