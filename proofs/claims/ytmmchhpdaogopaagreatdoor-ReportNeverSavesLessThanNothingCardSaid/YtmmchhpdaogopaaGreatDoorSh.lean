/-
  The library functions that write a slice in place: what they do, at this program.
-/
import Derived.Shelf.Slices.CompactI
import Derived.Shelf.Slices.In.SortNone
import Derived.Shelf.Sort.Plain
import Derived.Test.YtmmchhpdaogopaaGreatDoorProg
import Derived.Test.YtmmchhpdaogopaaGreatDoorDc
open Go.Value renaming int->aA
namespace Go.Proofs
open Go.Shelf
def Tryz.Apt:Go.Shelf.Ren:=⟨fun|189=>258|125=>262|257=>261|128=>272|129=>273|294=>263|295=>264|296=>265|297=>266|298=>267|299=>268|216=>269|300=>270|301=>271|328=>274|329=>275|330=>276|331=>277|332=>278|215=>279|343=>280|n=>n, fun|28=>38|3=>3|46=>236|0=>0|51=>273|53=>51|4=>4|183=>267|182=>266|131=>144|5=>5|9=>9|218=>274|222=>277|228=>279|229=>280|n=>n, fun|n=>n⟩
theorem Tryz.ApT:Go.Proofs.Lays.n189 Tryz.prog Tryz.Apt:={
  mixed:=by kernel_rfl
  f125:=Tryz.func262.trans (congrArg some (by kernel_rfl))
  f128:=Tryz.func272.trans (congrArg some (by kernel_rfl))
  f129:=Tryz.func273.trans (congrArg some (by kernel_rfl))
  f189:=Tryz.func258.trans (congrArg some (by kernel_rfl))
  f215:=Tryz.func279.trans (congrArg some (by kernel_rfl))
  f216:=Tryz.func269.trans (congrArg some (by kernel_rfl))
  f257:=Tryz.func261.trans (congrArg some (by kernel_rfl))
  f294:=Tryz.func263.trans (congrArg some (by kernel_rfl))
  f295:=Tryz.func264.trans (congrArg some (by kernel_rfl))
  f296:=Tryz.func265.trans (congrArg some (by kernel_rfl))
  f297:=Tryz.func266.trans (congrArg some (by kernel_rfl))
  f298:=Tryz.func267.trans (congrArg some (by kernel_rfl))
  f299:=Tryz.func268.trans (congrArg some (by kernel_rfl))
  f300:=Tryz.func270.trans (congrArg some (by kernel_rfl))
  f301:=Tryz.func271.trans (congrArg some (by kernel_rfl))
  f328:=Tryz.func274.trans (congrArg some (by kernel_rfl))
  f329:=Tryz.func275.trans (congrArg some (by kernel_rfl))
  f330:=Tryz.func276.trans (congrArg some (by kernel_rfl))
  f331:=Tryz.func277.trans (congrArg some (by kernel_rfl))
  f332:=Tryz.func278.trans (congrArg some (by kernel_rfl))
  f343:=Tryz.func280.trans (congrArg some (by kernel_rfl))
  t0:=Tryz.underlying0
  a0:=Tryz.isAgg0
  z0:=Tryz.sizeOf0
  v0:=Tryz.zeroValue0
  t3:=Tryz.underlying3
  a3:=Tryz.isAgg3
  z3:=Tryz.sizeOf3
  v3:=Tryz.zeroValue3
  t4:=Tryz.underlying4
  a4:=Tryz.isAgg4
  z4:=Tryz.sizeOf4
  v4:=Tryz.zeroValue4
  t5:=Tryz.underlying5
  a5:=Tryz.isAgg5
  z5:=Tryz.sizeOf5
  v5:=Tryz.zeroValue5
  t9:=Tryz.underlying9
  a9:=Tryz.isAgg9
  z9:=Tryz.sizeOf9
  v9:=Tryz.zeroValue9
  t28:=Tryz.underlying38
  a28:=Tryz.isAgg38
  z28:=Tryz.sizeOf38
  v28:=Tryz.zeroValue38
  t46:=Tryz.underlying236
  a46:=Tryz.isAgg236
  z46:=Tryz.sizeOf236
  v46:=Tryz.zeroValue236
  t51:=Tryz.underlying273
  a51:=Tryz.isAgg273
  z51:=Tryz.sizeOf273
  v51:=Tryz.zeroValue273
  t53:=Tryz.underlying51
  a53:=Tryz.isAgg51
  z53:=Tryz.sizeOf51
  v53:=Tryz.zeroValue51
  t131:=Tryz.underlying144
  a131:=Tryz.isAgg144
  z131:=Tryz.sizeOf144
  v131:=Tryz.zeroValue144
  t182:=Tryz.underlying266
  a182:=Tryz.isAgg266
  z182:=Tryz.sizeOf266
  v182:=Tryz.zeroValue266
  t183:=Tryz.underlying267
  a183:=Tryz.isAgg267
  z183:=Tryz.sizeOf267
  v183:=Tryz.zeroValue267
  t218:=Tryz.underlying274
  a218:=Tryz.isAgg274
  z218:=Tryz.sizeOf274
  v218:=Tryz.zeroValue274
  t222:=Tryz.underlying277
  a222:=Tryz.isAgg277
  z222:=Tryz.sizeOf277
  v222:=Tryz.zeroValue277
  t228:=Tryz.underlying279
  a228:=Tryz.isAgg279
  z228:=Tryz.sizeOf279
  v228:=Tryz.zeroValue279
  t229:=Tryz.underlying280
  a229:=Tryz.isAgg280
  z229:=Tryz.sizeOf280
  v229:=Tryz.zeroValue280 }
open Go.Sort Go.RowKit in
theorem Tryz.slices_Sort_int (blk off cap:Nat) (zs:List Int) (w:World) (hH:Holds (aA .i64) w blk off zs.toArray) (hblk:blk<w.heap.size) (hsz:zs.length<4611686018427387904) :
    Calls Tryz.prog 258 #[.slice (some ⟨blk, off, none⟩) zs.length cap] w λe w' =>
      e= .returned (.tuple #[])/\∃ n os, w'=grow (putRow (aA .i64) (Sort.ahead w n) blk off (zs.mergeSort λx y=>decide (x<=y)).toArray) os:=Any.slices_Sort_int Tryz.ApT blk off cap zs w hH hblk hsz
open Go.RowKit Go.Sort in
theorem Tryz.slices_Sort_int_none (p:Option Addr) (cap:Nat) (w:World) :
    Calls Tryz.prog 258 #[.slice p 0 cap] w λe w'=>e= .returned (.tuple #[])/\w'=w:=Any.slices_Sort_int_none Tryz.ApT p cap w
def Tryz.AnA:Go.Shelf.Ren:=⟨fun|20=>259|n=>n, fun|22=>38|3=>3|4=>4|0=>0|n=>n, fun|n=>n⟩
theorem Tryz.Anf:Go.Proofs.Lays2.n20 Tryz.prog Tryz.AnA:={
  mixed:=by kernel_rfl
  f20:=Tryz.func259.trans (congrArg some (by kernel_rfl))
  t0:=Tryz.underlying0
  a0:=Tryz.isAgg0
  z0:=Tryz.sizeOf0
  v0:=Tryz.zeroValue0
  t3:=Tryz.underlying3
  a3:=Tryz.isAgg3
  z3:=Tryz.sizeOf3
  v3:=Tryz.zeroValue3
  t4:=Tryz.underlying4
  a4:=Tryz.isAgg4
  z4:=Tryz.sizeOf4
  v4:=Tryz.zeroValue4
  t22:=Tryz.underlying38
  a22:=Tryz.isAgg38
  z22:=Tryz.sizeOf38
  v22:=Tryz.zeroValue38
  i3:=by kernel_rfl }
open Go.RowKit Go.Lib Go.Sort in
theorem Tryz.slices_Compact_int (blk off cap:Nat) (zs:List Int) (w:World) (hH:Holds (aA .i64) w blk off zs.toArray) (hsz:zs.length<=9223372036854775807) (hcap:zs.length<=cap) :
    Calls Tryz.prog 259 #[.slice (some ⟨blk, off, none⟩) zs.length cap] w λe w'=>e= .returned (.slice (some ⟨blk, off, none⟩) (Lib.compact zs).length cap)/\∃ q, w'=putRow (aA .i64) (Sort.ahead w q) blk off (Lib.compact zs++List.replicate (zs.length-(Lib.compact zs).length) 0).toArray:=Any.slices_Compact_int Tryz.Anf blk off cap zs w hH hsz hcap
open Go.RowKit Go.Lib Go.Sort in
theorem Tryz.slices_Compact_int_empty (a:Option Addr) (cap:Nat) (w:World) :
    Calls Tryz.prog 259 #[.slice a 0 cap] w λe w'=>e= .returned (.slice a 0 cap)/\w'=w:=Any.slices_Compact_int_empty Tryz.Anf a cap w
def Tryz.AoC:Go.Shelf.Ren:=⟨fun|29=>205|n=>n, fun|0=>0|3=>3|4=>4|5=>5|22=>51|25=>236|54=>253|n=>n, fun|1=>1|n=>n⟩
theorem Tryz.Aty:Go.Proofs.Lays7.n29 Tryz.prog Tryz.AoC:={
  mixed:=by kernel_rfl
  f29:=Tryz.func205.trans (congrArg some (by kernel_rfl))
  t0:=Tryz.underlying0
  a0:=Tryz.isAgg0
  z0:=Tryz.sizeOf0
  v0:=Tryz.zeroValue0
  i0:=by kernel_rfl
  t3:=Tryz.underlying3
  a3:=Tryz.isAgg3
  z3:=Tryz.sizeOf3
  v3:=Tryz.zeroValue3
  i3:=by kernel_rfl
  t4:=Tryz.underlying4
  a4:=Tryz.isAgg4
  z4:=Tryz.sizeOf4
  v4:=Tryz.zeroValue4
  i4:=by kernel_rfl
  t5:=Tryz.underlying5
  a5:=Tryz.isAgg5
  z5:=Tryz.sizeOf5
  v5:=Tryz.zeroValue5
  i5:=by kernel_rfl
  t22:=Tryz.underlying51
  a22:=Tryz.isAgg51
  z22:=Tryz.sizeOf51
  v22:=Tryz.zeroValue51
  i22:=by kernel_rfl
  t25:=Tryz.underlying236
  a25:=Tryz.isAgg236
  z25:=Tryz.sizeOf236
  v25:=Tryz.zeroValue236
  i25:=by kernel_rfl
  t54:=Tryz.underlying253
  a54:=Tryz.isAgg253
  z54:=Tryz.sizeOf253
  g1:=by kernel_rfl }

end Go.Proofs
namespace Go.Proofs.YtmmchhpdaogopaaGreatDoor
open Go Go.Dw Go.Proofs Go.Sort
def AgD:Dw.Spec:=ArW false (AuE) (λ_=>0)
theorem ApF:NM Tryz.prog 258 AgD:=λ_ hG =>
  ⟨⟨Tryz.f258, Tryz.func258, by decide, rfl⟩, λq hq=>by
    cases hq
    exact AjV (λzs=>⟨Apd zs, Nat.zero_le _⟩) (λw a cap=>Tryz.slices_Sort_int_none a cap w) (λblk off cap zs w hH hb hs hc=>Tryz.slices_Sort_int blk off cap zs w hH hb hs), (λh=>by cases h), (λφ hφ=>by cases hφ), hG⟩
def Aeu:Dw.Spec:=ArW true (Aaj) (λzs=>(Lib.compact zs).length)
theorem AnZ:NM Tryz.prog 259 Aeu:=λ_ hG =>
  ⟨⟨Tryz.f259, Tryz.func259, by decide, rfl⟩, λq hq=>by
    cases hq
    exact AjV (λzs=>⟨Akl zs, AfN zs⟩) (λw a cap=>Tryz.slices_Compact_int_empty a cap w) (λblk off cap zs w hH hb hs hc=>(Tryz.slices_Compact_int blk off cap zs w hH (by omega) hc).mono (by rintro e w1 ⟨rfl, n, rfl⟩;exact⟨rfl, n, #[], by simp[Aaj]⟩)), (λh=>by cases h), (λφ hφ=>by cases hφ), hG⟩
theorem Avz:NM Tryz.prog 205 Asz:=AsA (g:=1) ⟨Tryz.f205, Tryz.func205, by decide, rfl⟩ (by kernel_rfl) λx w hx hT=>Any7.bits_TrailingZeros64 Tryz.Aty x hx w hT
end Go.Proofs.YtmmchhpdaogopaaGreatDoor
