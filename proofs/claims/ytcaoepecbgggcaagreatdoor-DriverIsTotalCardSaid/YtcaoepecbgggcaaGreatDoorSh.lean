/-
  The library functions that write a slice in place: what they do, at this program.
-/
import Derived.Shelf.Slices.CompactI
import Derived.Shelf.Slices.In.SortNone
import Derived.Shelf.Sort.Plain
import Derived.Test.YtcaoepecbgggcaaGreatDoorProg
import Derived.Test.YtcaoepecbgggcaaGreatDoorDc
open Go.Value renaming int->aA
namespace Go.Proofs
open Go.Shelf
def Tryz.Arv:Go.Shelf.Ren:=⟨fun|189=>276|125=>280|257=>279|128=>290|129=>291|294=>281|295=>282|296=>283|297=>284|298=>285|299=>286|216=>287|300=>288|301=>289|328=>292|329=>293|330=>294|331=>295|332=>296|215=>297|343=>298|n=>n, fun|28=>37|3=>3|46=>265|0=>0|51=>280|53=>88|4=>4|183=>274|182=>273|131=>171|5=>5|9=>9|218=>281|222=>284|228=>286|229=>287|n=>n, fun|n=>n⟩
theorem Tryz.ArR:Go.Proofs.Lays.n189 Tryz.prog Tryz.Arv:={
  mixed:=by kernel_rfl
  f125:=Tryz.func280.trans (congrArg some (by kernel_rfl))
  f128:=Tryz.func290.trans (congrArg some (by kernel_rfl))
  f129:=Tryz.func291.trans (congrArg some (by kernel_rfl))
  f189:=Tryz.func276.trans (congrArg some (by kernel_rfl))
  f215:=Tryz.func297.trans (congrArg some (by kernel_rfl))
  f216:=Tryz.func287.trans (congrArg some (by kernel_rfl))
  f257:=Tryz.func279.trans (congrArg some (by kernel_rfl))
  f294:=Tryz.func281.trans (congrArg some (by kernel_rfl))
  f295:=Tryz.func282.trans (congrArg some (by kernel_rfl))
  f296:=Tryz.func283.trans (congrArg some (by kernel_rfl))
  f297:=Tryz.func284.trans (congrArg some (by kernel_rfl))
  f298:=Tryz.func285.trans (congrArg some (by kernel_rfl))
  f299:=Tryz.func286.trans (congrArg some (by kernel_rfl))
  f300:=Tryz.func288.trans (congrArg some (by kernel_rfl))
  f301:=Tryz.func289.trans (congrArg some (by kernel_rfl))
  f328:=Tryz.func292.trans (congrArg some (by kernel_rfl))
  f329:=Tryz.func293.trans (congrArg some (by kernel_rfl))
  f330:=Tryz.func294.trans (congrArg some (by kernel_rfl))
  f331:=Tryz.func295.trans (congrArg some (by kernel_rfl))
  f332:=Tryz.func296.trans (congrArg some (by kernel_rfl))
  f343:=Tryz.func298.trans (congrArg some (by kernel_rfl))
  t0:=Tryz.underlying0
  a0:=Tryz.isAgg0
  z0:=Tryz.sizeOf0
  v0:=Tryz.zeroValue0
  t3:=Tryz.underlying3
  a3:=Tryz.isAgg3
  z3:=Tryz.sizeOf3
  v3:=Tryz.zeroValue3
  t4:=Tryz.underlying4
  a4:=Tryz.isAgg4
  z4:=Tryz.sizeOf4
  v4:=Tryz.zeroValue4
  t5:=Tryz.underlying5
  a5:=Tryz.isAgg5
  z5:=Tryz.sizeOf5
  v5:=Tryz.zeroValue5
  t9:=Tryz.underlying9
  a9:=Tryz.isAgg9
  z9:=Tryz.sizeOf9
  v9:=Tryz.zeroValue9
  t28:=Tryz.underlying37
  a28:=Tryz.isAgg37
  z28:=Tryz.sizeOf37
  v28:=Tryz.zeroValue37
  t46:=Tryz.underlying265
  a46:=Tryz.isAgg265
  z46:=Tryz.sizeOf265
  v46:=Tryz.zeroValue265
  t51:=Tryz.underlying280
  a51:=Tryz.isAgg280
  z51:=Tryz.sizeOf280
  v51:=Tryz.zeroValue280
  t53:=Tryz.underlying88
  a53:=Tryz.isAgg88
  z53:=Tryz.sizeOf88
  v53:=Tryz.zeroValue88
  t131:=Tryz.underlying171
  a131:=Tryz.isAgg171
  z131:=Tryz.sizeOf171
  v131:=Tryz.zeroValue171
  t182:=Tryz.underlying273
  a182:=Tryz.isAgg273
  z182:=Tryz.sizeOf273
  v182:=Tryz.zeroValue273
  t183:=Tryz.underlying274
  a183:=Tryz.isAgg274
  z183:=Tryz.sizeOf274
  v183:=Tryz.zeroValue274
  t218:=Tryz.underlying281
  a218:=Tryz.isAgg281
  z218:=Tryz.sizeOf281
  v218:=Tryz.zeroValue281
  t222:=Tryz.underlying284
  a222:=Tryz.isAgg284
  z222:=Tryz.sizeOf284
  v222:=Tryz.zeroValue284
  t228:=Tryz.underlying286
  a228:=Tryz.isAgg286
  z228:=Tryz.sizeOf286
  v228:=Tryz.zeroValue286
  t229:=Tryz.underlying287
  a229:=Tryz.isAgg287
  z229:=Tryz.sizeOf287
  v229:=Tryz.zeroValue287 }
open Go.Sort Go.RowKit in
theorem Tryz.slices_Sort_int (blk off cap:Nat) (zs:List Int) (w:World) (hH:Holds (aA .i64) w blk off zs.toArray) (hblk:blk<w.heap.size) (hsz:zs.length<4611686018427387904) :
    Calls Tryz.prog 276 #[.slice (some ⟨blk, off, none⟩) zs.length cap] w λe w' =>
      e= .returned (.tuple #[])/\∃ n os, w'=grow (putRow (aA .i64) (Sort.ahead w n) blk off (zs.mergeSort λx y=>decide (x<=y)).toArray) os:=Any.slices_Sort_int Tryz.ArR blk off cap zs w hH hblk hsz
open Go.RowKit Go.Sort in
theorem Tryz.slices_Sort_int_none (p:Option Addr) (cap:Nat) (w:World) :
    Calls Tryz.prog 276 #[.slice p 0 cap] w λe w'=>e= .returned (.tuple #[])/\w'=w:=Any.slices_Sort_int_none Tryz.ArR p cap w
def Tryz.Apf:Go.Shelf.Ren:=⟨fun|20=>277|n=>n, fun|22=>37|3=>3|4=>4|0=>0|n=>n, fun|n=>n⟩
theorem Tryz.AoN:Go.Proofs.Lays2.n20 Tryz.prog Tryz.Apf:={
  mixed:=by kernel_rfl
  f20:=Tryz.func277.trans (congrArg some (by kernel_rfl))
  t0:=Tryz.underlying0
  a0:=Tryz.isAgg0
  z0:=Tryz.sizeOf0
  v0:=Tryz.zeroValue0
  t3:=Tryz.underlying3
  a3:=Tryz.isAgg3
  z3:=Tryz.sizeOf3
  v3:=Tryz.zeroValue3
  t4:=Tryz.underlying4
  a4:=Tryz.isAgg4
  z4:=Tryz.sizeOf4
  v4:=Tryz.zeroValue4
  t22:=Tryz.underlying37
  a22:=Tryz.isAgg37
  z22:=Tryz.sizeOf37
  v22:=Tryz.zeroValue37
  i3:=by kernel_rfl }
open Go.RowKit Go.Lib Go.Sort in
theorem Tryz.slices_Compact_int (blk off cap:Nat) (zs:List Int) (w:World) (hH:Holds (aA .i64) w blk off zs.toArray) (hsz:zs.length<=9223372036854775807) (hcap:zs.length<=cap) :
    Calls Tryz.prog 277 #[.slice (some ⟨blk, off, none⟩) zs.length cap] w λe w'=>e= .returned (.slice (some ⟨blk, off, none⟩) (Lib.compact zs).length cap)/\∃ q, w'=putRow (aA .i64) (Sort.ahead w q) blk off (Lib.compact zs++List.replicate (zs.length-(Lib.compact zs).length) 0).toArray:=Any.slices_Compact_int Tryz.AoN blk off cap zs w hH hsz hcap
open Go.RowKit Go.Lib Go.Sort in
theorem Tryz.slices_Compact_int_empty (a:Option Addr) (cap:Nat) (w:World) :
    Calls Tryz.prog 277 #[.slice a 0 cap] w λe w'=>e= .returned (.slice a 0 cap)/\w'=w:=Any.slices_Compact_int_empty Tryz.AoN a cap w
def Tryz.Aqx:Go.Shelf.Ren:=⟨fun|29=>262|n=>n, fun|0=>0|3=>3|4=>4|5=>5|22=>88|25=>265|54=>269|n=>n, fun|1=>1|n=>n⟩
theorem Tryz.AvU:Go.Proofs.Lays7.n29 Tryz.prog Tryz.Aqx:={
  mixed:=by kernel_rfl
  f29:=Tryz.func262.trans (congrArg some (by kernel_rfl))
  t0:=Tryz.underlying0
  a0:=Tryz.isAgg0
  z0:=Tryz.sizeOf0
  v0:=Tryz.zeroValue0
  i0:=by kernel_rfl
  t3:=Tryz.underlying3
  a3:=Tryz.isAgg3
  z3:=Tryz.sizeOf3
  v3:=Tryz.zeroValue3
  i3:=by kernel_rfl
  t4:=Tryz.underlying4
  a4:=Tryz.isAgg4
  z4:=Tryz.sizeOf4
  v4:=Tryz.zeroValue4
  i4:=by kernel_rfl
  t5:=Tryz.underlying5
  a5:=Tryz.isAgg5
  z5:=Tryz.sizeOf5
  v5:=Tryz.zeroValue5
  i5:=by kernel_rfl
  t22:=Tryz.underlying88
  a22:=Tryz.isAgg88
  z22:=Tryz.sizeOf88
  v22:=Tryz.zeroValue88
  i22:=by kernel_rfl
  t25:=Tryz.underlying265
  a25:=Tryz.isAgg265
  z25:=Tryz.sizeOf265
  v25:=Tryz.zeroValue265
  i25:=by kernel_rfl
  t54:=Tryz.underlying269
  a54:=Tryz.isAgg269
  z54:=Tryz.sizeOf269
  g1:=by kernel_rfl }

end Go.Proofs
namespace Go.Proofs.YtcaoepecbgggcaaGreatDoor
open Go Go.Dw Go.Proofs Go.Sort
def AhV:Dw.Spec:=Aub false (YO) (λ_=>0)
theorem AgU:Ns Tryz.prog 276 AhV:=λ_ hG =>
  ⟨⟨Tryz.f276, Tryz.func276, by decide, rfl⟩, λq hq=>by
    cases hq
    exact AlJ (λzs=>⟨AqU zs, Nat.zero_le _⟩) (λw a cap=>Tryz.slices_Sort_int_none a cap w) (λblk off cap zs w hH hb hs hc=>Tryz.slices_Sort_int blk off cap zs w hH hb hs), (λh=>by cases h), (λφ hφ=>by cases hφ), hG⟩
def Afu:Dw.Spec:=Aub true (AaY) (λzs=>(Lib.compact zs).length)
theorem Aex:Ns Tryz.prog 277 Afu:=λ_ hG =>
  ⟨⟨Tryz.f277, Tryz.func277, by decide, rfl⟩, λq hq=>by
    cases hq
    exact AlJ (λzs=>⟨Amb zs, Ahg zs⟩) (λw a cap=>Tryz.slices_Compact_int_empty a cap w) (λblk off cap zs w hH hb hs hc=>(Tryz.slices_Compact_int blk off cap zs w hH (by omega) hc).mono (by rintro e w1 ⟨rfl, n, rfl⟩;exact⟨rfl, n, #[], by simp[AaY]⟩)), (λh=>by cases h), (λφ hφ=>by cases hφ), hG⟩
theorem AxR:Ns Tryz.prog 262 AuL:=AuM (g:=1) ⟨Tryz.f262, Tryz.func262, by decide, rfl⟩ (by kernel_rfl) λx w hx hT=>Any7.bits_TrailingZeros64 Tryz.AvU x hx w hT
end Go.Proofs.YtcaoepecbgggcaaGreatDoor
