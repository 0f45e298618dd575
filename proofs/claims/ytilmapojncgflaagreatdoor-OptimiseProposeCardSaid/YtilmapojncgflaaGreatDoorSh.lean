/-
  The library functions that write a slice in place: what they do, at this program.
-/
import Derived.Deep.LoopGhost
import Derived.Lib.Walk
import Derived.Shelf.RegionOpenPlain
import Derived.Shelf.Slices.CompactI
import Derived.Shelf.Slices.In.SortNone
import Derived.Shelf.Sort.Plain
import Derived.Shelf.Strconv.Itoa0
import Derived.Sort.WalkB12
import Derived.WalkKit
import Derived.KernelRfl
import Derived.Test.YtilmapojncgflaaGreatDoorProg
import Derived.Test.YtilmapojncgflaaGreatDoorDd
open List renaming getElem?_eq_some_iff->aA
open Option renaming bind_eq_some_iff->aAA
open Go.Value renaming int->aAB
namespace Go.Proofs
open Go.Shelf
def Tryz.AsL:Go.Shelf.Ren:=⟨fun|189=>179|125=>200|257=>202|128=>221|129=>222|294=>223|295=>224|296=>225|297=>226|298=>227|299=>228|216=>194|300=>229|301=>230|328=>240|329=>236|330=>237|331=>241|332=>242|215=>197|343=>245|n=>n, fun|28=>41|3=>3|46=>192|0=>0|51=>217|53=>61|4=>4|183=>211|182=>210|131=>110|5=>5|9=>9|218=>225|222=>228|228=>232|229=>233|n=>n, fun|n=>n⟩
theorem Tryz.Ate:Go.Proofs.Lays.n189 Tryz.prog Tryz.AsL:={
  mixed:=by kernel_rfl
  f125:=Tryz.func200.trans (congrArg some (by kernel_rfl))
  f128:=Tryz.func221.trans (congrArg some (by kernel_rfl))
  f129:=Tryz.func222.trans (congrArg some (by kernel_rfl))
  f189:=Tryz.func179.trans (congrArg some (by kernel_rfl))
  f215:=Tryz.func197.trans (congrArg some (by kernel_rfl))
  f216:=Tryz.func194.trans (congrArg some (by kernel_rfl))
  f257:=Tryz.func202.trans (congrArg some (by kernel_rfl))
  f294:=Tryz.func223.trans (congrArg some (by kernel_rfl))
  f295:=Tryz.func224.trans (congrArg some (by kernel_rfl))
  f296:=Tryz.func225.trans (congrArg some (by kernel_rfl))
  f297:=Tryz.func226.trans (congrArg some (by kernel_rfl))
  f298:=Tryz.func227.trans (congrArg some (by kernel_rfl))
  f299:=Tryz.func228.trans (congrArg some (by kernel_rfl))
  f300:=Tryz.func229.trans (congrArg some (by kernel_rfl))
  f301:=Tryz.func230.trans (congrArg some (by kernel_rfl))
  f328:=Tryz.func240.trans (congrArg some (by kernel_rfl))
  f329:=Tryz.func236.trans (congrArg some (by kernel_rfl))
  f330:=Tryz.func237.trans (congrArg some (by kernel_rfl))
  f331:=Tryz.func241.trans (congrArg some (by kernel_rfl))
  f332:=Tryz.func242.trans (congrArg some (by kernel_rfl))
  f343:=Tryz.func245.trans (congrArg some (by kernel_rfl))
  t0:=Tryz.underlying0
  a0:=Tryz.isAgg0
  z0:=Tryz.sizeOf0
  v0:=Tryz.zeroValue0
  t3:=Tryz.underlying3
  a3:=Tryz.isAgg3
  z3:=Tryz.sizeOf3
  v3:=Tryz.zeroValue3
  t4:=Tryz.underlying4
  a4:=Tryz.isAgg4
  z4:=Tryz.sizeOf4
  v4:=Tryz.zeroValue4
  t5:=Tryz.underlying5
  a5:=Tryz.isAgg5
  z5:=Tryz.sizeOf5
  v5:=Tryz.zeroValue5
  t9:=Tryz.underlying9
  a9:=Tryz.isAgg9
  z9:=Tryz.sizeOf9
  v9:=Tryz.zeroValue9
  t28:=Tryz.underlying41
  a28:=Tryz.isAgg41
  z28:=Tryz.sizeOf41
  v28:=Tryz.zeroValue41
  t46:=Tryz.underlying192
  a46:=Tryz.isAgg192
  z46:=Tryz.sizeOf192
  v46:=Tryz.zeroValue192
  t51:=Tryz.underlying217
  a51:=Tryz.isAgg217
  z51:=Tryz.sizeOf217
  v51:=Tryz.zeroValue217
  t53:=Tryz.underlying61
  a53:=Tryz.isAgg61
  z53:=Tryz.sizeOf61
  v53:=Tryz.zeroValue61
  t131:=Tryz.underlying110
  a131:=Tryz.isAgg110
  z131:=Tryz.sizeOf110
  v131:=Tryz.zeroValue110
  t182:=Tryz.underlying210
  a182:=Tryz.isAgg210
  z182:=Tryz.sizeOf210
  v182:=Tryz.zeroValue210
  t183:=Tryz.underlying211
  a183:=Tryz.isAgg211
  z183:=Tryz.sizeOf211
  v183:=Tryz.zeroValue211
  t218:=Tryz.underlying225
  a218:=Tryz.isAgg225
  z218:=Tryz.sizeOf225
  v218:=Tryz.zeroValue225
  t222:=Tryz.underlying228
  a222:=Tryz.isAgg228
  z222:=Tryz.sizeOf228
  v222:=Tryz.zeroValue228
  t228:=Tryz.underlying232
  a228:=Tryz.isAgg232
  z228:=Tryz.sizeOf232
  v228:=Tryz.zeroValue232
  t229:=Tryz.underlying233
  a229:=Tryz.isAgg233
  z229:=Tryz.sizeOf233
  v229:=Tryz.zeroValue233 }
open Go.Sort Go.RowKit in
theorem Tryz.slices_Sort_int (blk off cap:Nat) (zs:List Int) (w:World) (hH:Holds (aAB .i64) w blk off zs.toArray) (hblk:blk<w.heap.size) (hsz:zs.length<4611686018427387904) :
    Calls Tryz.prog 179 #[.slice (some ⟨blk, off, none⟩) zs.length cap] w λe w' =>
      e= .returned (.tuple #[])/\∃ n os, w'=grow (putRow (aAB .i64) (Sort.ahead w n) blk off (zs.mergeSort λx y=>decide (x<=y)).toArray) os:=Any.slices_Sort_int Tryz.Ate blk off cap zs w hH hblk hsz
open Go.RowKit Go.Sort in
theorem Tryz.slices_Sort_int_none (p:Option Addr) (cap:Nat) (w:World) :
    Calls Tryz.prog 179 #[.slice p 0 cap] w λe w'=>e= .returned (.tuple #[])/\w'=w:=Any.slices_Sort_int_none Tryz.Ate p cap w
def Tryz.Aqu:Go.Shelf.Ren:=⟨fun|20=>180|n=>n, fun|22=>41|3=>3|4=>4|0=>0|n=>n, fun|n=>n⟩
theorem Tryz.Aqe:Go.Proofs.Lays2.n20 Tryz.prog Tryz.Aqu:={
  mixed:=by kernel_rfl
  f20:=Tryz.func180.trans (congrArg some (by kernel_rfl))
  t0:=Tryz.underlying0
  a0:=Tryz.isAgg0
  z0:=Tryz.sizeOf0
  v0:=Tryz.zeroValue0
  t3:=Tryz.underlying3
  a3:=Tryz.isAgg3
  z3:=Tryz.sizeOf3
  v3:=Tryz.zeroValue3
  t4:=Tryz.underlying4
  a4:=Tryz.isAgg4
  z4:=Tryz.sizeOf4
  v4:=Tryz.zeroValue4
  t22:=Tryz.underlying41
  a22:=Tryz.isAgg41
  z22:=Tryz.sizeOf41
  v22:=Tryz.zeroValue41
  i3:=by kernel_rfl }
open Go.RowKit Go.Lib Go.Sort in
theorem Tryz.slices_Compact_int (blk off cap:Nat) (zs:List Int) (w:World) (hH:Holds (aAB .i64) w blk off zs.toArray) (hsz:zs.length<=9223372036854775807) (hcap:zs.length<=cap) :
    Calls Tryz.prog 180 #[.slice (some ⟨blk, off, none⟩) zs.length cap] w λe w'=>e= .returned (.slice (some ⟨blk, off, none⟩) (Lib.compact zs).length cap)/\∃ q, w'=putRow (aAB .i64) (Sort.ahead w q) blk off (Lib.compact zs++List.replicate (zs.length-(Lib.compact zs).length) 0).toArray:=Any.slices_Compact_int Tryz.Aqe blk off cap zs w hH hsz hcap
open Go.RowKit Go.Lib Go.Sort in
theorem Tryz.slices_Compact_int_empty (a:Option Addr) (cap:Nat) (w:World) :
    Calls Tryz.prog 180 #[.slice a 0 cap] w λe w'=>e= .returned (.slice a 0 cap)/\w'=w:=Any.slices_Compact_int_empty Tryz.Aqe a cap w
def Tryz.AsK:Go.Shelf.Ren:=⟨fun|129=>222|n=>n, fun|53=>61|3=>3|4=>4|46=>192|5=>5|9=>9|n=>n, fun|n=>n⟩
theorem Tryz.Axn:Go.Proofs.Lays.n129 Tryz.prog Tryz.AsK:={
  mixed:=by kernel_rfl
  f129:=Tryz.func222.trans (congrArg some (by kernel_rfl))
  t3:=Tryz.underlying3
  a3:=Tryz.isAgg3
  z3:=Tryz.sizeOf3
  v3:=Tryz.zeroValue3
  t4:=Tryz.underlying4
  a4:=Tryz.isAgg4
  z4:=Tryz.sizeOf4
  v4:=Tryz.zeroValue4
  t5:=Tryz.underlying5
  a5:=Tryz.isAgg5
  z5:=Tryz.sizeOf5
  v5:=Tryz.zeroValue5
  t9:=Tryz.underlying9
  a9:=Tryz.isAgg9
  z9:=Tryz.sizeOf9
  v9:=Tryz.zeroValue9
  t46:=Tryz.underlying192
  a46:=Tryz.isAgg192
  z46:=Tryz.sizeOf192
  v46:=Tryz.zeroValue192
  t53:=Tryz.underlying61
  a53:=Tryz.isAgg61
  z53:=Tryz.sizeOf61
  v53:=Tryz.zeroValue61 }
theorem Tryz.bits_Len64 (x:Int) (w:World) (h0:0<=x) (h1:x<=18446744073709551615) :
    Calls Tryz.prog 222 #[.int .u64 x] w λe w'=>e= .returned (.int .i64 (Lib.bitLen x.toNat))/\w'=w:=Any.bits_Len64 Tryz.Axn x w h0 h1
def Tryz.ArM:Go.Shelf.Ren:=⟨fun|29=>204|n=>n, fun|0=>0|3=>3|4=>4|5=>5|22=>61|25=>192|54=>223|n=>n, fun|1=>0|n=>n⟩
theorem Tryz.AvR:Go.Proofs.Lays7.n29 Tryz.prog Tryz.ArM:={
  mixed:=by kernel_rfl
  f29:=Tryz.func204.trans (congrArg some (by kernel_rfl))
  t0:=Tryz.underlying0
  a0:=Tryz.isAgg0
  z0:=Tryz.sizeOf0
  v0:=Tryz.zeroValue0
  i0:=by kernel_rfl
  t3:=Tryz.underlying3
  a3:=Tryz.isAgg3
  z3:=Tryz.sizeOf3
  v3:=Tryz.zeroValue3
  i3:=by kernel_rfl
  t4:=Tryz.underlying4
  a4:=Tryz.isAgg4
  z4:=Tryz.sizeOf4
  v4:=Tryz.zeroValue4
  i4:=by kernel_rfl
  t5:=Tryz.underlying5
  a5:=Tryz.isAgg5
  z5:=Tryz.sizeOf5
  v5:=Tryz.zeroValue5
  i5:=by kernel_rfl
  t22:=Tryz.underlying61
  a22:=Tryz.isAgg61
  z22:=Tryz.sizeOf61
  v22:=Tryz.zeroValue61
  i22:=by kernel_rfl
  t25:=Tryz.underlying192
  a25:=Tryz.isAgg192
  z25:=Tryz.sizeOf192
  v25:=Tryz.zeroValue192
  i25:=by kernel_rfl
  t54:=Tryz.underlying223
  a54:=Tryz.isAgg223
  z54:=Tryz.sizeOf223
  g1:=by kernel_rfl }
open Go.Shelf Go.RowKit Go.Lib Go.Sort
set_option maxHeartbeats 6400000
set_option maxRecDepth 1000000
/-- (coalesce.forest).find: the least element of a class; ways are halved -/
theorem Tryz.AxQ (blk off cap:Nat) (d:Array Int) (s0:Nat) (r:List Int×Int) (w:World) (hH:Holds encI w blk off d) (hr:∃ k, Go.Dw.findF k d.toList s0=some r) :
    Calls Tryz.prog 108 #[.slice (some ⟨blk, off, none⟩) d.size cap, .int .i64 s0] w λe w'=>e= .returned (.int .i64 r.2)/\w'=putRow encI w blk off r.1.toArray:=by
  have t0:=Tryz.underlying0;have a0:=Tryz.isAgg0;have z0:=Tryz.sizeOf0;have v0:=Tryz.zeroValue0;have t3:=Tryz.underlying3;have a3:=Tryz.isAgg3;have z3:=Tryz.sizeOf3;have v3:=Tryz.zeroValue3;have t4:=Tryz.underlying4;have a4:=Tryz.isAgg4;have z4:=Tryz.sizeOf4;have v4:=Tryz.zeroValue4;have t150:=Tryz.underlying150;have a150:=Tryz.isAgg150;have z150:=Tryz.sizeOf150;have v150:=Tryz.zeroValue150;obtain⟨k0, hr⟩:=hr
  go_enter Tryz.func108, Tryz.ntmps108
  go_wp2
  go_loopg [1] k0 (λk s1 wr=>∃ (s:Nat) (dk:Array Int), s1= .int .i64 s/\dk.size=d.size/\wr=putRow encI w blk off dk/\Go.Dw.findF k dk.toList s=some r)
  case atStart=>exact⟨s0, d, rfl, rfl, (putRow_self encI w blk off d hH).symm, hr⟩
  case round =>
    obtain⟨s, dk, rfl, hds, hwr, hf⟩:=hrel;obtain⟨k, rfl⟩:∃ k, gk=k+1:=by
      cases gk with
      | zero=>cases hf
      | succ k=>exact⟨k, rfl⟩
    simp only[Go.Dw.findF, aAA]at hf;obtain⟨x, hx, hf⟩:=hf;have hs:s<dk.size:=by have:=(aA.1 hx).1;simpa using this
    have hHk:Holds encI wr blk off dk:=by rw[hwr];exact holds_putRow encI w blk off d dk hH hds
    have hxe:dk[s]! =x:=by
      obtain⟨h1, h2⟩:=aA.1 hx;rw[getElem!_pos dk s hs];simpa using h2
    obtain⟨cs, fs⟩:=hHk s hs;rw[hxe]at cs
    by_cases hxs:x=(s:Int)
    · rw[if_pos hxs]at hf
      cases hf;subst hxs;have A:Aside (wr=putRow encI w blk off dk):=hwr;clear hwr hHk hH
      go_wp2
      go_ret
      exact⟨rfl, by rw[A.out]⟩
    · rw[if_neg hxs]at hf
      split at hf
      · rename_i hx0
        simp only[aAA]at hf;obtain⟨z, hz, hf⟩:=hf;split at hf
        · rename_i hz0
          obtain⟨xn, rfl⟩:∃ n:Nat, x=n:=⟨x.toNat, by omega⟩
          obtain⟨zn, rfl⟩:∃ n:Nat, z=n:=⟨z.toNat, by omega⟩
          rw[Int.toNat_natCast]at hz hf;have hxl:xn<dk.size:=by omega
          have hze:dk[xn]! =(zn:Int):=by
            obtain⟨h1, h2⟩:=aA.1 hz;rw[getElem!_pos dk xn hxl];simpa using h2
          obtain⟨cx, fx⟩:=hHk xn hxl;rw[hze]at cx;have c2:(wr.setCell ⟨blk, off+s, none⟩ (.int .i64 (zn:Int))).cell? ⟨blk, off+s, none⟩=some (.int .i64 (zn:Int)):=World.cell?_setCell_same _ _ _ cs;have A:Aside (wr=putRow encI w blk off dk):=hwr;have B:Aside (Go.Dw.findF k (dk.toList.set s (zn:Int)) zn=some r):=hf;clear hwr hHk hH hf hr
          go_wp2
          go_roundg k
          case measure=>omega
          case rel =>
            refine⟨zn, dk.setIfInBounds s (zn:Int), rfl, by simpa using hds, ?_, ?_⟩
            · rw[A.out];exact putRow_set encI w blk off dk s (zn:Int) hs
            · have:=B.out;simpa using this
        · cases hf
      · cases hf

end Go.Proofs
namespace Go.Proofs.YtilmapojncgflaaGreatDoor
open Go Go.Dw Go.Proofs Go.Sort
theorem AuL:OW Tryz.prog 222 Aoj:=AsM ⟨Tryz.f222, Tryz.func222, by decide, rfl⟩ λx w h0 h1=>Tryz.bits_Len64 x w h0 h1
abbrev RE:Dw.Spec:=AsZ
theorem Wu:OW Tryz.prog 108 RE:=find_spec ⟨Tryz.f108, Tryz.func108, by decide, rfl⟩ λb o c d s r w h hr=>Tryz.AxQ b o c d s r w h hr
def Aeh:Dw.Spec:=AuG false (AaE) (λ_=>0)
theorem AjG:OW Tryz.prog 179 Aeh:=λ_ hG =>
  ⟨⟨Tryz.f179, Tryz.func179, by decide, rfl⟩, λq hq=>by
    cases hq
    exact AnK (λzs=>⟨Ash zs, Nat.zero_le _⟩) (λw a cap=>Tryz.slices_Sort_int_none a cap w) (λblk off cap zs w hH hb hs hc=>Tryz.slices_Sort_int blk off cap zs w hH hb hs), (λh=>by cases h), (λφ hφ=>by cases hφ), hG⟩
def Abk:Dw.Spec:=AuG true (AdV) (λzs=>(Lib.compact zs).length)
theorem AhH:OW Tryz.prog 180 Abk:=λ_ hG =>
  ⟨⟨Tryz.f180, Tryz.func180, by decide, rfl⟩, λq hq=>by
    cases hq
    exact AnK (λzs=>⟨AnX zs, AjP zs⟩) (λw a cap=>Tryz.slices_Compact_int_empty a cap w) (λblk off cap zs w hH hb hs hc=>(Tryz.slices_Compact_int blk off cap zs w hH (by omega) hc).mono (by rintro e w1 ⟨rfl, n, rfl⟩;exact⟨rfl, n, #[], by simp[AdV]⟩)), (λh=>by cases h), (λφ hφ=>by cases hφ), hG⟩
theorem AxH:OW Tryz.prog 204 Ass:=Avp (g:=0) ⟨Tryz.f204, Tryz.func204, by decide, rfl⟩ (by kernel_rfl) λx w hx hT=>Any7.bits_TrailingZeros64 Tryz.AvR x hx w hT
end Go.Proofs.YtilmapojncgflaaGreatDoor
