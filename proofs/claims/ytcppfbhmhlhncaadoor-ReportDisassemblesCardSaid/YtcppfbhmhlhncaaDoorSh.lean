/-
  The library functions that write a slice in place: what they do, at this program.
-/
import Derived.Below
import Derived.BigCall
import Derived.BigGuard
import Derived.Lib.ItoaMem
import Derived.Shelf.LaysM
import Derived.Shelf.Strconv.Itoa0
import Derived.Shelf.Strconv.Itoa1
import Derived.Shelf.Strconv.Itoa2
import Derived.Shelf.Strings.Builder1
import Derived.Shelf.Strings.BuilderF
import Derived.Shelf.Strings.OnBuilder
import Derived.Shelf.Strings.Search2
import Derived.KernelRfl
import Derived.Test.YtcppfbhmhlhncaaDoorProg
import Derived.Test.YtcppfbhmhlhncaaDoorDd
open Array renaming size_replicate->aA,replicate->aAB
open Go.Instr renaming sliceAt->aAH
open Go.Program renaming arrayLen->aAA,elem->aAI
open Go.World renaming cell?_drewN->aAC,cell?_setCell_other->aAD,cell?_setCell_same->aAE,frozen?_alloc_new->aAF,cell?_alloc_new->aAG
namespace Go.Proofs
open Go.Shelf
def Tryd.Abz:Go.Shelf.Ren:=⟨fun|283=>63|n=>n, fun|3=>3|9=>9|4=>4|n=>n, fun|n=>n⟩
theorem Tryd.Adt:Go.Proofs.Lays.n283 Tryd.prog Tryd.Abz:={
  mixed:=by kernel_rfl
  f283:=Tryd.func63.trans (congrArg some (by kernel_rfl))
  t3:=Tryd.underlying3
  a3:=Tryd.isAgg3
  z3:=Tryd.sizeOf3
  v3:=Tryd.zeroValue3
  t4:=Tryd.underlying4
  a4:=Tryd.isAgg4
  z4:=Tryd.sizeOf4
  v4:=Tryd.zeroValue4
  t9:=Tryd.underlying9
  a9:=Tryd.isAgg9
  z9:=Tryd.sizeOf9
  v9:=Tryd.zeroValue9 }
open Go.Lib in
theorem Tryd.internal_strconv_small (i:Nat) (h:i<100) (w:World) :
    Calls Tryd.prog 63 #[.int .i64 i] w λe w'=>e= .returned (.string ⟨(Lib.decDigits i).toArray⟩)/\w'=w:=Any.internal_strconv_small Tryd.Adt i h w
def Tryd.AbA:Go.Shelf.Ren:=⟨fun|285=>65|n=>n, fun|37=>22|53=>52|3=>3|4=>4|51=>127|9=>9|5=>5|0=>0|n=>n, fun|n=>n⟩
theorem Tryd.VS:Go.Proofs.Lays.n285 Tryd.prog Tryd.AbA:={
  mixed:=by kernel_rfl
  f285:=Tryd.func65.trans (congrArg some (by kernel_rfl))
  t0:=Tryd.underlying0
  a0:=Tryd.isAgg0
  z0:=Tryd.sizeOf0
  v0:=Tryd.zeroValue0
  t3:=Tryd.underlying3
  a3:=Tryd.isAgg3
  z3:=Tryd.sizeOf3
  v3:=Tryd.zeroValue3
  t4:=Tryd.underlying4
  a4:=Tryd.isAgg4
  z4:=Tryd.sizeOf4
  v4:=Tryd.zeroValue4
  t5:=Tryd.underlying5
  a5:=Tryd.isAgg5
  z5:=Tryd.sizeOf5
  v5:=Tryd.zeroValue5
  t9:=Tryd.underlying9
  a9:=Tryd.isAgg9
  z9:=Tryd.sizeOf9
  v9:=Tryd.zeroValue9
  t37:=Tryd.underlying22
  a37:=Tryd.isAgg22
  z37:=Tryd.sizeOf22
  v37:=Tryd.zeroValue22
  t51:=Tryd.underlying127
  a51:=Tryd.isAgg127
  z51:=Tryd.sizeOf127
  v51:=Tryd.zeroValue127
  t53:=Tryd.underlying52
  a53:=Tryd.isAgg52
  z53:=Tryd.sizeOf52
  v53:=Tryd.zeroValue52 }
open Go.RowKit Go.Sort Go.Lib in
theorem Tryd.internal_strconv_formatBase10 (blk off cap:Nat) (u:Nat) (d:Array UInt8) (w:World) (hH:Holds (λ(b:UInt8)=>Value.int .u8 (b.toNat:Int)) w blk off d) (hu:u<10 ^ d.size) (hu64:u<18446744073709551616) (hsz:d.size<4611686018427387904) :
    Calls Tryd.prog 65 #[.slice (some ⟨blk, off, none⟩) d.size cap, .int .u64 u] w λe w' =>
      e= .returned (.tuple #[])/\∃ (n v':Nat) (dk:Array UInt8), w'=(putRow (λ(b:UInt8)=>Value.int .u8 (b.toNat:Int)) w blk off dk).drewN n/\FmtInv d.size u 0 v' dk:=Any.internal_strconv_formatBase10 Tryd.VS blk off cap u d w hH hu hu64 hsz
def Tryd.Abx:Go.Shelf.Ren:=⟨fun|129=>73|n=>n, fun|53=>52|3=>3|4=>4|46=>124|5=>5|9=>9|n=>n, fun|n=>n⟩
theorem Tryd.Adr:Go.Proofs.Lays.n129 Tryd.prog Tryd.Abx:={
  mixed:=by kernel_rfl
  f129:=Tryd.func73.trans (congrArg some (by kernel_rfl))
  t3:=Tryd.underlying3
  a3:=Tryd.isAgg3
  z3:=Tryd.sizeOf3
  v3:=Tryd.zeroValue3
  t4:=Tryd.underlying4
  a4:=Tryd.isAgg4
  z4:=Tryd.sizeOf4
  v4:=Tryd.zeroValue4
  t5:=Tryd.underlying5
  a5:=Tryd.isAgg5
  z5:=Tryd.sizeOf5
  v5:=Tryd.zeroValue5
  t9:=Tryd.underlying9
  a9:=Tryd.isAgg9
  z9:=Tryd.sizeOf9
  v9:=Tryd.zeroValue9
  t46:=Tryd.underlying124
  a46:=Tryd.isAgg124
  z46:=Tryd.sizeOf124
  v46:=Tryd.zeroValue124
  t53:=Tryd.underlying52
  a53:=Tryd.isAgg52
  z53:=Tryd.sizeOf52
  v53:=Tryd.zeroValue52 }
theorem Tryd.bits_Len64 (x:Int) (w:World) (h0:0<=x) (h1:x<=18446744073709551615) :
    Calls Tryd.prog 73 #[.int .u64 x] w λe w'=>e= .returned (.int .i64 (Lib.bitLen x.toNat))/\w'=w:=Any.bits_Len64 Tryd.Adr x w h0 h1
def Tryd.AbB:Go.Shelf.Ren:=⟨fun|317=>72|n=>n, fun|3=>3|46=>124|n=>n, fun|n=>n⟩
theorem Tryd.Adu:Go.Proofs.Lays.n317 Tryd.prog Tryd.AbB:={
  mixed:=by kernel_rfl
  f317:=Tryd.func72.trans (congrArg some (by kernel_rfl))
  t3:=Tryd.underlying3
  a3:=Tryd.isAgg3
  z3:=Tryd.sizeOf3
  v3:=Tryd.zeroValue3
  t46:=Tryd.underlying124
  a46:=Tryd.isAgg124
  z46:=Tryd.sizeOf124
  v46:=Tryd.zeroValue124 }
open Go.Lib in
theorem Tryd.internal_strconv_log10Pow2 (x:Nat) (h:x<=64) (w:World) :
    Calls Tryd.prog 72 #[.int .i64 x] w λe w'=>e= .returned (.int .i64 (Lib.l10 x))/\w'=w:=Any.internal_strconv_log10Pow2 Tryd.Adu x h w
def Tryd.AbC:Go.Shelf.Ren:=⟨fun|318=>74|n=>n, fun|3=>3|4=>4|n=>n, fun|n=>n⟩
theorem Tryd.Adv:Go.Proofs.Lays.n318 Tryd.prog Tryd.AbC:={
  mixed:=by kernel_rfl
  f318:=Tryd.func74.trans (congrArg some (by kernel_rfl))
  t3:=Tryd.underlying3
  a3:=Tryd.isAgg3
  z3:=Tryd.sizeOf3
  v3:=Tryd.zeroValue3
  t4:=Tryd.underlying4
  a4:=Tryd.isAgg4
  z4:=Tryd.sizeOf4
  v4:=Tryd.zeroValue4 }
open Go.Lib in
theorem Tryd.internal_strconv_bool2_int (b:Bool) (w:World) :
    Calls Tryd.prog 74 #[.bool b] w λe w'=>e= .returned (.int .i64 (if b then 1 else 0))/\w'=w:=Any.internal_strconv_bool2_int Tryd.Adv b w
def Tryd.Wc:Go.Shelf.Ren:=⟨fun|156=>37|165=>52|166=>33|169=>23|240=>48|241=>71|276=>61|277=>79|n=>n, fun|31=>90|9=>9|3=>3|4=>4|0=>0|20=>20|72=>60|76=>86|70=>58|37=>22|75=>84|127=>93|164=>115|5=>5|80=>71|n=>n, fun|n=>n⟩
theorem Tryd.WL:Go.Proofs.Lays.n156 Tryd.prog Tryd.Wc:={
  mixed:=by kernel_rfl
  f156:=Tryd.func37.trans (congrArg some (by kernel_rfl))
  f165:=Tryd.func52.trans (congrArg some (by kernel_rfl))
  f166:=Tryd.func33.trans (congrArg some (by kernel_rfl))
  f169:=Tryd.func23.trans (congrArg some (by kernel_rfl))
  f240:=Tryd.func48.trans (congrArg some (by kernel_rfl))
  f241:=Tryd.func71.trans (congrArg some (by kernel_rfl))
  f276:=Tryd.func61.trans (congrArg some (by kernel_rfl))
  f277:=Tryd.func79.trans (congrArg some (by kernel_rfl))
  t0:=Tryd.underlying0
  a0:=Tryd.isAgg0
  z0:=Tryd.sizeOf0
  v0:=Tryd.zeroValue0
  t3:=Tryd.underlying3
  a3:=Tryd.isAgg3
  z3:=Tryd.sizeOf3
  v3:=Tryd.zeroValue3
  t4:=Tryd.underlying4
  a4:=Tryd.isAgg4
  z4:=Tryd.sizeOf4
  v4:=Tryd.zeroValue4
  t9:=Tryd.underlying9
  a9:=Tryd.isAgg9
  z9:=Tryd.sizeOf9
  v9:=Tryd.zeroValue9
  t20:=Tryd.underlying20
  a20:=Tryd.isAgg20
  z20:=Tryd.sizeOf20
  v20:=Tryd.zeroValue20
  t31:=Tryd.underlying90
  a31:=Tryd.isAgg90
  z31:=Tryd.sizeOf90
  v31:=Tryd.zeroValue90
  t37:=Tryd.underlying22
  a37:=Tryd.isAgg22
  z37:=Tryd.sizeOf22
  v37:=Tryd.zeroValue22
  t70:=Tryd.underlying58
  a70:=Tryd.isAgg58
  z70:=Tryd.sizeOf58
  v70:=Tryd.zeroValue58
  t72:=Tryd.underlying60
  a72:=Tryd.isAgg60
  z72:=Tryd.sizeOf60
  v72:=Tryd.zeroValue60
  t75:=Tryd.underlying84
  a75:=Tryd.isAgg84
  z75:=Tryd.sizeOf84
  v75:=Tryd.zeroValue84
  t76:=Tryd.underlying86
  a76:=Tryd.isAgg86
  z76:=Tryd.sizeOf86
  v76:=Tryd.zeroValue86
  t127:=Tryd.underlying93
  a127:=Tryd.isAgg93
  z127:=Tryd.sizeOf93
  v127:=Tryd.zeroValue93
  t164:=Tryd.underlying115
  a164:=Tryd.isAgg115
  z164:=Tryd.sizeOf115
  v164:=Tryd.zeroValue115 }
theorem Tryd.Sp:Builder.Extra Tryd.prog Tryd.Wc:={
  sizeBuilder:=by kernel_rfl
  liesBuilder:=by kernel_rfl
  t5:=Tryd.underlying5
  a5:=Tryd.isAgg5
  z5:=Tryd.sizeOf5
  v5:=Tryd.zeroValue5
  infoByte:=by kernel_rfl
  cellsByte:=by kernel_rfl
  sizeByte:=by kernel_rfl
  neB5:=by decide }
open Go.RowKit in
theorem Tryd.strings_Join_none (a:Option Addr) (c:Nat) (sep:ByteArray) (w:World) :
    Calls Tryd.prog 37 #[.slice a 0 c, .string sep] w λe w'=>e= .returned (.string ⟨#[]⟩)/\w'=w:=Any.strings_Join_none Tryd.WL Tryd.Sp a c sep w
open Go.RowKit in
theorem Tryd.strings_Join (bk o c:Nat) (xs:List ByteArray) (sep:ByteArray) (w:World) (hcells:∀ (j:Nat) x, xs[j]? =some x->w.cell? ⟨bk, o+j, none⟩=some (.string x)) (hbk:bk<w.heap.size) (hN:xs.length<=140737488355328) (hcap:xs.length<=c) (hlen:(Lib.join (xs.map (·.data.toList)) sep.data.toList).length<=140737488355328) :
    Calls Tryd.prog 37 #[.slice (some ⟨bk, o, none⟩) xs.length c, .string sep] w λe w'=>e= .returned (.string ⟨(Lib.join (xs.map (·.data.toList)) sep.data.toList).toArray⟩)/\Below w.heap.size w w':=Any.strings_Join Tryd.WL Tryd.Sp bk o c xs sep w hcells hbk hN hcap hlen
def Tryd.Aby:Go.Shelf.Ren:=⟨fun|219=>51|217=>67|225=>68|224=>69|267=>70|266=>77|314=>78|n=>n, fun|9=>9|3=>3|4=>4|5=>5|46=>124|146=>130|51=>127|n=>n, fun|1=>2|n=>n⟩
theorem Tryd.Ads:Go.Proofs.Lays.n219 Tryd.prog Tryd.Aby:={
  mixed:=by kernel_rfl
  f217:=Tryd.func67.trans (congrArg some (by kernel_rfl))
  f219:=Tryd.func51.trans (congrArg some (by kernel_rfl))
  f224:=Tryd.func69.trans (congrArg some (by kernel_rfl))
  f225:=Tryd.func68.trans (congrArg some (by kernel_rfl))
  f266:=Tryd.func77.trans (congrArg some (by kernel_rfl))
  f267:=Tryd.func70.trans (congrArg some (by kernel_rfl))
  f314:=Tryd.func78.trans (congrArg some (by kernel_rfl))
  t3:=Tryd.underlying3
  a3:=Tryd.isAgg3
  z3:=Tryd.sizeOf3
  v3:=Tryd.zeroValue3
  t4:=Tryd.underlying4
  a4:=Tryd.isAgg4
  z4:=Tryd.sizeOf4
  v4:=Tryd.zeroValue4
  t5:=Tryd.underlying5
  a5:=Tryd.isAgg5
  z5:=Tryd.sizeOf5
  v5:=Tryd.zeroValue5
  t9:=Tryd.underlying9
  a9:=Tryd.isAgg9
  z9:=Tryd.sizeOf9
  v9:=Tryd.zeroValue9
  t46:=Tryd.underlying124
  a46:=Tryd.isAgg124
  z46:=Tryd.sizeOf124
  v46:=Tryd.zeroValue124
  t51:=Tryd.underlying127
  a51:=Tryd.isAgg127
  z51:=Tryd.sizeOf127
  v51:=Tryd.zeroValue127
  t146:=Tryd.underlying130
  a146:=Tryd.isAgg130
  z146:=Tryd.sizeOf130
  v146:=Tryd.zeroValue130
  g1:=by kernel_rfl }
open Go.RowKit Go.Lib in
theorem Tryd.stringslite_Index_one (s:ByteArray) (c:UInt8) (w:World) :
    Calls Tryd.prog 51 #[.string s, .string ⟨#[c]⟩] w λe w'=>e= .returned (.int .i64 (Lib.indexByte s.data.toList c))/\w'=w:=Any.stringslite_Index_one Tryd.Ads s c w
def Tryd.Abe:Go.Shelf.Ren:=⟨fun|29=>81|n=>n, fun|0=>0|3=>3|4=>4|5=>5|22=>52|25=>124|54=>135|n=>n, fun|1=>5|n=>n⟩
theorem Tryd.AcY:Go.Proofs.Lays7.n29 Tryd.prog Tryd.Abe:={
  mixed:=by kernel_rfl
  f29:=Tryd.func81.trans (congrArg some (by kernel_rfl))
  t0:=Tryd.underlying0
  a0:=Tryd.isAgg0
  z0:=Tryd.sizeOf0
  v0:=Tryd.zeroValue0
  i0:=by kernel_rfl
  t3:=Tryd.underlying3
  a3:=Tryd.isAgg3
  z3:=Tryd.sizeOf3
  v3:=Tryd.zeroValue3
  i3:=by kernel_rfl
  t4:=Tryd.underlying4
  a4:=Tryd.isAgg4
  z4:=Tryd.sizeOf4
  v4:=Tryd.zeroValue4
  i4:=by kernel_rfl
  t5:=Tryd.underlying5
  a5:=Tryd.isAgg5
  z5:=Tryd.sizeOf5
  v5:=Tryd.zeroValue5
  i5:=by kernel_rfl
  t22:=Tryd.underlying52
  a22:=Tryd.isAgg52
  z22:=Tryd.sizeOf52
  v22:=Tryd.zeroValue52
  i22:=by kernel_rfl
  t25:=Tryd.underlying124
  a25:=Tryd.isAgg124
  z25:=Tryd.sizeOf124
  v25:=Tryd.zeroValue124
  i25:=by kernel_rfl
  t54:=Tryd.underlying135
  a54:=Tryd.isAgg135
  z54:=Tryd.sizeOf135
  g1:=by kernel_rfl }
open Go.Shelf Go.RowKit Go.Sort Go.Lib
set_option maxHeartbeats 6400000
set_option maxRecDepth 100000
theorem ZC {u:Nat} (h1:1<=u) (h2:u<18446744073709551616):Lib.nDigits u<=20:=by
  have:=Lib.numDigits_eq u h1 h2
  split at this<;>omega
/-- how many digits a number has, where the table's cells are as laid -/
theorem Tryd.Xr (u:Nat) (h1:1<=u) (h2:u<18446744073709551616) (w:World) (hT:∀ j:Nat, j<20->w.cell? ⟨3, j, none⟩=some (.int .u64 ((10 ^ j:Nat):Int))) :
    Calls Tryd.prog 64 #[.int .u64 u] w λe w'=>e= .returned (.int .i64 (Lib.nDigits u))/\w'=w:=by
  have mixed:=Tryd.VS.mixed
  have t22:=Tryd.underlying52;have a22:=Tryd.isAgg52;have z22:=Tryd.sizeOf52;have v22:=Tryd.zeroValue52
  have t3:=Tryd.underlying3;have a3:=Tryd.isAgg3;have z3:=Tryd.sizeOf3;have v3:=Tryd.zeroValue3
  have t136:=Tryd.underlying126;have a136:=Tryd.isAgg126;have z136:=Tryd.sizeOf126;have v136:=Tryd.zeroValue126
  have t0:=Tryd.underlying0;have a0:=Tryd.isAgg0;have z0:=Tryd.sizeOf0;have v0:=Tryd.zeroValue0
  have t4:=Tryd.underlying4;have a4:=Tryd.isAgg4;have z4:=Tryd.sizeOf4;have v4:=Tryd.zeroValue4
  have e85:∀ args w, (callFunc 73 args).run Tryd.prog w= .ok (.enter 73 args) w:=enters_of Tryd.func73 (by kernel_rfl) rfl
  have e84:∀ args w, (callFunc 72 args).run Tryd.prog w= .ok (.enter 72 args) w:=enters_of Tryd.func72 (by kernel_rfl) rfl
  have e86:∀ args w, (callFunc 74 args).run Tryd.prog w= .ok (.enter 74 args) w:=enters_of Tryd.func74 (by kernel_rfl) rfl
  obtain⟨hnd, h19⟩:=Lib.numDigits_eq u h1 h2
  have hL:Lib.bitLen u<=64:=Lib.bitLen_le u 64 (Nat.le_refl _) h2
  have hcell:=hT (Lib.l10 (Lib.bitLen u)) (by omega)
  have hto:((u:Int)).toNat=u:=by omega
  generalize hq:Lib.l10 (Lib.bitLen u)=q at hnd h19 hcell
  generalize hP:10 ^ q=T at hnd hcell
  have h20:q<20:=by omega
  have Hnd:=Lib.hid hnd
  clear hnd
  go_enter Tryd.func64, Tryd.ntmps64
  go_wp2_with (first
    | (go_at_fn 73;refine(Tryd.bits_Len64 _ _ (by omega) (by omega)).mono ?_;rintro e w' ⟨rfl, rfl⟩)
    | (go_at_fn 72;refine(Tryd.internal_strconv_log10Pow2 _ (by first|exact hL|(rw[hto];exact hL)) _).mono ?_;rintro e w' ⟨rfl, rfl⟩)
    | (go_at_fn 74;refine(Tryd.internal_strconv_bool2_int _ _).mono ?_;rintro e w' ⟨rfl, rfl⟩))
  all_goals go_ret
  all_goals
    refine⟨?_, rfl⟩
    have hnd:=Hnd.out
    congr 2
    split at hnd<;>simp_all<;>omega
abbrev Ts (b:UInt8):Value:= .int .u8 (b.toNat:Int)
/-- a new row of zeros -/
theorem ZR (w:World) (T:TypeId) (o nd:Nat) (hs:o+nd<=24):Holds Ts (w.alloc (.cells Lib.zeros24 T)) w.heap.size o (aAB nd (0:UInt8)):=λj hj=>by
  have hj':j<nd:=by simpa using hj
  refine⟨?_, aAF _ _ _ _⟩
  rw[aAG, Lib.zeros24_at _ (by omega), getElem!_pos _ j hj]
  simp
/-- what lies below stays -/
theorem YI (w:World) (o:Obj) (off k:Nat) (dk:Array UInt8):Below w.heap.size w ((putRow Ts (w.alloc o) w.heap.size off dk).drewN k):=by
  rw[alloc_eq_grow]
  obtain⟨os', _, e⟩:=putRow_grow_new Ts w #[o] w.heap.size off dk (Nat.le_refl _)
  rw[e]
  refine⟨rfl, rfl, rfl, by simp[World.drewN, grow], λb hb=>?_⟩
  show(w.heap++os')[b]? =_
  rw[Array.getElem?_append_left hb]
theorem YK {w:World} {g:Nat} {f:Nat->Value} {n:Nat} (h:∀ j:Nat, j<n->w.cell? ⟨g, j, none⟩=some (f j)) (o:Obj) (j:Nat) (hj:j<n):(w.alloc o).cell? ⟨g, j, none⟩=some (f j):=by
  rw[World.cell?_alloc_old _ _ _ (λe=>?_)]
  · exact h j hj
  · have k:=h j hj
    have e:g=w.heap.size:=e
    subst e
    simp[World.cell?]at k
/-- bytes of the new block become a string -/
theorem Abn {P:Program} {w:World} {o:Obj} {off k u v' cap ts tr te:Nat} {dk:Array UInt8} (hH:Holds Ts (w.alloc o) w.heap.size off (aAB (Lib.nDigits u) 0)) (hF:FmtInv (Lib.nDigits u) u 0 v' dk)
    (h1:P.underlying ts=some (.slice te)) (h2:P.underlying te=some (.int .u8)) (h3:P.underlying tr=some .string) :
    (convert ts tr (.slice (some ⟨w.heap.size, off, none⟩) (Lib.nDigits u) cap)).run P ((putRow Ts (w.alloc o) w.heap.size off dk).drewN k)= .ok (.string ⟨(Lib.decDigits u).toArray⟩) ((putRow Ts (w.alloc o) w.heap.size off dk).drewN k):=by
  have h:=run_convert_bytes_back (P:=P) ((putRow Ts (w.alloc o) w.heap.size off dk).drewN k) ts tr te ⟨w.heap.size, off, none⟩ cap (Lib.decDigits u) h1 h2 h3 (λj hj=>by
    rw[Lib.row_is_numeral hF j hj, Lib.add_plain, aAC]
    exact cell?_putRow Ts _ w.heap.size off _ dk hH (by rw[hF.size, aA]) j (by rw[hF.size];rw[Lib.decDigits_length]at hj;exact hj))
  rw[Lib.decDigits_length]at h
  exact h
/-- a number in decimal digits -/
theorem Tryd.Aeb (u:Nat) (hu:u<18446744073709551616) (w:World) (hT:∀ j:Nat, j<20->w.cell? ⟨3, j, none⟩=some (.int .u64 ((10 ^ j:Nat):Int))) :
    Calls Tryd.prog 50 #[.int .u64 u, .int .i64 10] w λe w'=>e= .returned (.string ⟨(Lib.decDigits u).toArray⟩)/\Below w.heap.size w w':=by
  have mixed:=Tryd.VS.mixed
  have t22:=Tryd.underlying52;have a22:=Tryd.isAgg52;have z22:=Tryd.sizeOf52;have v22:=Tryd.zeroValue52
  have t3:=Tryd.underlying3;have a3:=Tryd.isAgg3;have z3:=Tryd.sizeOf3;have v3:=Tryd.zeroValue3
  have t4:=Tryd.underlying4;have a4:=Tryd.isAgg4;have z4:=Tryd.sizeOf4;have v4:=Tryd.zeroValue4
  have t9:=Tryd.underlying9;have a9:=Tryd.isAgg9;have z9:=Tryd.sizeOf9;have v9:=Tryd.zeroValue9
  have t0:=Tryd.underlying0;have a0:=Tryd.isAgg0;have z0:=Tryd.sizeOf0;have v0:=Tryd.zeroValue0
  have t113:=Tryd.underlying118;have a113:=Tryd.isAgg118;have z113:=Tryd.sizeOf118;have v113:=Tryd.zeroValue118
  have t28:=Tryd.underlying22;have a28:=Tryd.isAgg22;have z28:=Tryd.sizeOf22;have v28:=Tryd.zeroValue22
  have t5:=Tryd.underlying5;have a5:=Tryd.isAgg5;have z5:=Tryd.sizeOf5;have v5:=Tryd.zeroValue5
  have t116:=Tryd.underlying121;have a116:=Tryd.isAgg121;have z116:=Tryd.sizeOf121;have v116:=Tryd.zeroValue121
  have e62:∀ args w, (callFunc 63 args).run Tryd.prog w= .ok (.enter 63 args) w:=enters_of Tryd.func63 (by kernel_rfl) rfl
  have e63:∀ args w, (callFunc 64 args).run Tryd.prog w= .ok (.enter 64 args) w:=enters_of Tryd.func64 (by kernel_rfl) rfl
  have e64:∀ args w, (callFunc 65 args).run Tryd.prog w= .ok (.enter 65 args) w:=enters_of Tryd.func65 (by kernel_rfl) rfl
  by_cases hs:u<100
  · go_enter Tryd.func50, Tryd.ntmps50
    go_wp2_with (go_at_fn 63;refine(Tryd.internal_strconv_small u hs _).mono ?_;rintro e w' ⟨rfl, rfl⟩)
    go_ret
    exact⟨rfl, Below.refl _ _⟩
  · have hu1:1<=u:=by omega
    have hnd20:=ZC hu1 hu
    have hal:Tryd.prog.arrayLen 118=24:=by simp[aAA, t113]
    have hsl1:∀ W, (aAH 118 (.pointer (some ⟨w.heap.size, 0, none⟩)) none (some (.int .i64 (Lib.nDigits u:Int))) none).run Tryd.prog W= .ok (.slice (some ⟨w.heap.size, 0, none⟩) (Lib.nDigits u) 24) W:=λW=>by
      rw[run_sliceAt_array_h W 118 ⟨w.heap.size, 0, none⟩ (by simp[aAA, aAI, t113]) .i64 (Lib.nDigits u:Int) (by omega) (by rw[hal];omega)]
      go_simp
    have hH0:=ZR w 118 0 (Lib.nDigits u) (by omega)
    have hfmt:=Tryd.internal_strconv_formatBase10 w.heap.size 0 24 u (aAB (Lib.nDigits u) 0) (w.alloc (.cells Lib.zeros24 118)) hH0 (by rw[aA];exact Lib.lt_pow_nDigits u) hu (by rw[aA];omega)
    rw[aA]at hfmt
    have HH0:=Lib.hid hH0
    have HT:=Lib.hid hT
    clear hH0 hal hT
    go_enter Tryd.func50, Tryd.ntmps50
    go_wp2_with (go_at_fn 64;refine(Tryd.Xr u hu1 hu _ (YK HT.out _)).mono ?_;rintro e w' ⟨rfl, rfl⟩)
    go_at_fn 65
    refine hfmt.mono ?_
    rintro e w' ⟨rfl, k, v', dk, rfl, hF⟩
    have hcv:=Abn (P:=Tryd.prog) (cap:=24) (k:=k) HH0.out hF t28 t5 t9
    go_wp2
    go_ret
    exact⟨rfl, YI _ _ _ _ _⟩
theorem Acp (w:World) (o:Obj) (off k:Nat) (dk:Array UInt8) (j:Nat) (v:Value):Below w.heap.size w (((putRow Ts (w.alloc o) w.heap.size off dk).drewN k).setCell ⟨w.heap.size, j, none⟩ v) :=
  (YI w o off k dk).setCell (Nat.le_refl _) v
/-- '-' and the bytes behind it become a string -/
theorem AcZ {P:Program} {w:World} {k u v' ts tr te t:Nat} {dk:Array UInt8} (hH:Holds Ts (w.alloc (.cells Lib.zeros24 t)) w.heap.size 1 (aAB (Lib.nDigits u) 0)) (hF:FmtInv (Lib.nDigits u) u 0 v' dk)
    (h1:P.underlying ts=some (.slice te)) (h2:P.underlying te=some (.int .u8)) (h3:P.underlying tr=some .string) :
    ((putRow Ts (w.alloc (.cells Lib.zeros24 t)) w.heap.size 1 dk).drewN k).cell? ⟨w.heap.size, 0, none⟩=some (.int .u8 0)/\((putRow Ts (w.alloc (.cells Lib.zeros24 t)) w.heap.size 1 dk).drewN k).frozen? ⟨w.heap.size, 0, none⟩=false /\
    (convert ts tr (.slice (some ⟨w.heap.size, 0, none⟩) (1+Lib.nDigits u) 24)).run P (((putRow Ts (w.alloc (.cells Lib.zeros24 t)) w.heap.size 1 dk).drewN k).setCell ⟨w.heap.size, 0, none⟩ (.int .u8 45)) =
      .ok (.string ⟨(45::Lib.decDigits u).toArray⟩) (((putRow Ts (w.alloc (.cells Lib.zeros24 t)) w.heap.size 1 dk).drewN k).setCell ⟨w.heap.size, 0, none⟩ (.int .u8 45)):=by
  have hc0:((putRow Ts (w.alloc (.cells Lib.zeros24 t)) w.heap.size 1 dk).drewN k).cell? ⟨w.heap.size, 0, none⟩=some (.int .u8 0):=by
    rw[aAC, cell?_putRow_other _ _ _ _ _ _ (Or.inr (Or.inl (Nat.zero_lt_one))), aAG]
    exact Lib.zeros24_at 0 (by omega)
  refine⟨hc0, by rw[World.frozen?_drewN, frozen?_putRow];exact aAF _ _ _ _, ?_⟩
  have h:=run_convert_bytes_back (P:=P) (((putRow Ts (w.alloc (.cells Lib.zeros24 t)) w.heap.size 1 dk).drewN k).setCell ⟨w.heap.size, 0, none⟩ (.int .u8 45)) ts tr te ⟨w.heap.size, 0, none⟩ 24 (45::Lib.decDigits u) h1 h2 h3 (λj hj=>by
    rw[Lib.add_plain]
    cases j with
    | zero=>exact aAE _ _ _ hc0
    | succ i =>
      have hi:i<(Lib.decDigits u).length:=by simpa using hj
      rw[aAD _ _ _ _ (by simp), List.getElem_cons_succ, Lib.row_is_numeral hF i hi, aAC, show 0+(i+1)=1+i by omega]
      exact cell?_putRow Ts _ w.heap.size 1 _ dk hH (by rw[hF.size, aA]) i (by rw[hF.size];rw[Lib.decDigits_length]at hi;exact hi))
  rw[List.length_cons, Lib.decDigits_length, Nat.add_comm]at h
  exact h
/-- a number with its sign in decimal digits -/
theorem Tryd.Aea (n:Int) (h0: -9223372036854775808<=n) (h1:n<=9223372036854775807) (w:World) (hT:∀ j:Nat, j<20->w.cell? ⟨3, j, none⟩=some (.int .u64 ((10 ^ j:Nat):Int))) :
    Calls Tryd.prog 62 #[.int .i64 n, .int .i64 10] w λe w'=>e= .returned (.string ⟨(Lib.itoa n).toArray⟩)/\Below w.heap.size w w':=by
  have mixed:=Tryd.VS.mixed
  have t2:=Tryd.underlying2;have a2:=Tryd.isAgg2;have z2:=Tryd.sizeOf2;have v2:=Tryd.zeroValue2
  have t22:=Tryd.underlying52;have a22:=Tryd.isAgg52;have z22:=Tryd.sizeOf52;have v22:=Tryd.zeroValue52
  have t3:=Tryd.underlying3;have a3:=Tryd.isAgg3;have z3:=Tryd.sizeOf3;have v3:=Tryd.zeroValue3
  have t4:=Tryd.underlying4;have a4:=Tryd.isAgg4;have z4:=Tryd.sizeOf4;have v4:=Tryd.zeroValue4
  have t9:=Tryd.underlying9;have a9:=Tryd.isAgg9;have z9:=Tryd.sizeOf9;have v9:=Tryd.zeroValue9
  have t0:=Tryd.underlying0;have a0:=Tryd.isAgg0;have z0:=Tryd.sizeOf0;have v0:=Tryd.zeroValue0
  have t113:=Tryd.underlying118;have a113:=Tryd.isAgg118;have z113:=Tryd.sizeOf118;have v113:=Tryd.zeroValue118
  have t28:=Tryd.underlying22;have a28:=Tryd.isAgg22;have z28:=Tryd.sizeOf22;have v28:=Tryd.zeroValue22
  have t5:=Tryd.underlying5;have a5:=Tryd.isAgg5;have z5:=Tryd.sizeOf5;have v5:=Tryd.zeroValue5
  have t116:=Tryd.underlying121;have a116:=Tryd.isAgg121;have z116:=Tryd.sizeOf121;have v116:=Tryd.zeroValue121
  have e62:∀ args w, (callFunc 63 args).run Tryd.prog w= .ok (.enter 63 args) w:=enters_of Tryd.func63 (by kernel_rfl) rfl
  have e63:∀ args w, (callFunc 64 args).run Tryd.prog w= .ok (.enter 64 args) w:=enters_of Tryd.func64 (by kernel_rfl) rfl
  have e64:∀ args w, (callFunc 65 args).run Tryd.prog w= .ok (.enter 65 args) w:=enters_of Tryd.func65 (by kernel_rfl) rfl
  by_cases hs:0<=n/\n<100
  · obtain⟨i, rfl⟩:∃ i:Nat, n=i:=⟨n.toNat, by omega⟩
    have hi:i<100:=by omega
    go_enter Tryd.func62, Tryd.ntmps62
    go_wp2_with (go_at_fn 63;refine(Tryd.internal_strconv_small i hi _).mono ?_;rintro e w' ⟨rfl, rfl⟩)
    go_ret
    rw[Lib.itoa_nonneg]
    exact⟨rfl, Below.refl _ _⟩
  · obtain⟨u, hu⟩:∃ u:Nat, n=u\/n= -(u:Int)/\n<0:=⟨n.natAbs, by omega⟩
    have hu1:1<=u:=by omega
    have hu64:u<18446744073709551616:=by omega
    have hnd20:=ZC hu1 hu64
    have hb3:Lib.nDigits u<=23:=by omega
    have hal:Tryd.prog.arrayLen 118=24:=by simp[aAA, t113]
    have hsl1:∀ W, (aAH 118 (.pointer (some ⟨w.heap.size, 0, none⟩)) (some (.int .i64 1)) (some (.int .i64 (1+(Lib.nDigits u:Int)))) none).run Tryd.prog W= .ok (.slice (some ⟨w.heap.size, 1, none⟩) (Lib.nDigits u) 23) W:=λW=>by
      rw[run_sliceAt_array_lh W 118 ⟨w.heap.size, 0, none⟩ (by simp[aAA, aAI, t113]) .i64 .i64 1 (1+(Lib.nDigits u:Int)) (by omega) (by omega) (by rw[hal];omega)]
      go_simp
      omega
    have hsl2:∀ W, (aAH 118 (.pointer (some ⟨w.heap.size, 0, none⟩)) none (some (.int .i64 (1+(Lib.nDigits u:Int)))) none).run Tryd.prog W= .ok (.slice (some ⟨w.heap.size, 0, none⟩) (1+Lib.nDigits u) 24) W:=λW=>by
      rw[run_sliceAt_array_h W 118 ⟨w.heap.size, 0, none⟩ (by simp[aAA, aAI, t113]) .i64 (1+(Lib.nDigits u:Int)) (by omega) (by rw[hal];omega)]
      go_simp
      omega
    have hH0:=ZR w 118 1 (Lib.nDigits u) (by omega)
    have hfmt:=Tryd.internal_strconv_formatBase10 w.heap.size 1 23 u (aAB (Lib.nDigits u) 0) (w.alloc (.cells Lib.zeros24 118)) hH0 (by rw[aA];exact Lib.lt_pow_nDigits u) hu64 (by rw[aA];omega)
    rw[aA]at hfmt
    have HH0:=Lib.hid hH0
    have HT:=Lib.hid hT
    clear hH0 hal hT
    rcases hu with rfl|⟨rfl, hneg⟩
    · go_enter Tryd.func62, Tryd.ntmps62
      go_wp2_with (go_at_fn 64;refine(Tryd.Xr u hu1 hu64 _ (YK HT.out _)).mono ?_;rintro e w' ⟨rfl, rfl⟩)
      go_at_fn 65
      refine hfmt.mono ?_
      rintro e w' ⟨rfl, k, v', dk, rfl, hF⟩
      have hcv:=Abn (P:=Tryd.prog) (cap:=23) (k:=k) HH0.out hF t28 t5 t9
      go_wp2
      go_ret
      rw[Lib.itoa_nonneg]
      exact⟨rfl, YI _ _ _ _ _⟩
    · have hwr:IntKind.u64.wrap (-IntKind.u64.wrap (-(u:Int)))=(u:Int):=by rw[IntKind.wrap_u64, IntKind.wrap_u64];omega
      go_enter Tryd.func62, Tryd.ntmps62
      go_wp2_with (go_at_fn 64;refine(Tryd.Xr u hu1 hu64 _ (YK HT.out _)).mono ?_;rintro e w' ⟨rfl, rfl⟩)
      go_at_fn 65
      refine hfmt.mono ?_
      rintro e w' ⟨rfl, k, v', dk, rfl, hF⟩
      obtain⟨hc0, hf0, hcv⟩:=AcZ (P:=Tryd.prog) (k:=k) HH0.out hF t28 t5 t9
      go_wp2
      go_ret
      rw[Lib.itoa_neg u hu1]
      exact⟨rfl, Acp _ _ _ _ _ _ _⟩
theorem Tryd.Adq (n:Int) (h0: -9223372036854775808<=n) (h1:n<=9223372036854775807) (w:World) (hT:∀ j:Nat, j<20->w.cell? ⟨3, j, none⟩=some (.int .u64 ((10 ^ j:Nat):Int))) :
    Calls Tryd.prog 49 #[.int .i64 n] w λe w'=>e= .returned (.string ⟨(Lib.itoa n).toArray⟩)/\Below w.heap.size w w':=by
  have mixed:=Tryd.VS.mixed
  have t2:=Tryd.underlying2;have a2:=Tryd.isAgg2;have z2:=Tryd.sizeOf2;have v2:=Tryd.zeroValue2
  have t3:=Tryd.underlying3;have a3:=Tryd.isAgg3;have z3:=Tryd.sizeOf3;have v3:=Tryd.zeroValue3
  have t9:=Tryd.underlying9;have a9:=Tryd.isAgg9;have z9:=Tryd.sizeOf9;have v9:=Tryd.zeroValue9
  have e66:∀ args w, (callFunc 62 args).run Tryd.prog w= .ok (.enter 62 args) w:=enters_of Tryd.func62 (by kernel_rfl) rfl
  have HT:=Lib.hid hT
  clear hT
  go_enter Tryd.func49, Tryd.ntmps49
  go_wp2_with (go_at_fn 62;refine(Tryd.Aea n h0 h1 _ HT.out).mono ?_;rintro e w' ⟨rfl, hb⟩)
  go_ret
  exact⟨rfl, hb⟩
theorem Tryd.Aec (n:Int) (h0: -9223372036854775808<=n) (h1:n<=9223372036854775807) (w:World) (hT:∀ j:Nat, j<20->w.cell? ⟨3, j, none⟩=some (.int .u64 ((10 ^ j:Nat):Int))) :
    Calls Tryd.prog 34 #[.int .i64 n] w λe w'=>e= .returned (.string ⟨(Lib.itoa n).toArray⟩)/\Below w.heap.size w w':=by
  have mixed:=Tryd.VS.mixed
  have t2:=Tryd.underlying2;have a2:=Tryd.isAgg2;have z2:=Tryd.sizeOf2;have v2:=Tryd.zeroValue2
  have t3:=Tryd.underlying3;have a3:=Tryd.isAgg3;have z3:=Tryd.sizeOf3;have v3:=Tryd.zeroValue3
  have t9:=Tryd.underlying9;have a9:=Tryd.isAgg9;have z9:=Tryd.sizeOf9;have v9:=Tryd.zeroValue9
  have e47:∀ args w, (callFunc 49 args).run Tryd.prog w= .ok (.enter 49 args) w:=enters_of Tryd.func49 (by kernel_rfl) rfl
  have HT:=Lib.hid hT
  clear hT
  go_enter Tryd.func34, Tryd.ntmps34
  go_wp2_with (go_at_fn 49;refine(Tryd.Adq n h0 h1 _ HT.out).mono ?_;rintro e w' ⟨rfl, hb⟩)
  go_ret
  exact⟨rfl, hb⟩
theorem Tryd.AdC (u:Nat) (hu:u<18446744073709551616) (w:World) (hT:∀ j:Nat, j<20->w.cell? ⟨3, j, none⟩=some (.int .u64 ((10 ^ j:Nat):Int))) :
    Calls Tryd.prog 35 #[.int .u64 u, .int .i64 10] w λe w'=>e= .returned (.string ⟨(Lib.decDigits u).toArray⟩)/\Below w.heap.size w w':=by
  have mixed:=Tryd.VS.mixed
  have t22:=Tryd.underlying52;have a22:=Tryd.isAgg52;have z22:=Tryd.sizeOf52;have v22:=Tryd.zeroValue52
  have t3:=Tryd.underlying3;have a3:=Tryd.isAgg3;have z3:=Tryd.sizeOf3;have v3:=Tryd.zeroValue3
  have t9:=Tryd.underlying9;have a9:=Tryd.isAgg9;have z9:=Tryd.sizeOf9;have v9:=Tryd.zeroValue9
  have e46:∀ args w, (callFunc 50 args).run Tryd.prog w= .ok (.enter 50 args) w:=enters_of Tryd.func50 (by kernel_rfl) rfl
  have HT:=Lib.hid hT
  clear hT
  go_enter Tryd.func35, Tryd.ntmps35
  go_wp2_with (go_at_fn 50;refine(Tryd.Aeb u hu _ HT.out).mono ?_;rintro e w' ⟨rfl, hb⟩)
  go_ret
  exact⟨rfl, hb⟩
/-- (*strings.Builder).WriteByte, in whatever variable that begins with a builder -/
theorem Tryd.Aen {T:TypeId} (hT:ZS Tryd.prog Tryd.Wc T) (b:Nat) (l:List UInt8) (c:Nat) (w:World) (h:Lib.IsBuilderF T 5 0 b (Lib.byteCells l) w) (hc:c<256) (hlen:l.length+1<=140737488355328) :
    Calls Tryd.prog 32 #[.pointer (some ⟨b, 0, none⟩), .int .u8 (c:Int)] w λe w'=>e= .returned .nilIface/\Lib.IsBuilderF T 5 0 b (Lib.byteCells l++[.int .u8 (c:Int)]) w'/\Up w b w':=by
  obtain⟨i0, hi, hz0, hz1, hz2⟩:=info_parts Tryd.Sp.infoByte
  have mixed:=Tryd.WL.mixed
  have t77:=Tryd.underlying58;have a77:=Tryd.isAgg58;have z77:=Tryd.sizeOf58;have v77:=Tryd.zeroValue58;have u77:=run_underlying Tryd.underlying58
  have t79:=Tryd.underlying60;have a79:=Tryd.isAgg60;have z79:=Tryd.sizeOf60;have v79:=Tryd.zeroValue60;have u79:=run_underlying Tryd.underlying60
  have t28:=Tryd.underlying22;have a28:=Tryd.isAgg22;have z28:=Tryd.sizeOf22;have v28:=Tryd.zeroValue22;have u28:=run_underlying Tryd.underlying22
  have t5:=Tryd.underlying5;have a5:=Tryd.isAgg5;have z5:=Tryd.sizeOf5;have v5:=Tryd.zeroValue5;have u5:=run_underlying Tryd.underlying5
  have t81:=Tryd.underlying84;have a81:=Tryd.isAgg84;have z81:=Tryd.sizeOf84;have v81:=Tryd.zeroValue84;have u81:=run_underlying Tryd.underlying84
  have e53:∀ args w, (callFunc 48 args).run Tryd.prog w= .ok (.enter 48 args) w:=enters_of Tryd.func48 (by kernel_rfl) rfl
  have hbl:(Lib.byteCells l).length=l.length:=Lib.byteCells_length l
  obtain⟨p0, v0, hw0⟩:∃ p v, w.heap[b]? =some (.cells #[p, v] T (0, 0)):=by
    rcases h with⟨_, v, h, _⟩|⟨_, v, h, _⟩
    · exact⟨_, v, h⟩
    · exact⟨_, v, h⟩
  have HW0:=Lib.hid hw0
  clear hw0
  go_enter Tryd.func32, Tryd.ntmps32
  go_wp2_with (go_at_fn 48;refine(Aaz { Tryd.WL with } Tryd.Sp.toX72 hT b (Lib.byteCells l) _ h).mono ?_)
  rintro e w1 ⟨rfl, h1, hw1⟩
  have HW1:=Lib.hid hw1
  clear hw1
  obtain⟨hB, v, hbk, hown, hne⟩:=h1
  have c0:w1.cell? ⟨b, 0, none⟩=some (.pointer (some ⟨b, 0, none⟩)):=by rw[Lib.cell_of_heap hbk];rfl
  have c1:w1.cell? ⟨b, 1, none⟩=some v:=by rw[Lib.cell_of_heap hbk];rfl
  have hlt:b<w1.heap.size:=by
    rcases Nat.lt_or_ge b w1.heap.size with h'|h'
    · exact h'
    · simp[Array.getElem?_eq_none h']at hbk
  go_wp2_with (at_builtin;refine Aax rfl _ _ 22 rfl 5 i0 Tryd.underlying22 hi hz0 hz1 hz2 _ _ _ rfl (hown.alloc _) ⟨w1.heap.size, 0, none⟩ 1 (.int .u8 (c:Int)) rfl ?c2 rfl ?c3 ?c4 ?_)
  case c2=>simp
  case c3=>rw[hbl];unfold maxLen;omega
  case c4=>rw[hbl];omega
  intro v' w2 hown' hgrow hloc
  have hb2:w2.heap[b]? =some (.cells #[.pointer (some ⟨b, 0, none⟩), v] T (0, 0)):=by
    rw[hgrow.block b (by simp;omega) (λe=>hne e.symm), Lib.alloc_old w1 _ b hlt]
    exact hbk
  have d0:w2.cell? ⟨b, 0, none⟩=some (.pointer (some ⟨b, 0, none⟩)):=by rw[Lib.cell_of_heap hb2];rfl
  have d1:w2.cell? ⟨b, 1, none⟩=some v:=by rw[Lib.cell_of_heap hb2];rfl
  have f1:w2.frozen? ⟨b, 1, none⟩=false:=Lib.frozen_of_heap hb2 1
  have HL:=Lib.hid hloc
  clear hloc
  obtain⟨ao, n', cap, rfl⟩:∃ ao n' cap, v'= .slice ao n' cap:=by
    rcases hown'.2 with⟨hv, _⟩|⟨g, cap, cur, fz, hv, _⟩
    · exact⟨_, _, _, hv⟩
    · exact⟨_, _, _, hv⟩
  go_wp2
  go_ret
  have hfin:=Lib.BuilderAtF.put (T:=T) (e:=5) (Nat.zero_le b) hb2 (bs':=Lib.byteCells l++[.int .u8 (c:Int)]) (by rw[List.length_append, Lib.byteCells_length, List.length_singleton];exact hown') hT.ne
  refine⟨rfl, .inr hfin, ?_⟩
  have hw1:=HW1.out
  have hw0:=HW0.out
  have s1:w1.heap.size=w.heap.size:=by rcases hw1 with rfl|rfl<;>simp
  have b1:∀ k, k≠b->w1.heap[k]? =w.heap[k]? :=by
    intro k hk
    rcases hw1 with rfl|rfl
    · rfl
    · exact Below.heap_setCell w _ _ k hk
  have vv:v0=v:=by
    have e1:w1.cell? ⟨b, 1, none⟩=some v0:=by
      rcases hw1 with rfl|rfl
      · rw[Lib.cell_of_heap hw0];rfl
      · rw[aAD _ _ _ _ (by simp), Lib.cell_of_heap hw0];rfl
    rw[c1]at e1
    exact(Option.some.inj e1).symm
  subst vv
  have old:∀ k, v0.ownBlock=some k->Go.Dw.QV w b k:=by
    intro k hk
    rcases hown.2 with⟨rfl, _⟩|⟨g, cap, cur, fz, rfl, _⟩
    · cases hk
    · cases hk
      exact .inr ⟨_, _, _, _, hw0⟩
  have e1:w1.os=w.os/\w1.tape=w.tape/\w1.output=w.output:=by rcases hw1 with rfl|rfl<;>exact⟨rfl, rfl, rfl⟩
  refine⟨hgrow.os.trans e1.1, hgrow.tape.trans e1.2.1, hgrow.output.trans e1.2.2, by have:=hgrow.size;simp at this ⊢;omega, λk hk hn=>?_, λk hk=>?_⟩
  · have hkb:k≠b:=λe=>hn (.inl e)
    rw[Below.heap_setCell w2 _ _ k hkb, hgrow.block k (Nat.lt_of_lt_of_le (by omega:k<w1.heap.size) (by simp)) (λe=>hn (old k e.symm)), Lib.alloc_old w1 _ k (by omega), b1 k hkb]
  · rcases hk with rfl|⟨p, n, c', T', hk⟩
    · exact .inl (.inl rfl)
    · obtain⟨_, v3, hv3, hown3, _⟩:=hfin
      have e2:v3= .slice ao n' cap:=by
        have:(w2.setCell ⟨b, 1, none⟩ (.slice ao n' cap)).cell? ⟨b, 1, none⟩=some (.slice ao n' cap):=aAE _ _ _ d1
        rw[Lib.cell_of_heap hv3]at this
        simpa using this
      subst e2
      rw[hv3]at hk
      cases hk
      rcases HL.out with e|e
      · exact .inl (old k (e▸rfl))
      · have hle:w1.heap.size+1<=k:=by simpa using e k rfl
        refine .inr ⟨by omega, ?_⟩
        exact(hown3.lt k rfl).2

end Go.Proofs
namespace Go.Proofs.YtcppfbhmhlhncaaDoor
open Go Go.Dw Go.Proofs Go.Sort Go.RowKit
theorem AeU:Qi Tryd.prog 81 AcC:=AcD (g:=5) ⟨Tryd.f81, Tryd.func81, by decide, rfl⟩ (by kernel_rfl) λx w hx hT=>Any7.bits_TrailingZeros64 Tryd.AcY x hx w hT
theorem Adp:Qi Tryd.prog 51 Abb:=Acm ⟨Tryd.f51, Tryd.func51, by decide, rfl⟩ λs c w=>Tryd.stringslite_Index_one s c w
theorem Abc:Qi Tryd.prog 34 XA:=Aca (g:=3) ⟨Tryd.f34, Tryd.func34, by decide, rfl⟩ (by kernel_rfl) λn h0 h1 w hT=>Tryd.Aec n h0 h1 w hT
theorem AaZ:Qi Tryd.prog 35 Xy:=AbX (g:=3) ⟨Tryd.f35, Tryd.func35, by decide, rfl⟩ (by kernel_rfl) λu hu w hT=>Tryd.AdC u hu w hT
theorem AcX:Qi Tryd.prog 37 ZX:=Acb ⟨Tryd.f37, Tryd.func37, by decide, rfl⟩ (λa c s w=>Tryd.strings_Join_none a c s w) λb o c xs s w h1 h2 h3 h4 h5=>Tryd.strings_Join b o c xs s w h1 h2 h3 h4 h5
abbrev AbV:Dw.Spec:=TT (AcO 62 5)
abbrev Adk:Dw.Spec:=TT (AcK 62 5)
abbrev AbU:Dw.Spec:=TT (AcM 62 5)
theorem Xu:ZS Tryd.prog Tryd.Wc 62:=⟨by kernel_rfl, by decide⟩
theorem AdV:Qi Tryd.prog 33 AbV:=AcP ⟨Tryd.f33, Tryd.func33, by decide, rfl⟩ λb l s w h hl=>Acj { Tryd.WL with } Tryd.Sp Xu b l s w h hl
theorem AdU:Qi Tryd.prog 32 AbU:=AcN ⟨Tryd.f32, Tryd.func32, by decide, rfl⟩ λb l c w h hc hl=>Tryd.Aen Xu b l c w h hc hl
theorem AdT:Qi Tryd.prog 23 Adk:=AcL ⟨Tryd.f23, Tryd.func23, by decide, rfl⟩ λb l w h h0=>AcJ { Tryd.WL with } Tryd.Sp Xu b l w h h0
end Go.Proofs.YtcppfbhmhlhncaaDoor
