/-
  THE LAYER: symbolic semantics of compiled code, and programs on typed data.
-/
import Derived.Test.YtnldnldmgceooaaGreatDoorDc
import Derived.Sort.Row
import Derived.Sort.Grow
import Derived.Lib.SlicesCompact
import Derived.Shelf.Spec.TrailingZeros
import Derived.LaidMore
import Derived.OpenShut
import Derived.MakeChecks
import Derived.Lib.TrailingZeros
namespace Go.Dw
section
variable {α : Type} {c : α → List D} {w : Nat} (hw : ∀ q,(c q).length = w)
include hw
end
section
variable {Γ : As} {X : Type} {K : KR X} {t : Option X} {e : List (Nat × D)} {o : List (Nat × Ac)} {n nv : Nat} {d : Bool} {acc : List CO}
 {r : List Av} {dst : Nat} {g : Option (Nat × Bool)} {af : List Nat} {α : Type}
variable {x y : Arg} {v z z' : D} {s ty gi vi off w j : Nat} {fz var : Bool} {l : List α} {c : α → List D} {q q' : α}
end
end Go.Dw
namespace Go.Dw
open Go
section
variable {Γ : As} {R : Type} {K : R → Au → S → Prop} {t : Option R} {σ τ : S} {b : OH}
def Jy (Γ : As) (b : OH) (Q : Au → S → Prop) : Nat → S → Prop
 | 0,_=>False
 | m + 1,σ=>DWp Γ b (Au.then (fun τ=>∃ τ',Chg τ τ' ∧ Jy Γ b Q m τ') Q) σ
theorem Jy.loop {Q : Au → S → Prop} {m : Nat} (h : Jy Γ b Q m σ) : DWp Γ (.loop b) Q σ:=by
 refine ⟨{ p : Nat × S // Jy Γ b Q p.1 p.2 },fun p=>p.1.2,fun p=>p.1.1,⟨(m,σ),h⟩,.refl _,?_⟩
 rintro ⟨⟨k,σ⟩,h⟩
 simp only at h
 cases k with
 | zero=>exact h.elim
 | succ k =>
  refine Br b _ _ _ (fun e τ hq=>?_) h
  cases e with
  | normal =>
   obtain ⟨τ',h1,h2⟩:=hq
   exact ⟨⟨(k,τ'),h2⟩,Nat.lt_succ_self k,h1⟩
  | exit id=>exact hq
  | ret=>exact hq
end
end Go.Dw
namespace Go.Dw
open Go.Sort
theorem AgS {P : Program} {f : Nat} {r : Bool} {fl : List Int → List Int} {fk : List Int → Nat} (h0 : ∀ zs,(fl zs).length = zs.length ∧ fk zs ≤ zs.length)
  (he : ∀ (w : World) (a : Option Addr) (cap : Nat),Calls P f #[.slice a 0 cap] w fun e w'=>e = .returned (if r then .slice a 0 cap else .tuple #[]) ∧ w' = w)
  (hcon : ∀ (blk off cap : Nat) (zs : List Int) (w : World),Holds (Value.int .i64) w blk off zs.toArray → blk < w.heap.size → zs.length < 4611686018427387904 → zs.length ≤ cap →
   Calls P f #[.slice (some ⟨blk,off,none⟩) zs.length cap] w fun e w'=>e = .returned (if r then .slice (some ⟨blk,off,none⟩) (fk zs) cap else .tuple #[]) ∧
    ∃ n os,w' = grow (putRow (Value.int .i64) (Sort.ahead w n) blk off (fl zs).toArray) os) : HQ P f (r,fl,fk):=by
 refine ⟨h0,he,fun w b off cap ty C zs hpos hbig hcap hC hcell=>?_⟩
 have hb : b < w.heap.size:=(Array.getElem?_eq_some_iff.1 hC).1
 have hH : Holds (Value.int .i64) w b off zs.toArray:=by
  intro j hj
  have hj : j < zs.length:=by simpa using hj
  have hz : zs[j]? = some zs[j]:=List.getElem?_eq_getElem hj
  have hc:=hcell j _ hz
  refine ⟨?_,?_⟩
  ·simp [World.cell?,hC,hc,hj]
  ·simp [World.frozen?,hC]
 refine (hcon b off cap zs w hH hb hbig hcap).mono ?_
 rintro e w' ⟨rfl,n,os,rfl⟩
 have hheap : ∀ k,k < w.heap.size → (grow (putRow (Value.int .i64) (Sort.ahead w n) b off (fl zs).toArray) os).heap[k]? = if b = k then (w.heap[k]?).map (onCells (putCells (Value.int .i64) off (fl zs).toArray)) else w.heap[k]?:=by
  intro k hk
  simp only [grow,putRow,mapBlock,Sort.ahead]
  rw [Array.getElem?_append_left (by simpa using hk),Array.getElem?_modify]
 refine ⟨rfl,rfl,rfl,rfl,?_,fun b' hb' hne=>?_,putCells (Value.int .i64) off (fl zs).toArray C,?_,?_,?_,?_⟩
 ·simp [grow,putRow,mapBlock,Sort.ahead]
 ·rw [hheap b' hb',if_neg (fun e=>hne e.symm)]
 ·rw [hheap b hb,if_pos rfl,hC]; rfl
 ·simp [putCells]
 ·intro k hk
  have hl:=(h0 zs).1
  simp only [putCells,Array.getElem?_mapIdx]
  cases hx : C[k]? with
  | none=>rfl
  | some x =>
   simp only [Option.map_some]
   rw [if_neg]
   simp only [List.size_toArray,hl]
   omega
 ·intro j x hx
  have hl:=(h0 zs).1
  obtain ⟨hj,hjx⟩:=List.getElem?_eq_some_iff.1 (show (fl zs)[j]? = some x from hx)
  have hz : zs[j]? = some (zs[j]'(by omega)):=List.getElem?_eq_getElem _
  have hc:=hcell j _ hz
  simp only [putCells,Array.getElem?_mapIdx,hc,Option.map_some]
  rw [if_pos (by simp; omega)]
  have : off + j - off = j:=by omega
  rw [this]
  simp [hj,hjx]
def AnE (r : Bool) (fl : List Int → List Int) (fk : List Int → Nat) : Spec:=⟨[],.inpl r fl fk,fun _=>False,fun _=>.top,fun _=>[]⟩
theorem Aed (zs : List Int) : (Lib.compact zs).length ≤ zs.length:=by
 unfold Lib.compact Lib.compactUpTo
 rw [List.length_map]
 exact Nat.le_trans (List.length_filter_le _ _) (by simp)
def Aac (zs : List Int) : List Int:=Lib.compact zs ++ List.replicate (zs.length - (Lib.compact zs).length) 0
theorem OU (zs : List Int) : (Aac zs).take (Lib.compact zs).length = Lib.compact zs:=by simp [Aac]
def XK (zs : List Int) : List Int:=zs.mergeSort fun x y=>decide (x ≤ y)
@[simp] theorem AlU (zs : List Int) : (XK zs).length = zs.length:=List.length_mergeSort zs
theorem Ahh (zs : List Int) : (Aac zs).length = zs.length:=by
 have:=Aed zs
 simp [Aac]; omega
end Go.Dw
namespace Go.Dw
open Go.Proofs
def AeT (x : Int) : Option Int:=chk (0 ≤ x ∧ x < 18446744073709551616) (some ((Lib.ctz 64 x.toNat : Nat) : Int))
def DM (a : Int) : List D:=[.int .u64 a]
def EA (ds : List D) : Int:=uI (ds.getD 0 .top)
theorem Jw (a : Int) : EA (DM a) = a:=rfl
instance : Px DM EA:=⟨Jw⟩
def KU (b : Int) : D:=.int .i64 b
def KT (_b : Int) : List D:=[]
def AlY : Dw.Spec:=Pf [] .ground DM EA (fun a=>AeT a) KU KT
theorem Lu : EB = Lib.deBruijn64tab:=by decide
theorem Aoa {P : Program} {f g : Nat} (he : IC P f) (hg : P.globalNamed "math/bits.deBruijn64tab" = some g)
  (h : ∀ (x : Nat) (w : World),x < 18446744073709551616 → (x ≠ 0 → TabAt g Lib.deBruijn64tab w) → Calls P f #[.int .u64 (x : Int)] w fun e w'=>e = .returned (.int .i64 (Lib.ctz 64 x : Nat)) ∧ w' = w) : Pd P f AlY:=by
 intro F0 hG
 refine ⟨he,fun q hq=>(by cases hq),fun _ _ w F ds vs M hsub hF hfin hA hp=>?_,fun φ hφ=>(by cases hφ)⟩
 obtain ⟨a,b,rfl,hb⟩:=hp
 have hr : 0 ≤ a ∧ a < 18446744073709551616:=by
  by_cases hr : 0 ≤ a ∧ a < 18446744073709551616
  ·exact hr
  ·simp [AeT,chk,hr] at hb
 have hfa : AeT a = some ((Lib.ctz 64 a.toNat : Nat) : Int):=by simp [AeT,chk,hr]
 have hb' : (fun a=>AeT a) a = some ((Lib.ctz 64 a.toNat : Nat) : Int):=hfa
 cases hA with
 | ptr j d ds xs M m hp=>cases hp
 | val j d ds x xs M hp hn hx hr' =>
  cases hx
  cases hr'
  have ht : a.toNat ≠ 0 → TabAt g Lib.deBruijn64tab w:=fun _ j hj=>by
   have hj' : j < 64:=by
    have : Lib.deBruijn64tab.length = 64:=by decide
    omega
   rw [← Lu]
   exact hF _ _ _ (hsub _ _ _ (hG g hg j hj'))
  have key:=h a.toNat w (by omega) ht
  have e1 : ((a.toNat : Nat) : Int) = a:=by omega
  rw [e1] at key
  refine key.mono ?_
  rintro e w' ⟨rfl,rfl⟩
  refine ⟨_,F,fun _ _ _=>False,fun _=>False,rfl,hF,hfin,Stp.refl _ _ _,?_,⟨fun k m hm=>by simp at hm,fun _ _ _ h=>h.elim,fun _ _ _ h=>h.elim,fun _ _ _ _ _ h=>h.elim,fun _ _ _ _ h=>h.elim⟩,fun _ _ _ h=>h.elim⟩
  show Fro F ((Pf [] .ground DM EA (fun a=>AeT a) KU KT).res (DM a)) _
  rw [Bp Jw hb']
  exact .int _ _
end Go.Dw
namespace Go.Dw
theorem rf {α : Sort _} {a : α} : a = a:=rfl
abbrev M (d s : Nat) : Av:=⟨some d,.mv (.t s),none,[]⟩
abbrev P (d : Nat) (o : DOp) : Av:=⟨some d,o,none,[]⟩
abbrev T (n : Nat) : Arg:=.t n
abbrev C (n : Int) : Arg:=.c (.int .i64 n)
end Go.Dw
namespace Go.Dw
open Go.ChangeShapes Go.WideShapes Go.ChangeAt Go.RowKit
theorem Alp {P : Program} {laid : List (String × DataW Unit)} {W : World} {t e : TypeId} (h : laidMetH P laid W) (hl : laid = [("math/bits.deBruijn64tab",.agg (EB.map fun n : Nat=>.lit (.int .u8 (n : Int))))])
  (hn : (laid.all fun x=>x.2.handleName?.isNone) = true) (ht : ∀ g,P.globalNamed "math/bits.deBruijn64tab" = some g → (P.globals[g]?).map (·.type) = some t)
  (ha : P.underlying t = some (.array 64 e)) (he : P.underlying e = some (.int .u8)) (hc : P.cellsOf e = 1) : AeF P (Yb W):=by
 rw [MakeChecks.laidMetH_plain _ _ _ hn] at h
 subst hl
 obtain ⟨ps,⟨g0,t0,cs0,f0,p0,q0,hg0,ht0,hv0,hd0,_⟩,_⟩:=h
 intro g hg j hj
 obtain rfl:=Option.some.inj (hg.symm.trans hg0)
 obtain rfl:=Option.some.inj ((ht _ hg0).symm.trans ht0)
 obtain ⟨xs,m,rfl,hx,hlen,hn64,hel⟩:=DataW.trod_array ha hd0
 simp only [Prod.mk.injEq,DataW.agg.injEq] at hx
 have hj':=hel j hj
 rw [hc] at hj'
 have hxj : xs[j]? = some (xs[j]'(by omega)):=List.getElem?_eq_getElem _
 rw [hxj] at hj'
 obtain ⟨k,e1,e2,_⟩:=DataW.trod_int he hj'
 have hk : ((xs.map (·.1))[j]?) = some (.lit (.int .u8 k)):=by
  rw [List.getElem?_map,hxj,Option.map_some,e2]
 rw [← hx.1] at hk
 have ht64 : EB.length = 64:=by decide
 rw [List.getElem?_map,List.getElem?_eq_getElem (show j < EB.length by omega),Option.map_some] at hk
 have hkk : k = ((EB[j]'(by omega) : Nat) : Int):=by simpa using hk.symm
 have hcell:=World.var?_cell hg0 hv0 j
 have hcs : cs0.toList[j]? = some (.int .u8 k):=by
  have h0 : ((cs0.toList.drop (j * 1)).take 1)[0]? = some (.int .u8 k):=by rw [e1]; rfl
  simpa [List.getElem?_take,List.getElem?_drop] using h0
 show W.cell? ⟨g,j,none⟩ = _
 rw [hcell]
 have : cs0[j]? = some (.int .u8 k):=by simpa using hcs
 rw [this,hkk]
 simp [List.getD,List.getElem?_eq_getElem (show j < EB.length by omega)]
def WW (w : Int) : Prop:=0 ≤ w ∧ w < 18446744073709551616
def Abl (w : Int) (j : Nat) : Bool:=w.toNat.testBit j
theorem Ch {w : Int} (h : WW w) : (BitVec.ofInt IntKind.u64.bits w).toNat = w.toNat:=by
 show (BitVec.ofInt 64 w).toNat = w.toNat
 have:=h.1; have:=h.2
 rw [BitVec.toNat_ofInt]
 omega
theorem Acu {n : Nat} (h : n < 18446744073709551616) : IntKind.u64.wrap (n : Int) = n:=by
 simp [IntKind.wrap,IntKind.signed,IntKind.bits]; omega
theorem Aob {n : Int} (h : WW n) : IntKind.u64.wrap n = n:=by
 have:=h.1; have:=h.2
 simp [IntKind.wrap,IntKind.signed,IntKind.bits]; omega
theorem WW.nat {n : Nat} (h : n < 18446744073709551616) : WW (n : Int):=⟨by omega,by omega⟩
theorem WW.toNat_lt {w : Int} (h : WW w) : w.toNat < 18446744073709551616:=by have:=h.1; have:=h.2; omega
theorem Jz (b : BitVec IntKind.u64.bits) : b.toNat < 18446744073709551616:=b.isLt
theorem ApK {x y : Int} (hx : WW x) (hy : WW y) : IntKind.u64.wrap ((BitVec.ofInt IntKind.u64.bits x ||| BitVec.ofInt IntKind.u64.bits y).toNat : Nat) = ((x.toNat ||| y.toNat : Nat) : Int):=by
 rw [Acu (Jz _),BitVec.toNat_or,Ch hx,Ch hy]
theorem ApR {x y : Int} (hx : WW x) (hy : WW y) : IntKind.u64.wrap ((BitVec.ofInt IntKind.u64.bits x &&& BitVec.ofInt IntKind.u64.bits y).toNat : Nat) = ((x.toNat &&& y.toNat : Nat) : Int):=by
 rw [Acu (Jz _),BitVec.toNat_and,Ch hx,Ch hy]
def Ale (x y : Nat) : Nat:=x &&& (18446744073709551615 - y)
theorem AkW {x y : Int} (hx : WW x) (hy : WW y) : IntKind.u64.wrap ((BitVec.ofInt IntKind.u64.bits x &&& ~~~ BitVec.ofInt IntKind.u64.bits y).toNat : Nat) = ((Ale x.toNat y.toNat : Nat) : Int):=by
 rw [Acu (Jz _),BitVec.toNat_and,BitVec.toNat_not,Ch hx,Ch hy]
 rfl
theorem Alf {x y j : Nat} (hx : x < 18446744073709551616) (hy : y < 18446744073709551616) : (Ale x y).testBit j = (x.testBit j && !y.testBit j):=by
 unfold Ale
 rw [Nat.testBit_and]
 by_cases hj : j < 64
 ·have e : 18446744073709551615 - y = 2 ^ 64 - (y + 1):=by omega
  rw [e,Nat.testBit_two_pow_sub_succ (by simpa using hy)]
  simp [hj]
 ·have : x.testBit j = false:=Nat.testBit_lt_two_pow (Nat.lt_of_lt_of_le hx (Nat.pow_le_pow_right (by decide : 0 < 2) (show 64 ≤ j by omega)))
  simp [this]
theorem AiF {x y : Nat} (hx : x < 18446744073709551616) : x &&& y < 18446744073709551616:=Nat.lt_of_le_of_lt Nat.and_le_left hx
theorem AnJ {x y : Nat} (hx : x < 18446744073709551616) (hy : y < 18446744073709551616) : x ||| y < 18446744073709551616:=by
 have:=Nat.or_lt_two_pow (n:=64) (x:=x) (y:=y) (by simpa using hx) (by simpa using hy)
 simpa using this
theorem Aoz {x : Nat} (h0 : 0 < x) (h : x < 18446744073709551616) :
  Lib.ctz 64 x < 64 ∧ x.testBit (Lib.ctz 64 x) = true ∧ (∀ j,j < Lib.ctz 64 x → x.testBit j = false) ∧ ∀ j,(x &&& (x - 1)).testBit j = (x.testBit j && decide (j ≠ Lib.ctz 64 x)):=by
 unfold Lib.ctz
 rw [if_neg (by omega)]
 obtain ⟨m,hm,hk⟩:=Lib.ctzFrom_spec 64 x h0 (by simpa using h)
 generalize Lib.ctzFrom 64 x = k at hm hk
 have hp : 0 < 2 ^ k:=Nat.two_pow_pos k
 have e1 : x = 2 ^ (k + 1) * m + 2 ^ k:=by rw [hm,Nat.pow_succ,Nat.mul_add,Nat.mul_assoc,Nat.mul_one]
 have e2 : x - 1 = 2 ^ (k + 1) * m + (2 ^ k - 1):=by omega
 have b1 : 2 ^ k < 2 ^ (k + 1):=by rw [Nat.pow_succ]; omega
 have t1 : ∀ j,x.testBit j = if j < k + 1 then decide (k = j) else m.testBit (j - (k + 1)):=by
  intro j
  rw [e1,Nat.testBit_two_pow_mul_add _ b1,Nat.testBit_two_pow]
 have t2 : ∀ j,(x - 1).testBit j = if j < k + 1 then decide (j < k) else m.testBit (j - (k + 1)):=by
  intro j
  rw [e2,Nat.testBit_two_pow_mul_add _ (by omega),Nat.testBit_two_pow_sub_one]
 refine ⟨hk,by rw [t1,if_pos (by omega)]; simp,fun j hj=>by rw [t1,if_pos (by omega)]; simp; omega,fun j=>?_⟩
 rw [Nat.testBit_and,t1,t2]
 by_cases hj : j < k + 1
 ·rw [if_pos hj,if_pos hj]
  by_cases hkj : k = j
  ·subst hkj; simp
  ·simp [hkj]
 ·rw [if_neg hj,if_neg hj]
  have : j ≠ k:=by omega
  simp [this]
end Go.Dw
