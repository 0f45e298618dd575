/-
  THE LAYER: symbolic semantics of compiled code, and programs on typed data.
-/
import Derived.Test.YtpagjjmondojpaaGreatDoorDc
import Derived.Shelf.Spec.TrailingZeros
import Derived.LaidMore
import Derived.OpenShut
import Derived.MakeChecks
import Derived.Lib.TrailingZeros
namespace Go.Dw
open Go.Proofs
def AdD (x : Int) : Option Int:=chk (0 ≤ x ∧ x < 18446744073709551616) (some ((Lib.ctz 64 x.toNat : Nat) : Int))
def DM (a : Int) : List D:=[.int .u64 a]
def EB (ds : List D) : Int:=uI (ds.getD 0 .top)
theorem Jy (a : Int) : EB (DM a) = a:=rfl
instance : Pn DM EB:=⟨Jy⟩
def KV (b : Int) : D:=.int .i64 b
def KU (_b : Int) : List D:=[]
def AjY : Dw.Spec:=OT [] .ground DM EB (fun a=>AdD a) KV KU
theorem Lv : EC = Lib.deBruijn64tab:=by decide
theorem AlE {P : Program} {f g : Nat} (he : IE P f) (hg : P.globalNamed "math/bits.deBruijn64tab" = some g)
  (h : ∀ (x : Nat) (w : World),x < 18446744073709551616 → (x ≠ 0 → TabAt g Lib.deBruijn64tab w) → Calls P f #[.int .u64 (x : Int)] w fun e w'=>e = .returned (.int .i64 (Lib.ctz 64 x : Nat)) ∧ w' = w) : OR P f AjY:=by
 intro F0 hG
 refine ⟨he,fun q hq=>(by cases hq),fun _ _ w F ds vs M hsub hF hfin hA hp=>?_,fun φ hφ=>(by cases hφ)⟩
 obtain ⟨a,b,rfl,hb⟩:=hp
 have hr : 0 ≤ a ∧ a < 18446744073709551616:=by
  by_cases hr : 0 ≤ a ∧ a < 18446744073709551616
  ·exact hr
  ·simp [AdD,chk,hr] at hb
 have hfa : AdD a = some ((Lib.ctz 64 a.toNat : Nat) : Int):=by simp [AdD,chk,hr]
 have hb' : (fun a=>AdD a) a = some ((Lib.ctz 64 a.toNat : Nat) : Int):=hfa
 cases hA with
 | ptr j d ds xs M m hp=>cases hp
 | val j d ds x xs M hp hn hx hr' =>
  cases hx
  cases hr'
  have ht : a.toNat ≠ 0 → TabAt g Lib.deBruijn64tab w:=fun _ j hj=>by
   have hj' : j < 64:=by
    have : Lib.deBruijn64tab.length = 64:=by decide
    omega
   rw [← Lv]
   exact hF _ _ _ (hsub _ _ _ (hG g hg j hj'))
  have key:=h a.toNat w (by omega) ht
  have e1 : ((a.toNat : Nat) : Int) = a:=by omega
  rw [e1] at key
  refine key.mono ?_
  rintro e w' ⟨rfl,rfl⟩
  refine ⟨_,F,fun _ _ _=>False,fun _=>False,rfl,hF,hfin,Stp.refl _ _ _,?_,⟨fun k m hm=>by simp at hm,fun _ _ _ h=>h.elim,fun _ _ _ h=>h.elim,fun _ _ _ _ _ h=>h.elim,fun _ _ _ _ h=>h.elim⟩,fun _ _ _ h=>h.elim⟩
  show Fro F ((OT [] .ground DM EB (fun a=>AdD a) KV KU).res (DM a)) _
  rw [Bp Jy hb']
  exact .int _ _
end Go.Dw
namespace Go.Dw
theorem rf {α : Sort _} {a : α} : a = a:=rfl
abbrev M (d s : Nat) : Au:=⟨some d,.mv (.t s),none,[]⟩
abbrev P (d : Nat) (o : DOp) : Au:=⟨some d,o,none,[]⟩
abbrev T (n : Nat) : Arg:=.t n
abbrev C (n : Int) : Arg:=.c (.int .i64 n)
end Go.Dw
namespace Go.Dw
open Go.ChangeShapes Go.WideShapes Go.ChangeAt Go.RowKit
theorem Ajs {P : Program} {laid : List (String × DataW Unit)} {W : World} {t e : TypeId} (h : laidMetH P laid W) (hl : laid = [("math/bits.deBruijn64tab",.agg (EC.map fun n : Nat=>.lit (.int .u8 (n : Int))))])
  (hn : (laid.all fun x=>x.2.handleName?.isNone) = true) (ht : ∀ g,P.globalNamed "math/bits.deBruijn64tab" = some g → (P.globals[g]?).map (·.type) = some t)
  (ha : P.underlying t = some (.array 64 e)) (he : P.underlying e = some (.int .u8)) (hc : P.cellsOf e = 1) : Adl P (Xl W):=by
 rw [MakeChecks.laidMetH_plain _ _ _ hn] at h
 subst hl
 obtain ⟨ps,⟨g0,t0,cs0,f0,p0,q0,hg0,ht0,hv0,hd0,_⟩,_⟩:=h
 intro g hg j hj
 obtain rfl:=Option.some.inj (hg.symm.trans hg0)
 obtain rfl:=Option.some.inj ((ht _ hg0).symm.trans ht0)
 obtain ⟨xs,m,rfl,hx,hlen,hn64,hel⟩:=DataW.trod_array ha hd0
 simp only [Prod.mk.injEq,DataW.agg.injEq] at hx
 have hj':=hel j hj
 rw [hc] at hj'
 have hxj : xs[j]? = some (xs[j]'(by omega)):=List.getElem?_eq_getElem _
 rw [hxj] at hj'
 obtain ⟨k,e1,e2,_⟩:=DataW.trod_int he hj'
 have hk : ((xs.map (·.1))[j]?) = some (.lit (.int .u8 k)):=by
  rw [List.getElem?_map,hxj,Option.map_some,e2]
 rw [← hx.1] at hk
 have ht64 : EC.length = 64:=by decide
 rw [List.getElem?_map,List.getElem?_eq_getElem (show j < EC.length by omega),Option.map_some] at hk
 have hkk : k = ((EC[j]'(by omega) : Nat) : Int):=by simpa using hk.symm
 have hcell:=World.var?_cell hg0 hv0 j
 have hcs : cs0.toList[j]? = some (.int .u8 k):=by
  have h0 : ((cs0.toList.drop (j * 1)).take 1)[0]? = some (.int .u8 k):=by rw [e1]; rfl
  simpa [List.getElem?_take,List.getElem?_drop] using h0
 show W.cell? ⟨g,j,none⟩ = _
 rw [hcell]
 have : cs0[j]? = some (.int .u8 k):=by simpa using hcs
 rw [this,hkk]
 simp [List.getD,List.getElem?_eq_getElem (show j < EC.length by omega)]
def WW (w : Int) : Prop:=0 ≤ w ∧ w < 18446744073709551616
def Aas (w : Int) (j : Nat) : Bool:=w.toNat.testBit j
theorem Ch {w : Int} (h : WW w) : (BitVec.ofInt IntKind.u64.bits w).toNat = w.toNat:=by
 show (BitVec.ofInt 64 w).toNat = w.toNat
 have:=h.1; have:=h.2
 rw [BitVec.toNat_ofInt]
 omega
theorem Abv {n : Nat} (h : n < 18446744073709551616) : IntKind.u64.wrap (n : Int) = n:=by
 simp [IntKind.wrap,IntKind.signed,IntKind.bits]; omega
theorem AlF {n : Int} (h : WW n) : IntKind.u64.wrap n = n:=by
 have:=h.1; have:=h.2
 simp [IntKind.wrap,IntKind.signed,IntKind.bits]; omega
theorem WW.nat {n : Nat} (h : n < 18446744073709551616) : WW (n : Int):=⟨by omega,by omega⟩
theorem WW.toNat_lt {w : Int} (h : WW w) : w.toNat < 18446744073709551616:=by have:=h.1; have:=h.2; omega
theorem JA (b : BitVec IntKind.u64.bits) : b.toNat < 18446744073709551616:=b.isLt
theorem Anl {x y : Int} (hx : WW x) (hy : WW y) : IntKind.u64.wrap ((BitVec.ofInt IntKind.u64.bits x ||| BitVec.ofInt IntKind.u64.bits y).toNat : Nat) = ((x.toNat ||| y.toNat : Nat) : Int):=by
 rw [Abv (JA _),BitVec.toNat_or,Ch hx,Ch hy]
theorem Ans {x y : Int} (hx : WW x) (hy : WW y) : IntKind.u64.wrap ((BitVec.ofInt IntKind.u64.bits x &&& BitVec.ofInt IntKind.u64.bits y).toNat : Nat) = ((x.toNat &&& y.toNat : Nat) : Int):=by
 rw [Abv (JA _),BitVec.toNat_and,Ch hx,Ch hy]
def Ajh (x y : Nat) : Nat:=x &&& (18446744073709551615 - y)
theorem Aja {x y : Int} (hx : WW x) (hy : WW y) : IntKind.u64.wrap ((BitVec.ofInt IntKind.u64.bits x &&& ~~~ BitVec.ofInt IntKind.u64.bits y).toNat : Nat) = ((Ajh x.toNat y.toNat : Nat) : Int):=by
 rw [Abv (JA _),BitVec.toNat_and,BitVec.toNat_not,Ch hx,Ch hy]
 rfl
theorem Aji {x y j : Nat} (hx : x < 18446744073709551616) (hy : y < 18446744073709551616) : (Ajh x y).testBit j = (x.testBit j && !y.testBit j):=by
 unfold Ajh
 rw [Nat.testBit_and]
 by_cases hj : j < 64
 ·have e : 18446744073709551615 - y = 2 ^ 64 - (y + 1):=by omega
  rw [e,Nat.testBit_two_pow_sub_succ (by simpa using hy)]
  simp [hj]
 ·have : x.testBit j = false:=Nat.testBit_lt_two_pow (Nat.lt_of_lt_of_le hx (Nat.pow_le_pow_right (by decide : 0 < 2) (show 64 ≤ j by omega)))
  simp [this]
theorem Ahb {x y : Nat} (hx : x < 18446744073709551616) : x &&& y < 18446744073709551616:=Nat.lt_of_le_of_lt Nat.and_le_left hx
theorem Alq {x y : Nat} (hx : x < 18446744073709551616) (hy : y < 18446744073709551616) : x ||| y < 18446744073709551616:=by
 have:=Nat.or_lt_two_pow (n:=64) (x:=x) (y:=y) (by simpa using hx) (by simpa using hy)
 simpa using this
theorem Amb {x : Nat} (h0 : 0 < x) (h : x < 18446744073709551616) :
  Lib.ctz 64 x < 64 ∧ x.testBit (Lib.ctz 64 x) = true ∧ (∀ j,j < Lib.ctz 64 x → x.testBit j = false) ∧ ∀ j,(x &&& (x - 1)).testBit j = (x.testBit j && decide (j ≠ Lib.ctz 64 x)):=by
 unfold Lib.ctz
 rw [if_neg (by omega)]
 obtain ⟨m,hm,hk⟩:=Lib.ctzFrom_spec 64 x h0 (by simpa using h)
 generalize Lib.ctzFrom 64 x = k at hm hk
 have hp : 0 < 2 ^ k:=Nat.two_pow_pos k
 have e1 : x = 2 ^ (k + 1) * m + 2 ^ k:=by rw [hm,Nat.pow_succ,Nat.mul_add,Nat.mul_assoc,Nat.mul_one]
 have e2 : x - 1 = 2 ^ (k + 1) * m + (2 ^ k - 1):=by omega
 have b1 : 2 ^ k < 2 ^ (k + 1):=by rw [Nat.pow_succ]; omega
 have t1 : ∀ j,x.testBit j = if j < k + 1 then decide (k = j) else m.testBit (j - (k + 1)):=by
  intro j
  rw [e1,Nat.testBit_two_pow_mul_add _ b1,Nat.testBit_two_pow]
 have t2 : ∀ j,(x - 1).testBit j = if j < k + 1 then decide (j < k) else m.testBit (j - (k + 1)):=by
  intro j
  rw [e2,Nat.testBit_two_pow_mul_add _ (by omega),Nat.testBit_two_pow_sub_one]
 refine ⟨hk,by rw [t1,if_pos (by omega)]; simp,fun j hj=>by rw [t1,if_pos (by omega)]; simp; omega,fun j=>?_⟩
 rw [Nat.testBit_and,t1,t2]
 by_cases hj : j < k + 1
 ·rw [if_pos hj,if_pos hj]
  by_cases hkj : k = j
  ·subst hkj; simp
  ·simp [hkj]
 ·rw [if_neg hj,if_neg hj]
  have : j ≠ k:=by omega
  simp [this]
end Go.Dw
