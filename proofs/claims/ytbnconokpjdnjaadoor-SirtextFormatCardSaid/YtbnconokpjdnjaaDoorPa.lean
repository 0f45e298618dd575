/-
  Plain laws about the typed programs.
-/
import Derived.Test.YtbnconokpjdnjaaDoorDc
import Derived.Test.YtbnconokpjdnjaaDoorDxP
namespace Go.Dw
section
variable {ι R α : Type} {body : ι -> Option (ι ⊕ R)} {v : R}
@[simp] theorem UC (l : List α) (i : Nat) : ixO l (i : Int) = l[i]?:=by
 unfold ixO
 rw [if_neg (by omega)]
 simp
theorem Wo (l : List α) {i : Int} (h : 0 <= i) : ixO l i = l[i.toNat]?:=by
 unfold ixO
 rw [if_neg (by omega)]
@[simp] theorem Acz (l : List α) (i : Nat) : ixO l ((i : Int) + 1) = l[i + 1]?:=by
 have:=UC l (i + 1)
 simpa using this
@[simp] theorem AcA (l : List α) : ixO l 0 = l[0]?:=Wo l (Int.le_refl 0)
theorem wrap64 {n : Int} (h0 : -9223372036854775808 <= n) (h1 : n <= 9223372036854775807) : IntKind.i64.wrap n = n:=AbW h0 h1
@[simp] theorem AcJ : IntKind.i64.wrap 0 = 0:=by decide
@[simp] theorem AcK : IntKind.i64.wrap 1 = 1:=by decide
@[simp] theorem AcL : IntKind.i64.wrap 2 = 2:=by decide
@[simp] theorem AcM : IntKind.i64.wrap 3 = 3:=by decide
theorem TQ {i : Nat} (h : i < 9223372036854775807) : IntKind.i64.wrap ((i : Int) + 1) = ((i + 1 : Nat) : Int):=by
 rw [wrap64 (by omega) (by omega)]; rfl
@[simp] theorem Uk (r : R) : (lft (some r) : Option (ι ⊕ R)) = some (.inr r):=rfl
@[simp] theorem AcB : (lft none : Option (ι ⊕ R)) = none:=rfl
@[simp] theorem Uq (s : ι) : (cnt s : Option (ι ⊕ R)) = some (.inl s):=rfl
theorem AbJ (a b : Int) : VP a b = min a b:=by unfold VP; split <;> omega
end
end Go.Dw
namespace Go.Dw
open Go
def Hs {α : Type} (m : Option α) (P : α -> Prop) : Prop:=∃ r,m = some r /\ P r
section
variable {α β ι R : Type}
theorem Hs.pure {a : α} {P : α -> Prop} (h : P a) : Hs (some a) P:=⟨a,rfl,h⟩
theorem Hs.bind {m : Option α} {f : α -> Option β} {P : α -> Prop} {Q : β -> Prop} (h : Hs m P) (hf : ∀ r,P r -> Hs (f r) Q) : Hs (m.bind f) Q:=by
 obtain ⟨r,rfl,hr⟩:=h
 exact hf r hr
theorem Hs.mono {m : Option α} {P Q : α -> Prop} (h : Hs m P) (hf : ∀ r,P r -> Q r) : Hs m Q:=by
 obtain ⟨r,h1,hr⟩:=h
 exact ⟨r,h1,hf r hr⟩
theorem Hs.chk {p : Prop} [Decidable p] {m : Option α} {P : α -> Prop} (hp : p) (h : Hs m P) : Hs (chk p m) P:=by
 rw [QX hp]; exact h
theorem Hs.cond {b : Bool} {x y : Option α} {P : α -> Prop} (h1 : b = true -> Hs x P) (h2 : b = false -> Hs y P) : Hs (bif b then x else y) P:=by
 cases b
 ·exact h2 rfl
 ·exact h1 rfl
theorem Hs.dec {p : Prop} [Decidable p] {x y : Option α} {P : α -> Prop} (h1 : p -> Hs x P) (h2 : ¬ p -> Hs y P) : Hs (bif decide p then x else y) P :=
 Hs.cond (λh=>h1 (of_decide_eq_true h)) (λh=>h2 (of_decide_eq_false h))
theorem Hs.beq {a b : Int} {x y : Option α} {P : α -> Prop} (h1 : a = b -> Hs x P) (h2 : a ≠ b -> Hs y P) : Hs (bif a == b then x else y) P :=
 Hs.cond (λh=>h1 (by simpa using h)) (λh=>h2 (by simpa using h))
theorem Hs.cnt {s : ι} {P : ι ⊕ R -> Prop} (h : P (.inl s)) : Hs (Go.Dw.cnt s) P:=⟨_,rfl,h⟩
theorem Hs.lft {m : Option R} {P : ι ⊕ R -> Prop} (h : Hs m λr=>P (.inr r)) : Hs (Go.Dw.lft m) P:=by
 obtain ⟨r,rfl,h⟩:=h
 exact ⟨_,rfl,h⟩
def Rnd (I : ι -> Prop) (μ : ι -> Nat) (s : ι) (Q : R -> Prop) : ι ⊕ R -> Prop
 | .inl s'=>I s' /\ μ s' < μ s
 | .inr r=>Q r
theorem Hs.loop {body : ι -> Option (ι ⊕ R)} {s : ι} {Q : R -> Prop} (I : ι -> Prop) (μ : ι -> Nat) (h0 : I s) (hb : ∀ s,I s -> Hs (body s) (Rnd I μ s Q)) : Hs (Rk body s) Q:=by
 refine AaC I Q μ h0 λs hs=>?_
 obtain ⟨z,hz,hq⟩:=hb s hs
 cases z with
 | inl s'=>exact .inl ⟨s',hz,hq⟩
 | inr r=>exact .inr ⟨r,hz,hq⟩
theorem Hs.get {l : List α} {i : Int} {P : α -> Prop} (h0 : 0 <= i) (h1 : i < l.length) (h : ∀ x,l[i.toNat]? = some x -> P x) : Hs (l[i.toNat]?) P:=by
 have : l[i.toNat]? = some (l[i.toNat]'(by omega)):=List.getElem?_eq_getElem _
 exact ⟨_,this,h _ this⟩
theorem Hs.ix {l : List α} {i : Int} {P : α -> Prop} (h0 : 0 <= i) (h1 : i < l.length) (h : ∀ x,l[i.toNat]? = some x -> P x) : Hs (ixO l i) P:=by
 rw [Wo _ h0]; exact Hs.get h0 h1 h
end
theorem YW (n : Int) : 0 <= IntKind.u64.wrap n /\ IntKind.u64.wrap n < 18446744073709551616:=by
 simp [IntKind.wrap,IntKind.signed,IntKind.bits]; omega
end Go.Dw
namespace Go.Proofs.YtbnconokpjdnjaaDoor
open Go Go.Dw Go.Proofs
theorem Abm : ∀ k : Fin 17,UI ((k : Nat) : Int) = TI ((k : Nat) : Int) /\ (TI ((k : Nat) : Int)).isSome = true:=by decide +kernel
theorem Zb (n : Int) : ∃ b,UI n = some b /\ TI n = some b:=by
 by_cases h : 1 <= n /\ n <= 16
 ·have:=Abm ⟨n.toNat,by omega⟩
  rw [show (((⟨n.toNat,by omega⟩ : Fin 17) : Nat) : Int) = n by simp; omega] at this
  obtain ⟨b,hb⟩:=Option.isSome_iff_exists.1 this.2
  exact ⟨b,this.1.trans hb,hb⟩
 ·refine ⟨false,?_,?_⟩
  ·unfold UI
   by_cases h1 : n >= 1
   ·have h2 : ¬ n <= 16:=by omega
    simp [h1,h2]
   ·simp [h1]
  ·unfold TI
   have e1 : (n == 1) = false:=by simp; omega
   have e2 : (n == 2) = false:=by simp; omega
   have e3 : (n == 4) = false:=by simp; omega
   have e4 : (n == 8) = false:=by simp; omega
   have e5 : (n == 16) = false:=by simp; omega
   simp [e1,e2,e3,e4,e5]
def Pw (n : Int) : Prop:=∃ i : Nat,i <= 24 /\ n = (2 ^ i : Nat)
theorem Xm (n : Int) (j : Nat) (hj : j <= 24) : RM n ((2 ^ j : Nat) : Int) = if n = (2 ^ j : Nat) then some (.inr true) else some (.inl ((2 ^ (j + 1) : Nat) : Int)):=by
 have h1 : 2 ^ j <= 2 ^ 24:=Nat.pow_le_pow_right (by decide) hj
 have h2 : (2 ^ j : Nat) <= 16777216:=by simpa using h1
 have w : IntKind.i64.wrap (((2 ^ j : Nat) : Int) * 2) = ((2 ^ (j + 1) : Nat) : Int):=by
  rw [Nat.pow_succ]
  generalize 2 ^ j = q at h2
  rw [wrap64 (by omega) (by omega)]; omega
 unfold RM
 have hd : decide (((2 ^ j : Nat) : Int) <= 16777216) = true:=by simp only [decide_eq_true_eq]; omega
 rw [hd,cond_true]
 by_cases e : n = (2 ^ j : Nat)
 ·have : (n == ((2 ^ j : Nat) : Int)) = true:=by simpa using e
  rw [this,cond_true,if_pos e,Uk]
 ·have : (n == ((2 ^ j : Nat) : Int)) = false:=by simpa using e
  rw [this,cond_false,if_neg e,Uq,w]
theorem AaP (n : Int) : ∀ (d j : Nat),j + d <= 24 -> n = (2 ^ (j + d) : Nat) -> Rk (λs=>RM n s) ((2 ^ j : Nat) : Int) = some true:=by
 intro d
 induction d with
 | zero =>
  intro j hj hn
  rw [Rb]
  rw [Xm n j (by omega),if_pos (by simpa using hn)]
 | succ d ih =>
  intro j hj hn
  rw [Rb]
  rw [Xm n j (by omega),if_neg]
  ·exact ih (j + 1) (by omega) (by rw [hn,show j + (d + 1) = j + 1 + d by omega])
  ·intro e
   have : 2 ^ j < 2 ^ (j + (d + 1)):=Nat.pow_lt_pow_right (by decide) (by omega)
   omega
theorem Yw (n : Int) (h : ¬ Pw n) : ∀ (d j : Nat),j + d = 25 -> Rk (λs=>RM n s) ((2 ^ j : Nat) : Int) = some false:=by
 intro d
 induction d with
 | zero =>
  intro j hj
  obtain rfl : j = 25:=by omega
  rw [Rb]
  have : RM n ((2 ^ 25 : Nat) : Int) = some (.inr false):=by
   unfold RM
   rfl
  rw [this]
 | succ d ih =>
  intro j hj
  rw [Rb]
  rw [Xm n j (by omega),if_neg (λe=>h ⟨j,by omega,e⟩)]
  exact ih (j + 1) (by omega)
theorem AbM {i : Nat} (h : 2 ^ i <= 16777216) : i <= 24:=by
 by_cases hi : i <= 24
 ·exact hi
 ·have : 2 ^ 25 <= 2 ^ i:=Nat.pow_le_pow_right (by decide) (by omega)
  omega
theorem Yt (n : Int) : ∃ b,Tk n = some b /\ Ur n = some b:=by
 have hr : Ur n = Rk (λs=>RM n s) ((2 ^ 0 : Nat) : Int):=rfl
 by_cases h : 1 <= n /\ n <= 16777216
 ·obtain ⟨m,rfl⟩ : ∃ m : Nat,n = m:=⟨n.toNat,by omega⟩
  have e1 : Tk (m : Int) = some (decide (m &&& (m - 1) = 0)):=by
   unfold Tk
   have h1 : ((m : Int) >= 1):=h.1
   have h2 : ((m : Int) <= 16777216):=h.2
   have w : IntKind.i64.wrap ((m : Int) - 1) = ((m - 1 : Nat) : Int):=by rw [wrap64 (by omega) (by omega)]; omega
   have t1 : (BitVec.ofInt IntKind.i64.bits (m : Int)).toNat = m:=by
    show (BitVec.ofInt 64 (m : Int)).toNat = m
    rw [BitVec.toNat_ofInt]; omega
   have t2 : (BitVec.ofInt IntKind.i64.bits ((m - 1 : Nat) : Int)).toNat = m - 1:=by
    show (BitVec.ofInt 64 ((m - 1 : Nat) : Int)).toNat = m - 1
    rw [BitVec.toNat_ofInt]; omega
   have hle : m &&& (m - 1) <= m:=Nat.and_le_left
   have w2 : IntKind.i64.wrap ((m &&& (m - 1) : Nat) : Int) = ((m &&& (m - 1) : Nat) : Int):=wrap64 (by omega) (by omega)
   rw [decide_eq_true h1,cond_true,decide_eq_true h2,cond_true,w,BitVec.toNat_and,t1,t2,w2]
   congr 1
   by_cases e : m &&& (m - 1) = 0 <;> simp [e]
  by_cases hp : m &&& (m - 1) = 0
  ·obtain ⟨i,hi⟩:=(Nat.and_sub_one_eq_zero_iff_isPowerOfTwo (show m ≠ 0 by omega)).1 hp
   refine ⟨true,by rw [e1,decide_eq_true hp],?_⟩
   rw [hr]
   exact AaP _ i 0 (by have:=AbM (i:=i) (by omega); omega) (by rw [hi]; simp)
  ·refine ⟨false,by rw [e1,decide_eq_false hp],?_⟩
   rw [hr]
   refine Yw _ (λ⟨i,_,hi⟩=>hp ?_) 25 0 (by omega)
   exact (Nat.and_sub_one_eq_zero_iff_isPowerOfTwo (show m ≠ 0 by omega)).2 ⟨i,by omega⟩
 ·refine ⟨false,?_,?_⟩
  ·unfold Tk
   by_cases h1 : n >= 1
   ·have h2 : ¬ n <= 16777216:=by omega
    simp [h1,h2]
   ·simp [h1]
  ·rw [hr]
   refine Yw _ (λ⟨i,hi24,hi⟩=>h ?_) 25 0 (by omega)
   have h1 : 2 ^ i <= 2 ^ 24:=Nat.pow_le_pow_right (by decide) hi24
   have h2 : 0 < 2 ^ i:=Nat.two_pow_pos i
   have h3 : (2 ^ i : Nat) <= 16777216:=by simpa using h1
   omega
noncomputable def UR (x : QO) : Bool:=(TI x.Size).getD false && (Ur x.Align).getD false
theorem AaG (x : QO) : Ub x = some (!UR x):=by
 obtain ⟨a,a1,a2⟩:=Zb x.Size
 obtain ⟨b,b1,b2⟩:=Yt x.Align
 unfold Ub UR
 rw [a1,a2,b1,b2]
 cases a <;> cases b <;> rfl
def WT (s : List QO) (e : Int) : Prop:=(512 < s.length /\ e = 3) \/ (s.length <= 512 /\ (∀ x ∈ s,UR x = true) /\ e = 0) \/ (s.length <= 512 /\ (∃ x ∈ s,UR x = false) /\ e = 5)
theorem WT.one {s : List QO} {a b : Int} (h : WT s a) (k : WT s b) : a = b:=by
 rcases h with ⟨h1,h2⟩ | ⟨h1,h2,h3⟩ | ⟨h1,⟨x,h2,h3⟩,h4⟩ <;> rcases k with ⟨k1,k2⟩ | ⟨k1,k2,k3⟩ | ⟨k1,⟨y,k2,k3⟩,k4⟩ <;> first
  | omega
  | (have:=h2 y k2; rw [this] at k3; cases k3)
  | (have:=k2 x h2; rw [this] at h3; cases h3)
theorem Zx (s : List QO) : Hs (Ua s) (WT s):=by
 unfold Ua Rp Ru
 refine .dec (λh=>.pure (.inl ⟨by omega,rfl⟩)) λh=>?_
 have hl : s.length <= 512:=by omega
 have key : Hs (Rk (λst=>Rl s st) 0) λr=>(r = -1 /\ ∀ x ∈ s,UR x = true) \/ (0 <= r /\ ∃ x ∈ s,UR x = false):=by
  refine Hs.loop (λi=>0 <= i /\ i <= s.length /\ ∀ (j : Nat) x,(j : Int) < i -> s[j]? = some x -> UR x = true) (λi=>s.length - i.toNat) ⟨by omega,by omega,λj x h=>by omega⟩ ?_
  rintro i ⟨h0,h1,h2⟩
  unfold Rl
  refine .dec (λhlt=>?_) λhlt=>?_
  ·refine (Hs.ix h0 hlt λx hx=>hx).bind λx hx=>?_
   rw [AaG,Option.bind_some]
   refine .cond (λhb=>.lft (.pure (.inr ⟨h0,x,List.mem_of_getElem? hx,by simpa using hb⟩))) λhb=>?_
   have w : IntKind.i64.wrap (i + 1) = i + 1:=wrap64 (by omega) (by omega)
   rw [w]
   refine .cnt ⟨⟨by omega,by omega,λj y hj hy=>?_⟩,by dsimp only; omega⟩
   by_cases e : (j : Int) = i
   ·have : i.toNat = j:=by omega
    rw [this,hy] at hx; cases hx
    simpa using hb
   ·exact h2 j y (by omega) hy
  ·refine .lft (.pure (.inl ⟨rfl,λx hx=>?_⟩))
   obtain ⟨j,hj⟩:=List.mem_iff_getElem?.1 hx
   have:=(List.getElem?_eq_some_iff.1 hj).1
   exact h2 j x (by omega) hj
 refine Hs.bind (P:=λb=>(b = false /\ ∀ x ∈ s,UR x = true) \/ (b = true /\ ∃ x ∈ s,UR x = false)) (key.bind λr hr=>.pure ?_) λb hb=>?_
 ·rcases hr with ⟨rfl,h⟩ | ⟨h0,h⟩
  ·exact .inl ⟨rfl,h⟩
  ·exact .inr ⟨by simpa using h0,h⟩
 ·rcases hb with ⟨rfl,h⟩ | ⟨rfl,h⟩
  ·exact .pure (.inr (.inl ⟨hl,h,rfl⟩))
  ·exact .pure (.inr (.inr ⟨hl,h,rfl⟩))
theorem AaO (s : List QO) : Hs (Us s) (WT s):=by
 unfold Us
 refine .dec (λh=>.pure (.inl ⟨by omega,rfl⟩)) λh=>?_
 have hl : s.length <= 512:=by omega
 refine Hs.loop (λi=>0 <= i /\ i <= s.length /\ ∀ (j : Nat) x,(j : Int) < i -> s[j]? = some x -> UR x = true) (λi=>s.length - i.toNat) ⟨by omega,by omega,λj x h=>by omega⟩ ?_
 rintro i ⟨h0,h1,h2⟩
 unfold UD
 refine .dec (λhlt=>?_) λhlt=>?_
 ·refine (Hs.ix h0 hlt λx hx=>hx).bind λx hx=>?_
  obtain ⟨a,a1,a2⟩:=Zb x.Size
  obtain ⟨b,b1,b2⟩:=Yt x.Align
  have hg : UR x = (a && b):=by unfold UR; rw [a2,b2]; rfl
  rw [a2,Option.bind_some]
  have hx' : ixO s i = some x:=by rw [Wo _ h0]; exact hx
  cases a
  ·exact .lft (.pure (.inr (.inr ⟨hl,⟨x,List.mem_of_getElem? hx,hg⟩,rfl⟩)))
  ·simp only [Bool.not_true,cond_false]
   rw [hx',Option.bind_some,b2,Option.bind_some]
   cases b
   ·exact .lft (.pure (.inr (.inr ⟨hl,⟨x,List.mem_of_getElem? hx,hg⟩,rfl⟩)))
   ·simp only [Bool.not_true,cond_false]
    have w : IntKind.i64.wrap (i + 1) = i + 1:=wrap64 (by omega) (by omega)
    rw [w]
    refine .cnt ⟨⟨by omega,by omega,λj y hj hy=>?_⟩,by dsimp only; omega⟩
    by_cases e : (j : Int) = i
    ·have : i.toNat = j:=by omega
     rw [this,hy] at hx; cases hx
     exact hg
    ·exact h2 j y (by omega) hy
 ·refine .lft (.pure (.inr (.inl ⟨hl,λx hx=>?_,rfl⟩)))
  obtain ⟨j,hj⟩:=List.mem_iff_getElem?.1 hx
  have:=(List.getElem?_eq_some_iff.1 hj).1
  exact h2 j x (by omega) hj
theorem AaB (s : List QO) : ∃ e,Ua s = some e /\ Us s = some e /\ (e = 0 -> s.length <= 512):=by
 obtain ⟨a,a1,a2⟩:=Zx s
 obtain ⟨b,b1,b2⟩:=AaO s
 obtain rfl:=a2.one b2
 exact ⟨a,a1,b1,λh=>by rcases a2 with h1 | h1 | h1 <;> omega⟩
end Go.Proofs.YtbnconokpjdnjaaDoor
namespace Go.Proofs.YtbnconokpjdnjaaDoor
open Go Go.Dw Go.Proofs
def win (n l : Int) : Bool:=decide (0 <= n /\ n < l)
theorem Ui (n l : Int) : TN n l = some (win n l):=by
 unfold TN win
 by_cases h : 0 <= n
 ·have h1 : n >= 0:=h
  simp [h1]
 ·have h1 : ¬ n >= 0:=h
  simp [h1]
theorem Rf (n l : Int) : Rs n l = some (win n l):=Ui n l
theorem Rg (n : Int) : Rt n = some (win n 8):=Ui n 8
theorem ZT (e : RU) (x : Ed) (p : Mk) (f : QT) : Rk (λs=>Sp e x p f s) 0 =
  if e.a = 0 /\ x.A ≠ 0 then some 2 else if e.b = 0 /\ x.B ≠ 0 then some 2 else if e.c = 0 /\ x.C ≠ 0 then some 2 else if e.imm = false /\ x.Imm ≠ 0 then some 2 else SR p f e x:=by
 have step : ∀ (i : Nat) (k n : Int),i < 3 -> ((RA.mk e.a e.b e.c).toList)[i]? = some k -> ((RA.mk x.A x.B x.C).toList)[i]? = some n -> Sp e x p f (i : Int) = if k = 0 /\ n ≠ 0 then some (.inr 2) else some (.inl ((i + 1 : Nat) : Int)):=by
  intro i k n hi h1 h2
  have w : IntKind.i64.wrap ((i : Int) + 1) = ((i + 1 : Nat) : Int):=TQ (by omega)
  unfold Sp
  rw [decide_eq_true (show (i : Int) < 3 by omega),cond_true,QX (by omega),Int.toNat_natCast,h1,Option.bind_some,w]
  by_cases hk : k = 0
  ·have hk' : (k == 0) = true:=by simpa using hk
   rw [hk',cond_true,QX (by omega),h2,Option.bind_some]
   by_cases hn : n = 0
   ·have : (n != 0) = false:=by simpa using hn
    rw [this,cond_false,if_neg (λh=>h.2 hn),Uq]
   ·have : (n != 0) = true:=by simpa using hn
    rw [this,cond_true,if_pos ⟨hk,hn⟩,Uk]
  ·have : (k == 0) = false:=by simpa using hk
   rw [this,cond_false,if_neg (λh=>hk h.1),Uq]
 have s0:=step 0 e.a x.A (by omega) rfl rfl
 have s1:=step 1 e.b x.B (by omega) rfl rfl
 have s2:=step 2 e.c x.C (by omega) rfl rfl
 have s3 : Sp e x p f 3 = lft (if e.imm = false /\ x.Imm ≠ 0 then some 2 else SR p f e x):=by
  unfold Sp
  cases hi : e.imm
  ·by_cases hx : x.Imm = 0
   ·simp [hx]
   ·have hx' : (x.Imm != 0) = true:=by simpa using hx
    simp [hx',hx]
  ·simp
 have s0 : Sp e x p f 0 = if e.a = 0 /\ x.A ≠ 0 then some (.inr 2) else some (.inl ((0 + 1 : Nat) : Int)):=s0
 rw [Rb,s0]
 by_cases c0 : e.a = 0 /\ x.A ≠ 0
 ·rw [if_pos c0,if_pos c0]
 rw [if_neg c0,if_neg c0]
 dsimp only
 rw [Rb,s1]
 by_cases c1 : e.b = 0 /\ x.B ≠ 0
 ·rw [if_pos c1,if_pos c1]
 rw [if_neg c1,if_neg c1]
 dsimp only
 rw [Rb,s2]
 by_cases c2 : e.c = 0 /\ x.C ≠ 0
 ·rw [if_pos c2,if_pos c2]
 rw [if_neg c2,if_neg c2]
 dsimp only
 rw [Rb,show ((2 + 1 : Nat) : Int) = 3 from rfl,s3]
 generalize (if e.imm = false /\ x.Imm ≠ 0 then some 2 else SR p f e x) = m
 cases m <;> rfl
def RH (L : Ra) (w k n : Int) : Option Int:=if win n (L.toList.getD k.toNat 0) then some w else if k ≠ 6 then none else some 6
theorem ZU (e : RU) (x : Ed) (L : Ra) (f : QT) (ha : 0 <= e.a /\ e.a < 7) (hb : 0 <= e.b /\ e.b < 7) (hc : 0 <= e.c /\ e.c < 7) : Rk (λs=>Sq e x L f s.1 s.2) (0,0) =
  (RH L 0 e.a x.A).elim (some 4) λw1=>(RH L w1 e.b x.B).elim (some 4) λw2=>(RH L w2 e.c x.C).elim (some 4) λw3=>if x.Op = 17 then (ixO f.Slots x.A).bind λs=>(ixO f.Slots x.B).bind λs'=>if s.Size ≠ s'.Size then some 5 else some w3 else some w3:=by
 have step : ∀ (i : Nat) (w k n : Int),i < 3 -> 0 <= k /\ k < 7 -> ((RA.mk e.a e.b e.c).toList)[i]? = some k -> ((RA.mk x.A x.B x.C).toList)[i]? = some n ->
   Sq e x L f w (i : Int) = match RH L w k n with | none=>some (.inr 4) | some w'=>some (.inl (w',((i + 1 : Nat) : Int))):=by
  intro i w k n hi hk h1 h2
  have ww : IntKind.i64.wrap ((i : Int) + 1) = ((i + 1 : Nat) : Int):=TQ (by omega)
  have hg : L.toList[k.toNat]? = some (L.toList.getD k.toNat 0):=by
   have hl : k.toNat < L.toList.length:=by show k.toNat < 7; omega
   rw [List.getD_eq_getElem?_getD,List.getElem?_eq_getElem hl]; rfl
  unfold Sq RH
  rw [decide_eq_true (show (i : Int) < 3 by omega),cond_true,QX (by omega),Int.toNat_natCast,h1,Option.bind_some,QX (by omega),h2,Option.bind_some,QX hk,hg,Option.bind_some,Ui,Option.bind_some,ww]
  cases win n (L.toList.getD k.toNat 0)
  ·by_cases h6 : k = 6
   ·subst h6; rfl
   ·have : (k != 6) = true:=by simpa using h6
    simp only [cond_false,this,cond_true,Uk,ne_eq,h6,not_false_eq_true,if_true,Bool.false_eq_true,if_false]
  ·simp
 have s0:=λw=>step 0 w e.a x.A (by omega) ha rfl rfl
 have s1:=λw=>step 1 w e.b x.B (by omega) hb rfl rfl
 have s2:=λw=>step 2 w e.c x.C (by omega) hc rfl rfl
 have s3 : ∀ w,Sq e x L f w 3 = lft (if x.Op = 17 then (ixO f.Slots x.A).bind λs=>(ixO f.Slots x.B).bind λs'=>if s.Size ≠ s'.Size then some 5 else some w else some w):=by
  intro w
  unfold Sq
  by_cases h : x.Op = 17
  ·simp only [h,beq_self_eq_true,cond_true,if_true,Int.lt_irrefl,decide_false,cond_false]
   congr 1
   refine congrArg _ (funext λs=>congrArg _ (funext λs'=>?_))
   by_cases hs : s.Size = s'.Size
   ·simp [hs]
   ·have hs' : (s.Size != s'.Size) = true:=by simpa using hs
    rw [hs',cond_true,if_pos hs]
  ·have : (x.Op == 17) = false:=by simpa using h
   simp [this,h]
 rw [Rb]
 dsimp only
 have s0 : Sq e x L f 0 0 = match RH L 0 e.a x.A with | none=>some (.inr 4) | some w'=>some (.inl (w',((0 + 1 : Nat) : Int))):=s0 0
 rw [s0]
 cases RH L 0 e.a x.A with
 | none=>rfl
 | some w1 =>
  simp only [Option.elim_some]
  rw [Rb]
  dsimp only
  rw [s1]
  cases RH L w1 e.b x.B with
  | none=>rfl
  | some w2 =>
   simp only [Option.elim_some]
   rw [Rb]
   dsimp only
   rw [s2]
   cases RH L w2 e.c x.C with
   | none=>rfl
   | some w3 =>
    simp only [Option.elim_some]
    rw [Rb]
    dsimp only
    rw [show ((2 + 1 : Nat) : Int) = 3 from rfl,s3]
    generalize (if x.Op = 17 then (ixO f.Slots x.A).bind λs=>(ixO f.Slots x.B).bind λs'=>if s.Size ≠ s'.Size then some 5 else some w3 else some w3) = m
    cases m <;> rfl
theorem Zy (p : Mk) (f : QT) (x : Ed) {k : Nat} (hk : x.Op = k) (hlt : k < 25) {q : Int × Int × Int × Bool} (hq : TL[k]? = some q) (h1 : 0 <= q.1 /\ q.1 < 7) (h2 : 0 <= q.2.1 /\ q.2.1 < 7) (h3 : 0 <= q.2.2.1 /\ q.2.2.1 < 7) : TM p f x =
  if q.1 = 0 /\ x.A ≠ 0 then some 2 else if q.2.1 = 0 /\ x.B ≠ 0 then some 2 else if q.2.2.1 = 0 /\ x.C ≠ 0 then some 2 else if q.2.2.2 = false /\ x.Imm ≠ 0 then some 2 else
   (RH (Ra.mk 1 8 (f.Slots.length : Int) (p.Funcs.length : Int) 8 f.Params (f.Code.length : Int)) 0 q.1 x.A).elim (some 4) λw1=>(RH (Ra.mk 1 8 (f.Slots.length : Int) (p.Funcs.length : Int) 8 f.Params (f.Code.length : Int)) w1 q.2.1 x.B).elim (some 4) λw2=>(RH (Ra.mk 1 8 (f.Slots.length : Int) (p.Funcs.length : Int) 8 f.Params (f.Code.length : Int)) w2 q.2.2.1 x.C).elim (some 4) λw3=>if x.Op = 17 then (ixO f.Slots x.A).bind λs=>(ixO f.Slots x.B).bind λs'=>if s.Size ≠ s'.Size then some 5 else some w3 else some w3:=by
 unfold TM
 have hw : win x.Op 25 = true:=by unfold win; simp; omega
 rw [Ui,Option.bind_some,hw]
 simp only [Bool.not_true,cond_false]
 rw [QX (by omega),show x.Op.toNat = k by omega,List.getElem?_map,hq,Option.map_some,Option.bind_some,ZT]
 dsimp only
 unfold SR VE
 rw [Option.bind_some,ZU _ _ _ _ h1 h2 h3]
theorem AcF (p : Mk) (f : QT) (i k : Int) (x : Ed) (hi : ixO p.Funcs i = some f) (_hk : ixO f.Code k = some x) (hwi : win i p.Funcs.length = true) (hwk : win k f.Code.length = true) : SF p i k = SE p i k:=by
 unfold SF
 rw [Rf,Option.bind_some,hwi]
 simp only [Bool.not_true,cond_false]
 rw [hi,Option.bind_some,Rf,Option.bind_some,hwk]
 rfl
theorem RD (c : Prop) [Decidable c] (w : Int) (X : Option Int) (Y : Int -> Option Int) : (if c then some w else none).elim X Y = if c then Y w else X:=by split <;> rfl
theorem Zv (c : Prop) [Decidable c] (w v : Int) (X : Option Int) (Y : Int -> Option Int) : (if c then some w else some v).elim X Y = if c then Y w else Y v:=by split <;> rfl
theorem SJ (n : Int) : win n 1 = true ↔ n = 0:=by unfold win; simp; omega
set_option maxHeartbeats 4000000 in
theorem Aaw (p : Mk) (f : QT) (i k : Int) (x : Ed) (hi : ixO p.Funcs i = some f) (hk : ixO f.Code k = some x) (hwi : win i p.Funcs.length = true) (hwk : win k f.Code.length = true) : TM p f x = SF p i k:=by
 rw [AcF p f i k x hi hk hwi hwk]
 unfold SE
 rw [hi,Option.bind_some,hk,Option.bind_some,Rf,Option.bind_some]
 by_cases hop : 0 <= x.Op /\ x.Op < 25
 ·have hw : win x.Op 25 = true:=by unfold win; simpa using hop
  rw [hw]
  simp only [Bool.not_true,cond_false]
  obtain ⟨op,A,B,C,I⟩:=x
  dsimp only at hop hw ⊢
  have h25 : op = 0 \/ op = 1 \/ op = 2 \/ op = 3 \/ op = 4 \/ op = 5 \/ op = 6 \/ op = 7 \/ op = 8 \/ op = 9 \/ op = 10 \/ op = 11 \/ op = 12 \/ op = 13 \/ op = 14 \/ op = 15 \/ op = 16 \/ op = 17 \/ op = 18 \/ op = 19 \/ op = 20 \/ op = 21 \/ op = 22 \/ op = 23 \/ op = 24:=by omega
  have one : ∀ kk : Nat,op = kk -> kk < 25 -> ∀ q,TL[kk]? = some q -> 0 <= q.1 /\ q.1 < 7 -> 0 <= q.2.1 /\ q.2.1 < 7 -> 0 <= q.2.2.1 /\ q.2.2.1 < 7 -> _:=λkk e hl q hq h1 h2 h3=>Zy p f ⟨op,A,B,C,I⟩ (k:=kk) e hl hq h1 h2 h3
  rcases h25 with rfl | rfl | rfl | rfl | rfl | rfl | rfl | rfl | rfl | rfl | rfl | rfl | rfl | rfl | rfl | rfl | rfl | rfl | rfl | rfl | rfl | rfl | rfl | rfl | rfl
  ·rw [one 0 rfl (by decide) _ rfl (by decide) (by decide) (by decide)]
   clear one hw hop hi hk hwi hwk
   (simp [RH,Ra.toList,QV,QM,QK,QP,Lo,QN,QY,QQ,QS,QL,Rg,Rf,Bool.cond_eq_ite,RD,SJ])
   all_goals ((repeat' split) <;> simp_all)
  ·rw [one 1 rfl (by decide) _ rfl (by decide) (by decide) (by decide)]
   clear one hw hop hi hk hwi hwk
   (simp [RH,Ra.toList,QV,QM,QK,QP,Lo,QN,QY,QQ,QS,QL,Rg,Rf,Bool.cond_eq_ite,RD,SJ])
   all_goals ((repeat' split) <;> simp_all)
  ·rw [one 2 rfl (by decide) _ rfl (by decide) (by decide) (by decide)]
   clear one hw hop hi hk hwi hwk
   (simp [RH,Ra.toList,QV,QM,QK,QP,Lo,QN,QY,QQ,QS,QL,Rg,Rf,Bool.cond_eq_ite,RD])
   all_goals ((repeat' split) <;> simp_all)
  ·rw [one 3 rfl (by decide) _ rfl (by decide) (by decide) (by decide)]
   clear one hw hop hi hk hwi hwk
   (simp [RH,Ra.toList,QV,QM,QK,QP,Lo,QN,QY,QQ,QS,QL,Rg,Rf,Bool.cond_eq_ite,RD])
   all_goals ((repeat' split) <;> simp_all)
  ·rw [one 4 rfl (by decide) _ rfl (by decide) (by decide) (by decide)]
   clear one hw hop hi hk hwi hwk
   (simp [RH,Ra.toList,QV,QM,QK,QP,Lo,QN,QY,QQ,QS,QL,Rg,Rf,Bool.cond_eq_ite,RD])
   all_goals ((repeat' split) <;> simp_all)
  ·rw [one 5 rfl (by decide) _ rfl (by decide) (by decide) (by decide)]
   clear one hw hop hi hk hwi hwk
   (simp [RH,Ra.toList,QV,QM,QK,QP,Lo,QN,QY,QQ,QS,QL,Rg,Rf,Bool.cond_eq_ite,RD])
   all_goals ((repeat' split) <;> simp_all)
  ·rw [one 6 rfl (by decide) _ rfl (by decide) (by decide) (by decide)]
   clear one hw hop hi hk hwi hwk
   (simp [RH,Ra.toList,QV,QM,QK,QP,Lo,QN,QY,QQ,QS,QL,Rg,Rf,Bool.cond_eq_ite,RD])
   all_goals ((repeat' split) <;> simp_all)
  ·rw [one 7 rfl (by decide) _ rfl (by decide) (by decide) (by decide)]
   clear one hw hop hi hk hwi hwk
   (simp [RH,Ra.toList,QV,QM,QK,QP,Lo,QN,QY,QQ,QS,QL,Rg,Rf,Bool.cond_eq_ite,RD])
   all_goals ((repeat' split) <;> simp_all)
  ·rw [one 8 rfl (by decide) _ rfl (by decide) (by decide) (by decide)]
   clear one hw hop hi hk hwi hwk
   (simp [RH,Ra.toList,QV,QM,QK,QP,Lo,QN,QY,QQ,QS,QL,Rg,Rf,Bool.cond_eq_ite,RD])
   all_goals ((repeat' split) <;> simp_all)
  ·rw [one 9 rfl (by decide) _ rfl (by decide) (by decide) (by decide)]
   clear one hw hop hi hk hwi hwk
   (simp [RH,Ra.toList,QV,QM,QK,QP,Lo,QN,QY,QQ,QS,QL,Rg,Rf,Bool.cond_eq_ite,RD])
   all_goals ((repeat' split) <;> simp_all)
  ·rw [one 10 rfl (by decide) _ rfl (by decide) (by decide) (by decide)]
   clear one hw hop hi hk hwi hwk
   (simp [RH,Ra.toList,QV,QM,QK,QP,Lo,QN,QY,QQ,QS,QL,Rg,Rf,Bool.cond_eq_ite,RD])
   all_goals ((repeat' split) <;> simp_all)
  ·rw [one 11 rfl (by decide) _ rfl (by decide) (by decide) (by decide)]
   clear one hw hop hi hk hwi hwk
   (simp [RH,Ra.toList,QV,QM,QK,QP,Lo,QN,QY,QQ,QS,QL,Rg,Rf,Bool.cond_eq_ite,RD])
   all_goals ((repeat' split) <;> simp_all)
  ·rw [one 12 rfl (by decide) _ rfl (by decide) (by decide) (by decide)]
   clear one hw hop hi hk hwi hwk
   (simp [RH,Ra.toList,QV,QM,QK,QP,Lo,QN,QY,QQ,QS,QL,Rg,Rf,Bool.cond_eq_ite,RD,SJ])
   all_goals ((repeat' split) <;> simp_all)
  ·rw [one 13 rfl (by decide) _ rfl (by decide) (by decide) (by decide)]
   clear one hw hop hi hk hwi hwk
   (simp [RH,Ra.toList,QV,QM,QK,QP,Lo,QN,QY,QQ,QS,QL,Rg,Rf,Bool.cond_eq_ite,RD,SJ])
   all_goals ((repeat' split) <;> simp_all)
  ·rw [one 14 rfl (by decide) _ rfl (by decide) (by decide) (by decide)]
   clear one hw hop hi hk hwi hwk
   (simp [RH,Ra.toList,QV,QM,QK,QP,Lo,QN,QY,QQ,QS,QL,Rg,Rf,Bool.cond_eq_ite,RD,SJ])
   all_goals ((repeat' split) <;> simp_all)
  ·rw [one 15 rfl (by decide) _ rfl (by decide) (by decide) (by decide)]
   clear one hw hop hi hk hwi hwk
   (simp [RH,Ra.toList,QV,QM,QK,QP,Lo,QN,QY,QQ,QS,QL,Rg,Rf,Bool.cond_eq_ite,RD,SJ])
   all_goals ((repeat' split) <;> simp_all)
  ·rw [one 16 rfl (by decide) _ rfl (by decide) (by decide) (by decide)]
   clear one hw hop hi hk hwi hwk
   (simp [RH,Ra.toList,QV,QM,QK,QP,Lo,QN,QY,QQ,QS,QL,Rg,Rf,Bool.cond_eq_ite,RD,SJ])
   all_goals ((repeat' split) <;> simp_all)
  ·rw [one 17 rfl (by decide) _ rfl (by decide) (by decide) (by decide)]
   clear one hw hop hi hk hwi hwk
   (simp [RH,Ra.toList,QV,QM,QK,QP,Lo,QN,QY,QQ,QS,QL,Rg,Rf,Bool.cond_eq_ite,RD,SJ])
   all_goals ((repeat' split) <;> simp_all)
  ·rw [one 18 rfl (by decide) _ rfl (by decide) (by decide) (by decide)]
   clear one hw hop hi hk hwi hwk
   (simp [RH,Ra.toList,QV,QM,QK,QP,Lo,QN,QY,QQ,QS,QL,Rg,Rf,Bool.cond_eq_ite,RD,SJ])
   all_goals ((repeat' split) <;> simp_all)
  ·rw [one 19 rfl (by decide) _ rfl (by decide) (by decide) (by decide)]
   clear one hw hop hi hk hwi hwk
   (simp [RH,Ra.toList,QV,QM,QK,QP,Lo,QN,QY,QQ,QS,QL,Rg,Rf,Bool.cond_eq_ite,RD,SJ])
   all_goals ((repeat' split) <;> simp_all)
  ·rw [one 20 rfl (by decide) _ rfl (by decide) (by decide) (by decide)]
   clear one hw hop hi hk hwi hwk
   (simp [RH,Ra.toList,QV,QM,QK,QP,Lo,QN,QY,QQ,QS,QL,Rg,Rf,Bool.cond_eq_ite,RD,Zv,SJ])
   all_goals ((repeat' split) <;> simp_all)
  ·rw [one 21 rfl (by decide) _ rfl (by decide) (by decide) (by decide)]
   clear one hw hop hi hk hwi hwk
   (simp [RH,Ra.toList,QV,QM,QK,QP,Lo,QN,QY,QQ,QS,QL,Rg,Rf,Bool.cond_eq_ite,RD,Zv,SJ])
   all_goals ((repeat' split) <;> simp_all)
  ·rw [one 22 rfl (by decide) _ rfl (by decide) (by decide) (by decide)]
   clear one hw hop hi hk hwi hwk
   (simp [RH,Ra.toList,QV,QM,QK,QP,Lo,QN,QY,QQ,QS,QL,Rg,Rf,Bool.cond_eq_ite,RD,SJ])
   all_goals ((repeat' split) <;> simp_all)
  ·rw [one 23 rfl (by decide) _ rfl (by decide) (by decide) (by decide)]
   clear one hw hop hi hk hwi hwk
   (simp [RH,Ra.toList,QV,QM,QK,QP,Lo,QN,QY,QQ,QS,QL,Rg,Rf,Bool.cond_eq_ite,RD,SJ])
   all_goals ((repeat' split) <;> simp_all)
  ·rw [one 24 rfl (by decide) _ rfl (by decide) (by decide) (by decide)]
   clear one hw hop hi hk hwi hwk
   (simp [RH,Ra.toList,QV,QM,QK,QP,Lo,QN,QY,QQ,QS,QL,Rg,Rf,Bool.cond_eq_ite,RD,SJ])
   all_goals ((repeat' split) <;> simp_all)
 ·have hw : win x.Op 25 = false:=by unfold win; simpa using hop
  rw [hw]
  unfold TM
  rw [Ui,Option.bind_some,hw]
  rfl
end Go.Proofs.YtbnconokpjdnjaaDoor
namespace Go.Proofs.YtbnconokpjdnjaaDoor
open Go Go.Dw Go.Proofs
theorem AaT {α : Type} {n : Int} {l : List α} (h : win n l.length = true) : ∃ x,ixO l n = some x:=by
 unfold win at h
 simp only [decide_eq_true_eq] at h
 rw [Wo _ h.1]
 exact ⟨_,List.getElem?_eq_getElem (by omega)⟩
theorem Aax (p : Mk) (f : QT) (x : Ed) : ∃ e,TM p f x = some e:=by
 by_cases hop : 0 <= x.Op /\ x.Op < 25
 ·obtain ⟨q,hq⟩ : ∃ q,TL[x.Op.toNat]? = some q:=⟨_,List.getElem?_eq_getElem (by show x.Op.toNat < 25; omega)⟩
  have hall : ∀ q ∈ TL,(0 <= q.1 /\ q.1 < 7) /\ (0 <= q.2.1 /\ q.2.1 < 7) /\ (0 <= q.2.2.1 /\ q.2.2.1 < 7):=by decide
  obtain ⟨h1,h2,h3⟩:=hall q (List.mem_of_getElem? hq)
  have key:=Zy p f x (k:=x.Op.toNat) (by omega) (by omega) hq h1 h2 h3
  rw [key]
  clear key
  split
  ·exact ⟨_,rfl⟩
  split
  ·exact ⟨_,rfl⟩
  split
  ·exact ⟨_,rfl⟩
  split
  ·exact ⟨_,rfl⟩
  generalize hL : Ra.mk 1 8 (f.Slots.length : Int) (p.Funcs.length : Int) 8 f.Params (f.Code.length : Int) = L
  cases g1 : RH L 0 q.1 x.A with
  | none=>exact ⟨_,rfl⟩
  | some w1 =>
   simp only [Option.elim_some]
   cases g2 : RH L w1 q.2.1 x.B with
   | none=>exact ⟨_,rfl⟩
   | some w2 =>
    simp only [Option.elim_some]
    cases g3 : RH L w2 q.2.2.1 x.C with
    | none=>exact ⟨_,rfl⟩
    | some w3 =>
     simp only [Option.elim_some]
     by_cases h17 : x.Op = 17
     ·rw [h17] at hq
      have hq : q = (2,2,0,false):=(Option.some.inj hq).symm
      subst hq; subst hL
      have hA : win x.A f.Slots.length = true:=by
       cases h : win x.A f.Slots.length with
       | true=>rfl
       | false=>simp [RH,Ra.toList,h] at g1
      have hB : win x.B f.Slots.length = true:=by
       cases h : win x.B f.Slots.length with
       | true=>rfl
       | false=>simp [RH,Ra.toList,h] at g2
      obtain ⟨s,hs⟩:=AaT hA
      obtain ⟨s',hs'⟩:=AaT hB
      rw [if_pos h17,hs,Option.bind_some,hs',Option.bind_some]
      split <;> exact ⟨_,rfl⟩
     ·rw [if_neg h17]
      exact ⟨_,rfl⟩
 ·refine ⟨4,?_⟩
  have hw : win x.Op 25 = false:=by unfold win; simpa using hop
  unfold TM
  rw [Ui,Option.bind_some,hw]
  rfl
theorem AaE (p : Mk) (f : QT) (i : Int) (hi : ixO p.Funcs i = some f) (hw : win i p.Funcs.length = true) (hl : f.Code.length <= 16777216) : ∀ (d k : Nat),k + d = f.Code.length ->
  ∃ e,Rk (λs=>Sd f p s) (k : Int) = some e /\ Rk (λs=>RT f p i s) (k : Int) = some e:=by
 intro d
 induction d with
 | zero =>
  intro k hk
  obtain rfl : k = f.Code.length:=by omega
  have hd : decide ((f.Code.length : Int) < (f.Code.length : Int)) = false:=by simp
  rw [Rb,Rb]
  unfold Sd RT
  rw [hd,cond_false,cond_false]
  by_cases h0 : f.Code.length = 0
  ·have : ((f.Code.length : Int) == 0) = true:=by simpa using h0
   rw [this]
   exact ⟨6,rfl,rfl⟩
  ·have : ((f.Code.length : Int) == 0) = false:=by simpa using h0
   have w : IntKind.i64.wrap ((f.Code.length : Int) - 1) = ((f.Code.length - 1 : Nat) : Int):=by rw [wrap64 (by omega) (by omega)]; omega
   rw [this,cond_false,w,UC,List.getElem?_eq_getElem (show f.Code.length - 1 < f.Code.length by omega),Option.bind_some,show UF = SH from rfl]
   obtain ⟨b,hb⟩ : ∃ b,SH f.Code[f.Code.length - 1].Op = some b:=by
    unfold SH
    cases (f.Code[f.Code.length - 1].Op == 20) <;> cases (f.Code[f.Code.length - 1].Op == 23) <;> exact ⟨_,rfl⟩
   rw [Option.bind_some,hb,Option.bind_some]
   cases b
   ·exact ⟨6,rfl,rfl⟩
   ·exact ⟨0,rfl,rfl⟩
 | succ d ih =>
  intro k hk
  have hlt : k < f.Code.length:=by omega
  have hd : decide ((k : Int) < (f.Code.length : Int)) = true:=by simp only [decide_eq_true_eq]; omega
  have hx : ixO f.Code (k : Int) = some (f.Code[k]'hlt):=by rw [UC]; exact List.getElem?_eq_getElem hlt
  obtain ⟨e,he⟩:=Aax p f (f.Code[k]'hlt)
  have he':=Aaw p f i (k : Int) _ hi hx hw (by unfold win; simp only [decide_eq_true_eq]; omega)
  have w : IntKind.i64.wrap ((k : Int) + 1) = ((k + 1 : Nat) : Int):=TQ (by omega)
  have s1 : Sd f p (k : Int) = if e ≠ 0 then some (.inr e) else some (.inl ((k + 1 : Nat) : Int)):=by
   unfold Sd
   rw [hd,cond_true,hx,Option.bind_some,he,Option.bind_some,w]
   by_cases h0 : e = 0
   ·simp [h0]
   ·have : (e != 0) = true:=by simpa using h0
    rw [this,cond_true,if_pos h0,Uk]
  have s2 : RT f p i (k : Int) = if e ≠ 0 then some (.inr e) else some (.inl ((k + 1 : Nat) : Int)):=by
   unfold RT
   rw [hd,cond_true,<- he',he,Option.bind_some,w]
   by_cases h0 : e = 0
   ·simp [h0]
   ·have : (e != 0) = true:=by simpa using h0
    rw [this,cond_true,if_pos h0,Uk]
  rw [Rb,Rb,s1,s2]
  by_cases h0 : e = 0
  ·rw [if_neg (by simpa using h0)]
   exact ih (k + 1) (by omega)
  ·rw [if_pos h0]
   exact ⟨e,rfl,rfl⟩
theorem AaI (p : Mk) (f : QT) (i : Int) (hi : ixO p.Funcs i = some f) (hw : win i p.Funcs.length = true) : ∃ e,Un p i = some e /\ TJ p i = some e /\ (e = 0 -> f.Code.length <= 1024 /\ f.Slots.length <= 512):=by
 unfold Un TJ
 rw [Ui,Rf,Option.bind_some,Option.bind_some,hw]
 simp only [Bool.not_true,cond_false,hi,Option.bind_some]
 by_cases hc : (f.Code.length : Int) > 1024
 ·rw [decide_eq_true hc]
  exact ⟨3,rfl,rfl,λh=>by cases h⟩
 rw [decide_eq_false hc,cond_false,cond_false]
 obtain ⟨e,e1,e2,e3⟩:=AaB f.Slots
 rw [e1,e2,Option.bind_some,Option.bind_some]
 by_cases h0 : e = 0
 ·have : (e != 0) = false:=by simpa using h0
  rw [this,cond_false,cond_false,Ui,Option.bind_some]
  obtain ⟨r,r1,r2⟩:=AaE p f i hi hw (by omega) f.Code.length 0 (by omega)
  by_cases hp : 0 <= f.Params /\ f.Params < 9
  ·have h1 : win f.Params 9 = true:=by unfold win; simpa using hp
   have h2 : ¬ f.Params < 0:=by omega
   have h3 : ¬ f.Params > 8:=by omega
   rw [h1,decide_eq_false h2,decide_eq_false h3]
   refine ⟨r,?_,?_,λ_=>⟨by omega,e3 h0⟩⟩
   ·exact r1
   ·exact r2
  ·have h1 : win f.Params 9 = false:=by unfold win; simpa using hp
   rw [h1]
   refine ⟨4,rfl,?_,λh=>by cases h⟩
   by_cases h2 : f.Params < 0
   ·rw [decide_eq_true h2]; rfl
   ·have h3 : f.Params > 8:=by omega
    rw [decide_eq_false h2,decide_eq_true h3]; rfl
 ·have : (e != 0) = true:=by simpa using h0
  rw [this]
  exact ⟨e,rfl,rfl,λh=>(h0 h).elim⟩
def Small (p : Mk) : Prop:=p.Funcs.length <= 80 /\ p.Funcs ≠ [] /\ ∀ f ∈ p.Funcs,f.Code.length <= 1024 /\ f.Slots.length <= 512
theorem Aap (p : Mk) (hl : p.Funcs.length <= 80) : ∀ (d k : Nat),k + d = p.Funcs.length -> ∃ e,Rk (λs=>To p s) (k : Int) = some e /\ Rk (λs=>SG p s) (k : Int) = some e /\ (e = 0 -> ∀ (j : Nat) f,k <= j -> p.Funcs[j]? = some f -> f.Code.length <= 1024 /\ f.Slots.length <= 512):=by
 intro d
 induction d with
 | zero =>
  intro k hk
  obtain rfl : k = p.Funcs.length:=by omega
  have hd : decide ((p.Funcs.length : Int) < (p.Funcs.length : Int)) = false:=by simp
  rw [Rb,Rb]
  unfold To SG
  rw [hd]
  exact ⟨0,rfl,rfl,λ_ j f hj hf=>by have:=(List.getElem?_eq_some_iff.1 hf).1; omega⟩
 | succ d ih =>
  intro k hk
  have hlt : k < p.Funcs.length:=by omega
  have hd : decide ((k : Int) < (p.Funcs.length : Int)) = true:=by simp only [decide_eq_true_eq]; omega
  have hx : ixO p.Funcs (k : Int) = some (p.Funcs[k]'hlt):=by rw [UC]; exact List.getElem?_eq_getElem hlt
  obtain ⟨e,e1,e2,e3⟩:=AaI p _ (k : Int) hx (by unfold win; simp only [decide_eq_true_eq]; omega)
  have w : IntKind.i64.wrap ((k : Int) + 1) = ((k + 1 : Nat) : Int):=TQ (by omega)
  have s1 : To p (k : Int) = if e ≠ 0 then some (.inr e) else some (.inl ((k + 1 : Nat) : Int)):=by
   unfold To
   rw [hd,cond_true,e1,Option.bind_some,w]
   by_cases h0 : e = 0
   ·simp [h0]
   ·have : (e != 0) = true:=by simpa using h0
    rw [this,cond_true,if_pos h0,Uk]
  have s2 : SG p (k : Int) = if e ≠ 0 then some (.inr e) else some (.inl ((k + 1 : Nat) : Int)):=by
   unfold SG
   rw [hd,cond_true,e2,Option.bind_some,w]
   by_cases h0 : e = 0
   ·simp [h0]
   ·have : (e != 0) = true:=by simpa using h0
    rw [this,cond_true,if_pos h0,Uk]
  rw [Rb,Rb,s1,s2]
  by_cases h0 : e = 0
  ·rw [if_neg (by simpa using h0)]
   obtain ⟨r,r1,r2,r3⟩:=ih (k + 1) (by omega)
   refine ⟨r,r1,r2,λhr j f hj hf=>?_⟩
   by_cases hjk : j = k
   ·subst hjk
    rw [List.getElem?_eq_getElem hlt] at hf
    cases hf
    exact e3 h0
   ·exact r3 hr j f (by omega) hf
  ·rw [if_pos h0]
   exact ⟨e,rfl,rfl,λh=>(h0 h).elim⟩
theorem Aaq (p : Mk) : ∃ e,Vv p = some e /\ UO p = some e /\ (e = 0 -> Small p):=by
 unfold Vv UO
 by_cases hc : (p.Funcs.length : Int) > 80
 ·rw [decide_eq_true hc]
  exact ⟨3,rfl,rfl,λh=>by cases h⟩
 rw [decide_eq_false hc,cond_false,cond_false]
 by_cases h0 : p.Funcs.length = 0
 ·have : ((p.Funcs.length : Int) == 0) = true:=by simpa using h0
  rw [this]
  exact ⟨4,rfl,rfl,λh=>by cases h⟩
 have h0' : ((p.Funcs.length : Int) == 0) = false:=by simpa using h0
 have hx : ixO p.Funcs 0 = some (p.Funcs[0]'(by omega)):=by rw [show (0 : Int) = ((0 : Nat) : Int) from rfl,UC]; exact List.getElem?_eq_getElem _
 rw [h0',cond_false,cond_false,hx,Option.bind_some,Option.bind_some]
 by_cases hp : (p.Funcs[0]'(by omega)).Params = 0
 ·have : ((p.Funcs[0]'(by omega)).Params != 0) = false:=by simpa using hp
  rw [this,cond_false,cond_false]
  obtain ⟨e,e1,e2,e3⟩:=Aap p (by omega) p.Funcs.length 0 (by omega)
  refine ⟨e,e1,e2,λh=>⟨by omega,λe=>by rw [e] at h0; exact h0 rfl,λf hf=>?_⟩⟩
  obtain ⟨j,hj⟩:=List.mem_iff_getElem?.1 hf
  exact e3 h j f (by omega) hj
 ·have : ((p.Funcs[0]'(by omega)).Params != 0) = true:=by simpa using hp
  rw [this]
  exact ⟨7,rfl,rfl,λh=>by cases h⟩
end Go.Proofs.YtbnconokpjdnjaaDoor
namespace Go.Proofs.YtbnconokpjdnjaaDoor
open Go Go.Dw Go.Proofs
theorem Acq (u : Nat) : Xo ([IntKind.u8.wrap (IntKind.u64.wrap (48 + ((u : Int).tmod 10)))] : List Int) = [UInt8.ofNat (48 + u % 10)]:=by
 have e : IntKind.u8.wrap (IntKind.u64.wrap (48 + ((u : Int).tmod 10))) = ((48 + u % 10 : Nat) : Int):=by
  have : (u : Int).tmod 10 = ((u % 10 : Nat) : Int):=by rw [Int.tmod_eq_emod_of_nonneg (by omega)]; omega
  rw [this]
  simp [IntKind.wrap,IntKind.signed,IntKind.bits]; omega
 rw [e]
 show [UInt8.ofNat ((48 + u % 10 : Nat) : Int).toNat] = _
 rw [Int.toNat_natCast]
theorem Zt (u : Nat) (s : List UInt8) (h2 : u < 18446744073709551616) (hs : s.length <= 100) :
  SI (u : Int) s = if u < 10 then some (.inr (UInt8.ofNat (48 + u) :: s)) else some (.inl (((u / 10 : Nat) : Int),UInt8.ofNat (48 + u % 10) :: s)):=by
 have e0 : (u : Int).tdiv 10 = ((u / 10 : Nat) : Int):=by rw [Int.tdiv_eq_ediv_of_nonneg (by omega)]; omega
 have e1 : IntKind.u64.wrap ((u : Int).tdiv 10) = ((u / 10 : Nat) : Int):=by
  rw [e0]; simp [IntKind.wrap,IntKind.signed,IntKind.bits]; omega
 unfold SI
 rw [Acq,e1,QX (by simp; omega)]
 by_cases h' : u < 10
 ·have hb : (((u / 10 : Nat) : Int) == 0) = true:=by simp; omega
  rw [hb,cond_true,if_pos h',Uk,Nat.mod_eq_of_lt h']
  rfl
 ·have hb : (((u / 10 : Nat) : Int) == 0) = false:=by simp; omega
  rw [hb,cond_false,if_neg h',Uq]
  rfl
theorem Zu : ∀ (k u : Nat) (s : List UInt8),u < 10 ^ (k + 1) -> u < 18446744073709551616 -> s.length + k <= 100 -> Rk (λs=>SI s.1 s.2) ((u : Int),s) = some (Lib.decDigits u ++ s):=by
 intro k
 induction k with
 | zero =>
  intro u s h h2 hs
  have h' : u < 10:=by simpa using h
  rw [Rb]
  dsimp only
  rw [Zt u s h2 (by omega),if_pos h',Lib.decDigits,dif_pos h']
  rfl
 | succ k ih =>
  intro u s h h2 hs
  rw [Rb]
  dsimp only
  rw [Zt u s h2 (by omega),Lib.decDigits]
  by_cases h' : u < 10
  ·rw [if_pos h',dif_pos h']
   rfl
  ·rw [if_neg h',dif_neg h']
   dsimp only
   rw [ih (u / 10) _ (by rw [Nat.pow_succ] at h; omega) (by omega) (by simp; omega)]
   simp
theorem WA {u : Nat} (h : u < 18446744073709551616) : Ss (u : Int) = some (Lib.decDigits u):=by
 unfold Ss
 rw [Zu 20 u [] (by omega) h (by simp)]
 simp
theorem UZ : ∀ (k u : Nat),u < 10 ^ (k + 1) -> (Lib.decDigits u).length <= k + 1:=by
 intro k
 induction k with
 | zero=>intro u h; rw [Lib.decDigits,dif_pos (by simpa using h)]; simp
 | succ k ih =>
  intro u h
  by_cases h' : u < 10
  ·rw [Lib.decDigits,dif_pos h']; simp
  ·rw [Lib.decDigits,dif_neg h']
   have:=ih (u / 10) (by rw [Nat.pow_succ] at h; omega)
   simp; omega
def R64 (n : Int) : Prop:=-9223372036854775808 <= n /\ n <= 9223372036854775807
theorem Ux {n : Int} (h : R64 n) : (Lib.itoa n).length <= 21:=by
 have h1:=h.1; have h2:=h.2
 unfold Lib.itoa
 split
 ·have:=UZ 19 n.natAbs (by omega)
  simp; omega
 ·have:=UZ 19 n.toNat (by omega)
  omega
theorem VZ {n : Int} (h : R64 n) : WD n = some (Lib.itoa n):=by unfold WD; exact QX h
theorem int_eq {n : Int} (h : R64 n) : Tf n = some (Lib.itoa n):=by
 have h1:=h.1; have h2:=h.2
 unfold Tf Lib.itoa
 by_cases hn : n < 0
 ·have e : IntKind.u64.wrap (0 - IntKind.u64.wrap n) = ((n.natAbs : Nat) : Int):=by simp [IntKind.wrap,IntKind.signed,IntKind.bits]; omega
  have:=UZ 19 n.natAbs (by omega)
  simp only [hn,decide_true,cond_true,if_true,e,WA (show n.natAbs < 18446744073709551616 by omega),Option.bind_some]
  rw [QX (by simp; omega)]
  rfl
 ·have e : IntKind.u64.wrap n = ((n.toNat : Nat) : Int):=by simp [IntKind.wrap,IntKind.signed,IntKind.bits]; omega
  simp only [hn,decide_false,cond_false,if_false,e,WA (show n.toNat < 18446744073709551616 by omega),Option.bind_some]
theorem AaH {u : Int} (h0 : 0 <= u) (h1 : u < 18446744073709551616) : Zq u 10 = some (Lib.decDigits u.toNat):=by
 unfold Zq; rw [QX ⟨h0,h1⟩,QX rfl]
theorem ZO {u : Int} (h0 : 0 <= u) (h1 : u < 18446744073709551616) : Ss u = some (Lib.decDigits u.toNat):=by
 have:=WA (u:=u.toNat) (by omega)
 rwa [show ((u.toNat : Nat) : Int) = u by omega] at this
theorem Aaf {u : Int} (h0 : 0 <= u) (h1 : u < 18446744073709551616) : (Lib.decDigits u.toNat).length <= 20:=UZ 19 _ (by omega)
def VD (x : Ed) (i : Nat) : Int:=([x.A,x.B,x.C])[i]?.getD 0
def UB (x : Ed) (c : UInt8) (i : Nat) : List UInt8:=if c = 35 then Lib.decDigits x.Imm.toNat else c :: Lib.itoa (VD x i)
def Sr (x : Ed) : List UInt8 -> Nat -> List (List UInt8)
 | [],_=>[]
 | c :: cs,i=>UB x c i :: Sr x cs (i + 1)
theorem AaM (x : Ed) (i : Nat) (h : i < 3) : ((RA.mk x.A x.B x.C).toList)[i]? = some (VD x i):=by
 rcases i with _ | _ | _ | i
 ·rfl
 ·rfl
 ·rfl
 ·omega
structure X07 (x : Ed) : Prop where
 a : R64 x.A
 b : R64 x.B
 c : R64 x.C
 i0 : 0 <= x.Imm
 i1 : x.Imm < 18446744073709551616
variable {x : Ed}
theorem X07.num (h : X07 x) (i : Nat) : R64 (VD x i):=by
 have:=h.a; have:=h.b; have:=h.c
 unfold VD
 match i with
 | 0=>exact h.a
 | 1=>exact h.b
 | 2=>exact h.c
 | n + 3=>exact ⟨show (-9223372036854775808 : Int) <= 0 by decide,show (0 : Int) <= 9223372036854775807 by decide⟩
theorem X07.word (h : X07 x) (c : UInt8) (i : Nat) : (UB x c i).length <= 22:=by
 unfold UB
 split
 ·have:=Aaf h.i0 h.i1; omega
 ·have:=Ux (h.num i); simp; omega
def Aae (f : List UInt8) : Prop:=∀ i (h : i < f.length),US f i = (f[i].toNat,1) /\ Xd (f[i].toNat : Int) = [f[i]] /\ ((f[i].toNat : Int) == 35) = decide (f[i] = 35)
theorem Aai (n : Nat) : ∀ ws : List (List UInt8),(∀ w ∈ ws,w.length <= n) -> Lib.lens ws <= n * ws.length:=by
 intro ws
 induction ws with
 | nil=>intro _; simp [Lib.lens]
 | cons w ws ih =>
  intro h
  have h1:=h w (List.mem_cons_self ..)
  have h2:=ih λv hv=>h v (List.mem_cons_of_mem _ hv)
  simp only [Lib.lens,List.length_cons,Nat.mul_add,List.map_cons,List.sum_cons] at h2 ⊢
  omega
theorem Aci (ws : List (List UInt8)) (h : ∀ w ∈ ws,w.length <= 22) (hl : ws.length <= 10) : Zr ws [32] = some (Lib.join ws [32]):=by
 unfold Zr
 rw [QX (by omega),QX]
 cases ws with
 | nil=>simp [Lib.join_nil]
 | cons w ws =>
  rw [Lib.join_length]
  have:=Aai 22 (w :: ws) h
  simp only [List.length_cons,List.length_nil] at this hl ⊢
  omega
theorem Aav (h : X07 x) (f : List UInt8) (hf : Aae f) (h3 : f.length <= 3) : ∀ (k i : Nat) (ws : List (List UInt8)),i + k = f.length -> (∀ w ∈ ws,w.length <= 22) -> ws.length + k <= 10 ->
  Rk (λs=>Se x s.1 s.2) (ws,(f,i)) = some (Lib.join (ws ++ Sr x (f.drop i) i) [32]):=by
 intro k
 induction k with
 | zero =>
  intro i ws hi hw hl
  rw [Rb]
  have hb : Nat.blt i f.length = false:=by rw [<- Bool.not_eq_true,Nat.blt_eq]; omega
  simp only [Se,hb,cond_false,Aci ws hw (by omega),Option.bind_some,Uk]
  rw [List.drop_eq_nil_of_le (by omega)]
  simp [Sr]
 | succ k ih =>
  intro i ws hi hw hl
  have hlt : i < f.length:=by omega
  obtain ⟨d1,d2,d3⟩:=hf i hlt
  have hb : Nat.blt i f.length = true:=by rw [Nat.blt_eq]; omega
  have step : Se x ws (f,i) = some (.inl (ws ++ [UB x f[i] i],(f,i + 1))):=by
   simp only [Se,hb,cond_true,d1,d3,itN,d2]
   by_cases hc : f[i] = 35
   ·simp only [hc,decide_true,cond_true,AaH h.i0 h.i1,Option.bind_some]
    rw [QX (by simp only [List.length_cons,List.length_nil]; omega)]
    simp only [UB,if_true,Uq]
   ·simp only [hc,decide_false,cond_false]
    have hn : ((RA.mk x.A x.B x.C).toList)[i]? = some (VD x i):=by
     have : i < 3:=by omega
     exact AaM x i this
    have:=Ux (h.num i)
    rw [QX (by omega),Int.toNat_natCast,hn,Option.bind_some,VZ (h.num i),Option.bind_some,QX (by simp only [List.length_cons,List.length_nil]; omega),QX (by simp only [List.length_cons,List.length_nil]; omega)]
    simp only [UB,hc,if_false,Uq,List.cons_append,List.nil_append]
  rw [Rb]
  dsimp only
  rw [step]
  dsimp only
  rw [ih (i + 1) _ (by omega) (λw hw'=>by
   rcases List.mem_append.1 hw' with hw' | hw'
   ·exact hw w hw'
   ·obtain rfl:=List.mem_singleton.1 hw'
    exact h.word _ _) (by simp; omega),List.drop_eq_getElem_cons hlt]
  simp [Sr]
theorem XS : ∀ f ∈ Tn,Aae f /\ f.length <= 3:=by
 have : ∀ f ∈ Tn,f.length <= 3 /\ ∀ i : Fin f.length,US f i = (f[i].toNat,1) /\ Xd (f[i].toNat : Int) = [f[i]] /\ ((f[i].toNat : Int) == 35) = decide (f[i] = 35):=by decide +kernel
 exact λf hf=>⟨λi h=>(this f hf).2 ⟨i,h⟩,(this f hf).1⟩
theorem Za : ∀ f ∈ TS,f.length <= 22:=by decide
theorem Yc (h : X07 x) {k : Nat} (hk : x.Op = k) {nm f : List UInt8} (h1 : TS[k]? = some nm) (h2 : Tn[k]? = some f) : Sc x = some (Lib.join (nm :: Sr x f 0) [32]):=by
 have hlt : k < 25:=(List.getElem?_eq_some_iff.1 h1).1
 have n1 : ¬ x.Op < 0:=by omega
 have n2 : ¬ x.Op >= 25:=by omega
 unfold Sc Um
 simp only [n1,n2,decide_false,cond_false]
 obtain ⟨p1,p2⟩:=XS f (List.mem_of_getElem? h2)
 rw [QX (by omega),show x.Op.toNat = k by omega,h1,Option.bind_some,QX (by omega),h2,Option.bind_some,Aav h f p1 p2 f.length 0 [nm] (by omega) (by intro w hw; obtain rfl:=List.mem_singleton.1 hw; exact Za _ (List.mem_of_getElem? h1)) (by simp; omega)]
 rfl
def WE (u : Bool) (a : List UInt8) : Bool:=!u || (a.length == 1 && a != [35])
noncomputable def Aby (k : Nat) : Bool :=
 match Ul k,TS[k]?,QV k,UP k,Tn[k]? with
 | some n,some m,some (ua,ub,uc,ui),some (a,b,c),some f =>
  n == m && n != [63] && decide (n.length <= 22) && decide (a.length <= 1) && decide (b.length <= 1) && decide (c.length <= 1) && WE ua a && WE ub b && WE uc c && (!ub || ua) && (!uc || ub) && f == (bif ua then a else []) ++ (bif ub then b else []) ++ (bif uc then c else []) ++ (bif ui then [35] else [])
 | _,_,_,_,_=>false
theorem Abp : ∀ k : Fin 25,Aby k = true:=by decide +kernel
theorem Abo {k : Nat} (hk : k < 25) : ∃ n ua ub uc ui a b c,Ul k = some n /\ TS[k]? = some n /\ QV k = some (ua,ub,uc,ui) /\ UP k = some (a,b,c) /\
  Tn[k]? = some ((bif ua then a else []) ++ (bif ub then b else []) ++ (bif uc then c else []) ++ (bif ui then [35] else [])) /\ (n == [63]) = false /\ n.length <= 22 /\ a.length <= 1 /\ b.length <= 1 /\ c.length <= 1 /\
  (ua = true -> ∃ z,a = [z] /\ z ≠ 35) /\ (ub = true -> ua = true /\ ∃ z,b = [z] /\ z ≠ 35) /\ (uc = true -> ub = true /\ ∃ z,c = [z] /\ z ≠ 35):=by
 have h:=Abp ⟨k,hk⟩
 have one : ∀ u a,WE u a = true -> u = true -> ∃ z,a = [z] /\ z ≠ 35:=by
  intro u a h1 hu
  subst hu
  match a with
  | []=>simp [WE] at h1
  | [z]=>exact ⟨z,rfl,by simpa [WE] using h1⟩
  | _ :: _ :: _=>simp [WE] at h1
 unfold Aby at h
 dsimp only at h
 split at h
 ·rename_i n m ua ub uc ui a b c f e1 e2 e3 e4 e5
  simp only [Bool.and_eq_true,beq_iff_eq,bne_iff_ne,decide_eq_true_eq,ne_eq] at h
  obtain ⟨⟨⟨⟨⟨⟨⟨⟨⟨⟨⟨h1,h2⟩,h3⟩,h4⟩,h5⟩,h6⟩,h7⟩,h8⟩,h9⟩,h10⟩,h11⟩,h12⟩:=h
  subst h1; subst h12
  refine ⟨n,ua,ub,uc,ui,a,b,c,e1,e2,e3,e4,e5,by simpa using h2,h3,h4,h5,h6,one _ _ h7,λhu=>⟨?_,one _ _ h8 hu⟩,λhu=>⟨?_,one _ _ h9 hu⟩⟩
  ·subst hu; simpa using h10
  ·subst hu; simpa using h11
 ·cases h
theorem AaN (h : X07 x) {k : Nat} (hk : x.Op = k) (hlt : k < 25) : ∃ nm f,TS[k]? = some nm /\ Tn[k]? = some f /\ Sb x = some (Lib.join (nm :: Sr x f 0) [32]):=by
 obtain ⟨n,ua,ub,uc,ui,a,b,c,e1,e2,e3,e4,e5,h2,h3,h4,h5,h6,h7,h8,h9⟩:=Abo hlt
 refine ⟨n,_,e2,e5,?_⟩
 have la:=Ux h.a; have lb:=Ux h.b; have lc:=Ux h.c; have li:=Aaf h.i0 h.i1
 have j3 : ∀ s : List UInt8,s.length <= 100 -> Ti (ua,ub,uc,ui) x s = some (s ++ (bif ui then 32 :: Lib.decDigits x.Imm.toNat else [])):=by
  intro s hs
  unfold Ti
  cases ui
  ·simp
  ·simp only [cond_true,ZO h.i0 h.i1,Option.bind_some]
   rw [QX (by simp only [List.length_cons,List.length_nil]; omega),QX (by simp only [List.length_append,List.length_cons,List.length_nil]; omega)]
   rfl
 have j2 : ∀ s : List UInt8,s.length <= 75 -> Th (ua,ub,uc,ui) (a,b,c) x s = some (s ++ (bif uc then 32 :: (c ++ Lib.itoa x.C) else []) ++ (bif ui then 32 :: Lib.decDigits x.Imm.toNat else [])):=by
  intro s hs
  unfold Th
  cases hu : uc
  ·simp only [cond_false]
   rw [<- hu,j3 s (by omega),List.append_nil]
  ·simp only [cond_true,int_eq h.c,Option.bind_some]
   rw [QX (by simp only [List.length_cons,List.length_nil]; omega),QX (by simp only [List.length_append,List.length_cons,List.length_nil]; omega),QX (by simp only [List.length_append,List.length_cons,List.length_nil]; omega),<- hu,j3 _ (by simp only [List.length_append,List.length_cons,List.length_nil]; omega)]
   rfl
 have j1 : ∀ s : List UInt8,s.length <= 50 -> Tg (ua,ub,uc,ui) (a,b,c) x s = some (s ++ (bif ub then 32 :: (b ++ Lib.itoa x.B) else []) ++ (bif uc then 32 :: (c ++ Lib.itoa x.C) else []) ++ (bif ui then 32 :: Lib.decDigits x.Imm.toNat else [])):=by
  intro s hs
  unfold Tg
  cases hu : ub
  ·simp only [cond_false]
   rw [<- hu,j2 s (by omega),List.append_nil]
  ·simp only [cond_true,int_eq h.b,Option.bind_some]
   rw [QX (by simp only [List.length_cons,List.length_nil]; omega),QX (by simp only [List.length_append,List.length_cons,List.length_nil]; omega),QX (by simp only [List.length_append,List.length_cons,List.length_nil]; omega),<- hu,j2 _ (by simp only [List.length_append,List.length_cons,List.length_nil]; omega)]
   rfl
 have j0 : Sb x = some (n ++ (bif ua then 32 :: (a ++ Lib.itoa x.A) else []) ++ (bif ub then 32 :: (b ++ Lib.itoa x.B) else []) ++ (bif uc then 32 :: (c ++ Lib.itoa x.C) else []) ++ (bif ui then 32 :: Lib.decDigits x.Imm.toNat else [])):=by
  unfold Sb
  rw [hk,e1,Option.bind_some,h2,cond_false,e3,Option.bind_some,e4,Option.bind_some]
  cases hu : ua
  ·simp only [cond_false]
   rw [<- hu,j1 n (by omega),List.append_nil]
  ·simp only [cond_true,int_eq h.a,Option.bind_some]
   rw [QX (by simp only [List.length_cons,List.length_nil]; omega),QX (by simp only [List.length_append,List.length_cons,List.length_nil]; omega),QX (by simp only [List.length_append,List.length_cons,List.length_nil]; omega),<- hu,j1 _ (by simp only [List.length_append,List.length_cons,List.length_nil]; omega)]
   rfl
 rw [j0,Lib.join_cons]
 cases ua
 ·have : ub = false:=by cases ub with | false=>rfl | true=>exact absurd (h8 rfl).1 (by decide)
  subst this
  have : uc = false:=by cases uc with | false=>rfl | true=>exact absurd (h9 rfl).1 (by decide)
  subst this
  cases ui <;> simp [Lib.joinTail,Sr,UB]
 ·obtain ⟨za,rfl,ha⟩:=h7 rfl
  cases ub
  ·have : uc = false:=by cases uc with | false=>rfl | true=>exact absurd (h9 rfl).1 (by decide)
   subst this
   cases ui <;> simp [Lib.joinTail,Sr,UB,ha,VD]
  ·obtain ⟨_,zb,rfl,hb⟩:=h8 rfl
   cases uc
   ·cases ui <;> simp [Lib.joinTail,Sr,UB,ha,hb,VD]
   ·obtain ⟨_,zc,rfl,hc⟩:=h9 rfl
    cases ui <;> simp [Lib.joinTail,Sr,UB,ha,hb,hc,VD]
theorem Aca (h : X07 x) : ∃ t,Sc x = some t /\ Sb x = some t:=by
 by_cases hr : 0 <= x.Op /\ x.Op < 25
 ·obtain ⟨nm,f,h1,h2,h3⟩:=AaN h (k:=x.Op.toNat) (by omega) (by omega)
  exact ⟨_,Yc h (k:=x.Op.toNat) (by omega) h1 h2,h3⟩
 ·refine ⟨[63],?_,?_⟩
  ·unfold Sc
   by_cases hn : x.Op < 0
   ·simp [hn]
   ·have : x.Op >= 25:=by omega
    simp [hn,this]
  ·unfold Sb Ul
   by_cases hn : x.Op < 0
   ·simp [hn]
   ·have : x.Op >= 25:=by omega
    simp [hn,this]
theorem Abz : UN = some true:=by
 have h : X07 (Ed.mk 0 1 0 0 7):=⟨⟨by decide,by decide⟩,⟨by decide,by decide⟩,⟨by decide,by decide⟩,by decide,by decide⟩
 unfold UN
 rw [Yc h (k:=0) rfl (nm:=[99,111,110,115,116]) (f:=[114,35]) rfl rfl]
 have : (Lib.join ([99,111,110,115,116] :: Sr (Ed.mk 0 1 0 0 7) [114,35] 0) [32] : List UInt8) = [99,111,110,115,116,32,114,49,32,55]:=by
  simp [Lib.join_cons,Lib.joinTail,Sr,UB,VD,Lib.itoa,Lib.decDigits]
 rw [Option.bind_some,this]
 simp
end Go.Proofs.YtbnconokpjdnjaaDoor
namespace Go.Proofs.YtbnconokpjdnjaaDoor
open Go Go.Dw Go.Proofs
structure Abt (s : QO) : Prop where
 a : R64 s.Size
 b : R64 s.Align
structure Wy (f : QT) : Prop where
 p : R64 f.Params
 s : ∀ s ∈ f.Slots,Abt s
 c : ∀ x ∈ f.Code,X07 x
def VY (p : Mk) : Prop:=∀ f ∈ p.Funcs,Wy f
theorem Ww (x : Ed) : ∀ (f : List UInt8) (i : Nat),(Sr x f i).length = f.length
 | [],_=>rfl
 | _ :: r,i=>by simp [Sr,Ww x r (i + 1)]
theorem YB {x : Ed} (h : X07 x) : ∀ (f : List UInt8) (i : Nat),∀ w ∈ Sr x f i,w.length <= 22
 | [],_,w,hw=>by cases hw
 | c :: r,i,w,hw=>by
  rcases List.mem_cons.1 hw with rfl | hw
  ·exact h.word c i
  ·exact YB h r (i + 1) w hw
theorem AbB {x : Ed} (h : X07 x) : ∃ t,Sc x = some t /\ Sb x = some t /\ t.length <= 100:=by
 by_cases hr : 0 <= x.Op /\ x.Op < 25
 ·obtain ⟨nm,f,h1,h2,h3⟩:=AaN h (k:=x.Op.toNat) (by omega) (by omega)
  refine ⟨_,Yc h (k:=x.Op.toNat) (by omega) h1 h2,h3,?_⟩
  rw [Lib.join_length]
  have hf:=(XS f (List.mem_of_getElem? h2)).2
  have hn:=Za nm (List.mem_of_getElem? h1)
  have:=Aai 22 (nm :: Sr x f 0) (λw hw=>by
   rcases List.mem_cons.1 hw with rfl | hw
   ·exact hn
   ·exact YB h f 0 w hw)
  simp only [List.length_cons,List.length_nil,Ww] at this ⊢
  omega
 ·obtain ⟨t,t1,t2⟩:=Aca h
  have : Sb x = some [63]:=by
   unfold Sb Ul
   by_cases hn : x.Op < 0
   ·simp [hn]
   ·have : x.Op >= 25:=by omega
    simp [hn,this]
  rw [this] at t2
  cases t2
  exact ⟨_,t1,this,by simp⟩
theorem AaF (f : QT) (hf : Wy f) (hc : f.Code.length <= 1024) (i j : Int) : ∀ (d k : Nat) (out : List UInt8),k + d = f.Code.length -> out.length + d * 101 <= 16000000 ->
  ∃ out',Rk (λs=>RV f i s.1 s.2) (out,(k : Int)) = some (.inl (out',IntKind.i64.wrap (i + 1))) /\ Rk (λs=>So f j s.1 s.2) (out,(k : Int)) = some (.inl (out',IntKind.i64.wrap (j + 1))) /\ out.length <= out'.length /\ out'.length <= out.length + d * 101:=by
 intro d
 induction d with
 | zero =>
  intro k out hk ho
  obtain rfl : k = f.Code.length:=by omega
  have hd : decide ((f.Code.length : Int) < (f.Code.length : Int)) = false:=by simp
  rw [Rb,Rb]
  dsimp only
  unfold RV So Uu
  rw [hd]
  exact ⟨out,rfl,rfl,Nat.le_refl _,by omega⟩
 | succ d ih =>
  intro k out hk ho
  have hlt : k < f.Code.length:=by omega
  have hd : decide ((k : Int) < (f.Code.length : Int)) = true:=by simp only [decide_eq_true_eq]; omega
  have hx : ixO f.Code (k : Int) = some (f.Code[k]'hlt):=by rw [UC]; exact List.getElem?_eq_getElem hlt
  obtain ⟨t,t1,t2,t3⟩:=AbB (hf.c _ (List.getElem_mem hlt))
  have w : IntKind.i64.wrap ((k : Int) + 1) = ((k + 1 : Nat) : Int):=TQ (by omega)
  have s1 : RV f i out (k : Int) = some (.inl (out ++ (t ++ [10]),((k + 1 : Nat) : Int))):=by
   unfold RV
   rw [hd,cond_true,hx,Option.bind_some,t1,Option.bind_some,QX (by simp only [List.length_cons,List.length_nil]; omega),QX (by simp only [List.length_append,List.length_cons,List.length_nil]; omega),w,Uq]
  have s2 : So f j out (k : Int) = some (.inl (out ++ (t ++ [10]),((k + 1 : Nat) : Int))):=by
   unfold So
   rw [hd,cond_true,hx,Option.bind_some,t2,Option.bind_some,QX (by simp only [List.length_cons,List.length_nil]; omega),QX (by simp only [List.length_append,List.length_cons,List.length_nil]; omega),w,Uq]
  rw [Rb,Rb]
  dsimp only
  rw [s1,s2]
  dsimp only
  have hl : (out ++ (t ++ [10])).length = out.length + t.length + 1:=by simp; omega
  obtain ⟨out',o1,o2,o3,o4⟩:=ih (k + 1) (out ++ (t ++ [10])) (by omega) (by rw [hl]; omega)
  exact ⟨out',o1,o2,by omega,by omega⟩
theorem AaQ (f : QT) (hf : Wy f) (hc : f.Code.length <= 1024) (hsl : f.Slots.length <= 512) (i j : Int) : ∀ (d k : Nat) (out : List UInt8),k + d = f.Slots.length -> out.length + d * 60 + 103424 <= 16000000 ->
  ∃ out',Rk (λs=>RN f i s.1 s.2) (out,(k : Int)) = some (.inl (out',IntKind.i64.wrap (i + 1))) /\ Rk (λs=>RY f j s.1 s.2) (out,(k : Int)) = some (.inl (out',IntKind.i64.wrap (j + 1))) /\ out.length <= out'.length /\ out'.length <= out.length + d * 60 + 103424:=by
 intro d
 induction d with
 | zero =>
  intro k out hk ho
  obtain rfl : k = f.Slots.length:=by omega
  have hd : decide ((f.Slots.length : Int) < (f.Slots.length : Int)) = false:=by simp
  obtain ⟨out',o1,o2,o3,o4⟩:=AaF f hf hc i j f.Code.length 0 out (by omega) (by omega)
  have s1 : RN f i out (f.Slots.length : Int) = some (.inr (.inl (out',IntKind.i64.wrap (i + 1)))):=by
   unfold RN
   rw [hd,cond_false]
   exact congrArg lft o1
  have s2 : RY f j out (f.Slots.length : Int) = some (.inr (.inl (out',IntKind.i64.wrap (j + 1)))):=by
   unfold RY
   rw [hd,cond_false]
   exact congrArg lft o2
  rw [Rb,Rb]
  dsimp only
  rw [s1,s2]
  exact ⟨out',rfl,rfl,o3,by omega⟩
 | succ d ih =>
  intro k out hk ho
  have hlt : k < f.Slots.length:=by omega
  have hd : decide ((k : Int) < (f.Slots.length : Int)) = true:=by simp only [decide_eq_true_eq]; omega
  have hx : ixO f.Slots (k : Int) = some (f.Slots[k]'hlt):=by rw [UC]; exact List.getElem?_eq_getElem hlt
  obtain ⟨ha,hb⟩:=hf.s _ (List.getElem_mem hlt)
  have la:=Ux ha
  have lb:=Ux hb
  have w : IntKind.i64.wrap ((k : Int) + 1) = ((k + 1 : Nat) : Int):=TQ (by omega)
  have s1 : RN f i out (k : Int) = some (.inl (out ++ ((((([115,108,111,116,32]) ++ Lib.itoa (f.Slots[k]'hlt).Size) ++ ([32])) ++ Lib.itoa (f.Slots[k]'hlt).Align) ++ ([10])),((k + 1 : Nat) : Int))):=by
   unfold RN
   rw [hd,cond_true,hx,Option.bind_some,VZ ha,Option.bind_some,QX (by simp only [List.length_cons,List.length_nil]; omega),QX (by simp only [List.length_append,List.length_cons,List.length_nil]; omega),VZ hb,Option.bind_some,
    QX (by simp only [List.length_append,List.length_cons,List.length_nil]; omega),QX (by simp only [List.length_append,List.length_cons,List.length_nil]; omega),QX (by simp only [List.length_append,List.length_cons,List.length_nil]; omega),w,Uq]
  have s2 : RY f j out (k : Int) = some (.inl (out ++ ((((([115,108,111,116,32]) ++ Lib.itoa (f.Slots[k]'hlt).Size) ++ ([32])) ++ Lib.itoa (f.Slots[k]'hlt).Align) ++ ([10])),((k + 1 : Nat) : Int))):=by
   unfold RY
   rw [hd,cond_true,hx,Option.bind_some,int_eq ha,Option.bind_some,QX (by simp only [List.length_cons,List.length_nil]; omega),QX (by simp only [List.length_append,List.length_cons,List.length_nil]; omega),Option.bind_some,int_eq hb,Option.bind_some,
    QX (by simp only [List.length_append,List.length_cons,List.length_nil]; omega),QX (by simp only [List.length_append,List.length_cons,List.length_nil]; omega),QX (by simp only [List.length_append,List.length_cons,List.length_nil]; omega),w,Uq]
  have hl : (out ++ ((((([115,108,111,116,32]) ++ Lib.itoa (f.Slots[k]'hlt).Size) ++ ([32])) ++ Lib.itoa (f.Slots[k]'hlt).Align) ++ ([10]))).length = out.length + (Lib.itoa (f.Slots[k]'hlt).Size).length + (Lib.itoa (f.Slots[k]'hlt).Align).length + 7:=by
   simp only [List.length_append,List.length_cons,List.length_nil]; omega
  obtain ⟨out',o1,o2,o3,o4⟩:=ih (k + 1) _ (by omega) (by rw [hl]; omega)
  rw [hl] at o3 o4
  rw [Rb,Rb]
  dsimp only
  rw [s1,s2]
  exact ⟨out',o1,o2,by omega,by omega⟩
theorem YZ (p : Mk) (f : QT) (hf : Wy f) (hc : f.Code.length <= 1024) (hsl : f.Slots.length <= 512) (k : Nat) (hk : k < 80) (hx : ixO p.Funcs (k : Int) = some f) (hlt : (k : Int) < p.Funcs.length) (out : List UInt8) (ho : out.length <= 11000000) :
  ∃ out',RI p out (k : Int) = some (.inl (out',((k + 1 : Nat) : Int))) /\ TK p (k : Int) out = some (.inl (out',((k + 1 : Nat) : Int))) /\ out.length < out'.length /\ out'.length <= out.length + 135000:=by
 have hd : decide ((k : Int) < (p.Funcs.length : Int)) = true:=by simpa using hlt
 have w : IntKind.i64.wrap ((k : Int) + 1) = ((k + 1 : Nat) : Int):=TQ (by omega)
 have la:=Ux hf.p
 have hl : (out ++ ((([102,117,110,99,32]) ++ Lib.itoa f.Params) ++ ([10]))).length = out.length + (Lib.itoa f.Params).length + 6:=by simp only [List.length_append,List.length_cons,List.length_nil]; omega
 obtain ⟨out',o1,o2,o3,o4⟩:=AaQ f hf hc hsl (k : Int) (k : Int) f.Slots.length 0 (out ++ ((([102,117,110,99,32]) ++ Lib.itoa f.Params) ++ ([10]))) (by omega) (by rw [hl]; omega)
 rw [hl] at o3 o4
 rw [w] at o1 o2
 refine ⟨out',?_,?_,by omega,by omega⟩
 ·unfold RI
  rw [hd,cond_true,hx,Option.bind_some,VZ hf.p,Option.bind_some,QX (by simp only [List.length_cons,List.length_nil]; omega),QX (by simp only [List.length_append,List.length_cons,List.length_nil]; omega),QX (by simp only [List.length_append,List.length_cons,List.length_nil]; omega)]
  exact o1
 ·unfold TK
  rw [hx,Option.bind_some,int_eq hf.p,Option.bind_some,QX (by simp only [List.length_cons,List.length_nil]; omega),QX (by simp only [List.length_append,List.length_cons,List.length_nil]; omega),QX (by simp only [List.length_append,List.length_cons,List.length_nil]; omega)]
  exact o2
theorem Zw (p : Mk) (out : List UInt8) (hne : out ≠ []) : RI p out (p.Funcs.length : Int) = some (.inr (if 65536 < out.length then ([],3) else (out,0))):=by
 have hd : decide ((p.Funcs.length : Int) < (p.Funcs.length : Int)) = false:=by simp
 unfold RI
 rw [hd,cond_false]
 by_cases h : 65536 < out.length
 ·have : decide ((out.length : Int) > 65536) = true:=by simp only [decide_eq_true_eq]; omega
  rw [this,if_pos h]; rfl
 ·have : decide ((out.length : Int) > 65536) = false:=by simp only [decide_eq_false_iff_not]; omega
  rw [this,if_neg h,cond_false,QX hne]; rfl
theorem AaK (p : Mk) (hp : VY p) (hs : Small p) : ∀ (d k : Nat) (out : List UInt8),k + d = p.Funcs.length -> out.length <= k * 135000 -> 65536 < out.length -> Rk (λs=>RI p s.1 s.2) (out,(k : Int)) = some ([],3):=by
 intro d
 induction d with
 | zero =>
  intro k out hk ho hl
  obtain rfl : k = p.Funcs.length:=by omega
  rw [Rb]
  dsimp only
  rw [Zw p out (by intro e; rw [e] at hl; simp at hl),if_pos hl]
 | succ d ih =>
  intro k out hk ho hl
  have hlt : k < p.Funcs.length:=by omega
  have h80:=hs.1
  have hx : ixO p.Funcs (k : Int) = some (p.Funcs[k]'hlt):=by rw [UC]; exact List.getElem?_eq_getElem hlt
  obtain ⟨c1,c2⟩:=hs.2.2 _ (List.getElem_mem hlt)
  obtain ⟨out',o1,_,o3,o4⟩:=YZ p _ (hp _ (List.getElem_mem hlt)) c1 c2 k (by omega) hx (by omega) out (by omega)
  rw [Rb]
  dsimp only
  rw [o1]
  exact ih (k + 1) out' (by omega) (by omega) (by omega)
theorem AaV (p : Mk) (hp : VY p) (hs : Small p) : ∀ (d k : Nat) (out : List UInt8),k + d = p.Funcs.length -> out.length <= k * 135000 -> (k = 0 \/ out ≠ []) ->
  ∃ r,Rk (λs=>RI p s.1 s.2) (out,(k : Int)) = some r /\ Rk (λs=>RX p s.1 s.2) (out,(k : Int)) = some r:=by
 intro d
 induction d with
 | zero =>
  intro k out hk ho hne
  obtain rfl : k = p.Funcs.length:=by omega
  have h0 : p.Funcs.length ≠ 0:=λe=>hs.2.1 (List.length_eq_zero_iff.1 e)
  have hne : out ≠ []:=hne.resolve_left h0
  have hd : decide ((p.Funcs.length : Int) < (p.Funcs.length : Int)) = false:=by simp
  rw [Rb,Rb]
  dsimp only
  rw [Zw p out hne]
  unfold RX SW
  rw [hd,cond_false]
  by_cases h : 65536 < out.length
  ·have : decide ((out.length : Int) > 65536) = true:=by simp only [decide_eq_true_eq]; omega
   rw [this,if_pos h]; exact ⟨_,rfl,rfl⟩
  ·have : decide ((out.length : Int) > 65536) = false:=by simp only [decide_eq_false_iff_not]; omega
   rw [this,if_neg h]; exact ⟨_,rfl,rfl⟩
 | succ d ih =>
  intro k out hk ho hne
  have hlt : k < p.Funcs.length:=by omega
  have h80:=hs.1
  have hd : decide ((k : Int) < (p.Funcs.length : Int)) = true:=by simp only [decide_eq_true_eq]; omega
  by_cases h : 65536 < out.length
  ·refine ⟨([],3),AaK p hp hs (d + 1) k out hk ho h,?_⟩
   have h1 : decide ((out.length : Int) <= 65536) = false:=by simp only [decide_eq_false_iff_not]; omega
   have h2 : decide ((out.length : Int) > 65536) = true:=by simp only [decide_eq_true_eq]; omega
   rw [Rb]
   dsimp only
   unfold RX SW
   rw [hd,cond_true,h1,h2]
   rfl
  ·have h1 : decide ((out.length : Int) <= 65536) = true:=by simp only [decide_eq_true_eq]; omega
   have hx : ixO p.Funcs (k : Int) = some (p.Funcs[k]'hlt):=by rw [UC]; exact List.getElem?_eq_getElem hlt
   obtain ⟨c1,c2⟩:=hs.2.2 _ (List.getElem_mem hlt)
   obtain ⟨out',o1,o2,o3,o4⟩:=YZ p _ (hp _ (List.getElem_mem hlt)) c1 c2 k (by omega) hx (by omega) out (by omega)
   obtain ⟨r,r1,r2⟩:=ih (k + 1) out' (by omega) (by omega) (.inr (by intro e; rw [e] at o3; simp at o3))
   have s2 : RX p out (k : Int) = some (.inl (out',((k + 1 : Nat) : Int))):=by
    unfold RX
    rw [hd,cond_true,h1,cond_true,o2]
   refine ⟨r,?_,?_⟩
   ·rw [Rb]
    dsimp only
    rw [o1]
    exact r1
   ·rw [Rb]
    dsimp only
    rw [s2]
    exact r2
theorem ZR (p : Mk) (hp : VY p) : ∃ r,Uh p = some r /\ Uz p = some r:=by
 obtain ⟨e,e1,e2,e3⟩:=Aaq p
 unfold Uh Uz
 rw [e1,e2,Option.bind_some,Option.bind_some]
 by_cases h0 : e = 0
 ·have : (e != 0) = false:=by simpa using h0
  rw [this]
  obtain ⟨r,r1,r2⟩:=AaV p hp (e3 h0) p.Funcs.length 0 [] (by omega) (by simp) (.inl rfl)
  exact ⟨r,r1,r2⟩
 ·have : (e != 0) = true:=by simpa using h0
  rw [this]
  exact ⟨([],e),rfl,rfl⟩
end Go.Proofs.YtbnconokpjdnjaaDoor
namespace Go.Proofs.YtbnconokpjdnjaaDoor
open Go Go.Dw Go.Proofs
attribute [local simp] QX Bool.cond_eq_ite
def okC (c : Av) : Prop:=0 <= c.at_ /\ c.at_ <= c.list.length /\ c.list.length <= 1000 /\ ∀ v ∈ c.list,0 <= v /\ v <= 255
theorem Acj (l : List Int) (n : Int) (hl : qL (Sv .u8) l) (h0 : 0 <= n) (h1 : n <= 1000) : ∃ c,VM l n = some c /\ okC c:=by
 unfold VM
 have e : VP (l.length : Int) n = min (l.length : Int) n:=AbJ _ _
 rw [e]
 refine ⟨_,by rw [QX (by omega)],by simp,?_,?_,?_⟩
 ·simp
 ·simp only [List.length_take]; omega
 ·intro v hv
  have:=hl.2 v (List.mem_of_mem_take hv)
  simpa [Sv,IntKind.min,IntKind.max,IntKind.signed,IntKind.bits] using this
theorem AbL (c : Av) (h : okC c) (n : Int) (h1 : n <= 1099511627776) : ∃ r c',Pr c n = some (r,c') /\ okC c' /\ 0 <= r /\ (r < n \/ r = 0):=by
 obtain ⟨ha,hb,hc,hd⟩:=h
 unfold Pr Ut
 by_cases hl : c.at_ < c.list.length
 ·by_cases hn : n < 1
  ·exact ⟨0,c,by simp [hl,hn],⟨ha,hb,hc,hd⟩,by omega,.inr rfl⟩
  ·have hx : c.list[c.at_.toNat]? = some (c.list[c.at_.toNat]'(by omega)):=List.getElem?_eq_getElem _
   have hv:=hd _ (List.getElem_mem (show c.at_.toNat < c.list.length by omega))
   generalize hq : c.list[c.at_.toNat]'(by omega) = v at hx hv
   have e1 : IntKind.i64.wrap v = v:=wrap64 (by omega) (by omega)
   have hm0 : 0 <= v * n:=Int.mul_nonneg hv.1 (by omega)
   have hm1 : v * n <= 255 * n:=Int.mul_le_mul_of_nonneg_right hv.2 (by omega)
   have e2 : IntKind.i64.wrap (v * n) = v * n:=wrap64 (by omega) (by omega)
   have e3 : (v * n).tdiv 256 = v * n / 256:=Int.tdiv_eq_ediv_of_nonneg hm0
   have e4 : IntKind.i64.wrap (v * n / 256) = v * n / 256:=wrap64 (by omega) (by omega)
   have e5 : IntKind.i64.wrap (c.at_ + 1) = c.at_ + 1:=wrap64 (by omega) (by omega)
   refine ⟨v * n / 256,⟨c.list,c.at_ + 1⟩,?_,⟨by simp only; omega,by simp only; omega,hc,hd⟩,by omega,.inl (by omega)⟩
   simp [hl,hn,Ty,Wo _ ha,hx,e1,e2,e3,e4,e5]
 ·exact ⟨0,c,by simp [hl],⟨ha,hb,hc,hd⟩,by omega,.inr rfl⟩
end Go.Proofs.YtbnconokpjdnjaaDoor
namespace Go.Proofs.YtbnconokpjdnjaaDoor
open Go Go.Dw Go.Proofs
theorem AbK {c : Av} (h : okC c) {n : Int} (h1 : n <= 1099511627776) : Hs (Pr c n) λp=>okC p.2 /\ 0 <= p.1 /\ (p.1 < n \/ p.1 = 0):=by
 obtain ⟨r,c',e,h2,h3,h4⟩:=AbL c h n h1
 exact ⟨(r,c'),e,h2,h3,h4⟩
theorem Rc {c : Av} (h : okC c) {n : Int} (h0 : 1 <= n) (h1 : n <= 1099511627776) : Hs (Pr c n) λp=>okC p.2 /\ 0 <= p.1 /\ p.1 < n :=
 (AbK h h1).mono λr hr=>⟨hr.1,hr.2.1,by omega⟩
def Vp (s : QO) : Prop:=s.Size ∈ ([8,4,8,1,2,16,8] : List Int) /\ s.Align ∈ ([8,4,1,8,16,2,32,64] : List Int)
def W64 (w : Int) : Prop:=0 <= w /\ w < 18446744073709551616
def Reg (a : Int) : Prop:=0 <= a /\ a < 4
theorem Aaj {c : Av} (h : okC c) : Hs (SV c) λp=>okC p.2 /\ Vp p.1:=by
 unfold SV
 refine (Rc h (by omega) (by omega)).bind λr hr=>.chk (by simp; omega) ?_
 refine (Hs.get hr.2.1 (by simp; omega) λx hx=>List.mem_of_getElem? hx).bind λx hx=>?_
 refine (Rc hr.1 (by omega) (by omega)).bind λr' hr'=>.chk (by simp; omega) ?_
 refine (Hs.get hr'.2.1 (by simp; omega) λx hx=>List.mem_of_getElem? hx).bind λy hy=>?_
 exact .pure ⟨hr'.1,hx,hy⟩
theorem Abn {c : Av} (h : okC c) {m : Int} (hm : 0 <= m) (hm' : m <= 1000) : Hs (Tj c m) λp=>okC p.2 /\ (p.1.length : Int) <= m /\ ∀ s ∈ p.1,Vp s:=by
 unfold Tj
 have w : IntKind.i64.wrap (m + 1) = m + 1:=wrap64 (by omega) (by omega)
 rw [w]
 refine (Rc h (by omega) (by omega)).bind λr hr=>?_
 refine Hs.loop (λs=>okC ⟨s.1,s.2.1⟩ /\ (s.2.2.1.length : Int) + s.2.2.2 <= m /\ (∀ x ∈ s.2.2.1,Vp x) /\ 0 <= s.2.2.2) (λs=>s.2.2.2.toNat) ⟨hr.1,by simp; omega,by simp,hr.2.1⟩ ?_
 rintro ⟨l,a,sl,n⟩ ⟨hc,hl,hs,hn⟩
 simp only at hc hl hs hn
 unfold Tq
 refine .dec (λhlt=>?_) λhlt=>?_
 ·have hlt : 0 < n:=hlt
  have w : IntKind.i64.wrap (n - 1) = n - 1:=wrap64 (by omega) (by omega)
  refine (Aaj hc).bind λx hx=>.chk (by simp; omega) (.cnt ⟨⟨hx.1,?_,?_,?_⟩,?_⟩)
  ·simp only [w,List.length_append,List.length_singleton]; omega
  ·intro y hy
   rcases List.mem_append.1 hy with h1 | h1
   ·exact hs y h1
   ·rw [List.mem_singleton] at h1; subst h1; exact hx.2
  ·simp only [w]; omega
  ·simp only [w]; omega
 ·exact .lft (.pure ⟨hc,by simp only; omega,hs⟩)
theorem YY {c : Av} (h : okC c) : Hs (Sm c) λp=>okC p.2 /\ W64 p.1:=by
 unfold Sm
 refine (Rc h (by omega) (by omega)).bind λr hr=>.beq (λ_=>?_) λ_=>.beq (λ_=>?_) λ_=>.beq (λ_=>?_) λ_=>?_
 ·exact (Rc hr.1 (by omega) (by omega)).bind λr' hr'=>.pure ⟨hr'.1,YW _⟩
 ·exact (Rc hr.1 (by omega) (by omega)).bind λr' hr'=>.chk hr'.2.1 (.pure ⟨hr'.1,YW _⟩)
 ·exact .pure ⟨hr.1,by simp only; unfold W64; omega⟩
 ·exact (Rc hr.1 (by omega) (by omega)).bind λr' hr'=>.pure ⟨hr'.1,YW _⟩
def AaU (sl : List QO) (a b : Int) : Prop:=0 <= a /\ a < sl.length /\ ∃ x y,sl[a.toNat]? = some x /\ sl[b.toNat]? = some y /\ x.Size = y.Size
theorem AbI {c : Av} (h : okC c) {f : QT} {s : Int} (h0 : 0 <= s) (h1 : s < f.Slots.length) (hl : f.Slots.length <= 1000) : Hs (TD c f s) λp=>okC p.2 /\ AaU f.Slots p.1 s:=by
 unfold TD
 refine Hs.loop (λst=>0 <= st.2 /\ st.2 <= f.Slots.length /\ (st.1.length : Int) <= st.2 /\ (∀ v ∈ st.1,AaU f.Slots v s) /\ (s < st.2 -> 0 < st.1.length)) (λst=>f.Slots.length - st.2.toNat) ⟨by simp,by simp,by simp,by simp,λh=>by simp at h; omega⟩ ?_
 rintro ⟨l,k⟩ ⟨hk0,hk1,hll,hv,hne⟩
 simp only at hk0 hk1 hll hv hne
 unfold TE
 refine .dec (λhlt=>?_) λhlt=>.lft ?_
 ·have w : IntKind.i64.wrap (k + 1) = k + 1:=wrap64 (by omega) (by omega)
  refine (Hs.ix hk0 hlt λx hx=>hx).bind λx hx=>(Hs.ix h0 h1 λx hx=>hx).bind λy hy=>.beq (λhe=>?_) λhe=>?_
  ·refine .chk (by simp; omega) (.cnt ⟨⟨by simp only [w]; omega,by simp only [w]; omega,by simp only [w,List.length_append,List.length_singleton]; omega,?_,by simp⟩,by simp only [w]; omega⟩)
   intro v hv'
   rcases List.mem_append.1 hv' with h2 | h2
   ·exact hv v h2
   ·rw [List.mem_singleton] at h2; subst h2
    exact ⟨hk0,hlt,x,y,hx,hy,he⟩
  ·refine .cnt ⟨⟨by simp only [w]; omega,by simp only [w]; omega,by simp only [w]; omega,hv,λh3=>?_⟩,by simp only [w]; omega⟩
   simp only [w] at h3
   by_cases e : s = k
   ·subst e; rw [hx] at hy; cases hy; exact (he rfl).elim
   ·exact hne (by omega)
 ·have hlt : ¬ k < f.Slots.length:=hlt
  have hl1:=hne (by omega)
  refine (Rc h (n:=(l.length : Int)) (by omega) (by omega)).bind λr hr=>.chk ⟨hr.2.1,hr.2.2⟩ ?_
  exact (Hs.get hr.2.1 hr.2.2 λx hx=>hv x (List.mem_of_getElem? hx)).bind λx hx=>.pure ⟨hr.1,hx⟩
inductive Ry (sl : List QO) (np i : Int) (ps : List Int) (T : Int -> Prop) : Ed -> Prop
 | store (a b : Int) : 0 <= a -> a < sl.length -> Reg b -> Ry sl np i ps T ⟨16,a,b,0,0⟩
 | load (a b : Int) : Reg a -> 0 <= b -> b < sl.length -> Ry sl np i ps T ⟨15,a,b,0,0⟩
 | move (a b : Int) : AaU sl a b -> 0 <= b -> b < sl.length -> Ry sl np i ps T ⟨17,a,b,0,0⟩
 | const (a w : Int) : Reg a -> W64 w -> Ry sl np i ps T ⟨0,a,0,0,w⟩
 | bin (op a b c : Int) : 2 <= op -> op < 12 -> Reg a -> Reg b -> 0 <= c -> c < 8 -> Ry sl np i ps T ⟨op,a,b,c,0⟩
 | out (a : Int) : Reg a -> Ry sl np i ps T ⟨14,a,0,0,0⟩
 | un (op a : Int) : (op = 13 \/ op = 12 \/ op = 1) -> Reg a -> Ry sl np i ps T ⟨op,a,0,0,0⟩
 | param (a b : Int) : Reg a -> 0 <= b -> b < np -> Ry sl np i ps T ⟨19,a,b,0,0⟩
 | arg (a b : Int) : 0 <= a -> a < 4 -> Reg b -> Ry sl np i ps T ⟨18,a,b,0,0⟩
 | call (j : Int) : i < j -> j < ps.length -> Ry sl np i ps T ⟨22,j,0,0,0⟩
 | jump (t : Int) : T t -> Ry sl np i ps T ⟨20,t,0,0,0⟩
 | branch (a t : Int) : Reg a -> T t -> Ry sl np i ps T ⟨21,a,t,0,0⟩
def Yn (ps : List Int) : Prop:=(∀ v ∈ ps,0 <= v /\ v < 4) /\ ps.length <= 1000
theorem AbA {c : Av} (h : okC c) {f : QT} {i : Int} {ps : List Int} (T : Int -> Prop) (hf : f.Slots.length <= 1000) (hp : f.Params < 4) (hi : 0 <= i) (hi' : i < ps.length) (hps : Yn ps) :
  Hs (TB c f i ps) λp=>okC p.2 /\ p.1.length <= 4 /\ ∀ x ∈ p.1,Ry f.Slots f.Params i ps T x:=by
 unfold TB
 refine (Rc h (by omega) (by omega)).bind λr hr=>(Rc hr.1 (by omega) (by omega)).bind λk hk=>?_
 have hreg : Reg r.1:=hr.2
 have one : ∀ {x : Ed} {c' : Av},okC c' -> Ry f.Slots f.Params i ps T x -> Hs (some (([x] : List Ed),c')) λp=>okC p.2 /\ p.1.length <= 4 /\ ∀ x ∈ p.1,Ry f.Slots f.Params i ps T x:=λhc hx=>.pure ⟨hc,by simp,by simpa using hx⟩
 have j6 : ∀ b,(b = true -> i + 1 < ps.length) -> Hs (Sl k ps i r b) λp=>okC p.2 /\ p.1.length <= 4 /\ ∀ x ∈ p.1,Ry f.Slots f.Params i ps T x:=by
  intro b hb
  unfold Sl
  refine .cond (λhb'=>?_) λ_=>one hk.1 (.out _ hreg)
  have hil:=hb hb'
  have hlen:=hps.2
  have w1 : IntKind.i64.wrap ((ps.length : Int) - i) = (ps.length : Int) - i:=wrap64 (by omega) (by omega)
  have w2 : IntKind.i64.wrap ((ps.length : Int) - i - 1) = (ps.length : Int) - i - 1:=wrap64 (by omega) (by omega)
  have w3 : IntKind.i64.wrap (i + 1) = i + 1:=wrap64 (by omega) (by omega)
  rw [w1,w2]
  refine (Rc hk.1 (by omega) (by omega)).bind λq hq=>?_
  have w4 : IntKind.i64.wrap (i + 1 + q.1) = i + 1 + q.1:=wrap64 (by omega) (by omega)
  refine Hs.loop (λs=>okC ⟨s.1,s.2.1⟩ /\ (s.2.2.1.length : Int) <= s.2.2.2 /\ 0 <= s.2.2.2 /\ s.2.2.2 <= 3 /\ ∀ x ∈ s.2.2.1,Ry f.Slots f.Params i ps T x) (λs=>(3 - s.2.2.2).toNat) ⟨hq.1,by simp,by simp,by simp,by simp⟩ ?_
  rintro ⟨l,a,out,n⟩ ⟨hc,ho,hn0,hn3,hall⟩
  simp only at hc ho hn0 hn3 hall
  unfold TC
  simp only [w3,w4]
  refine (Hs.ix (by omega) (by omega) λx hx=>hps.1 x (List.mem_of_getElem? hx)).bind λx hx=>.dec (λhlt=>?_) λhlt=>.lft ?_
  ·have w5 : IntKind.i64.wrap (n + 1) = n + 1:=wrap64 (by omega) (by omega)
   refine (Rc hc (by omega) (by omega)).bind λu hu=>.dec (λ_=>?_) λ_=>?_
   ·refine (Rc hu.1 (by omega) (by omega)).bind λv hv=>.chk (by simp; omega) (.cnt ⟨⟨hv.1,by simp only [w5,List.length_append,List.length_singleton]; omega,by simp only [w5]; omega,by simp only [w5]; omega,?_⟩,by simp only [w5]; omega⟩)
    intro y hy
    rcases List.mem_append.1 hy with h2 | h2
    ·exact hall y h2
    ·rw [List.mem_singleton] at h2; subst h2
     exact .arg _ _ hn0 (by omega) hv.2
   ·exact .cnt ⟨⟨hu.1,by simp only [w5]; omega,by simp only [w5]; omega,by simp only [w5]; omega,hall⟩,by simp only [w5]; omega⟩
  ·refine .chk (by simp; omega) (.pure ⟨hc,by simp only [List.length_append,List.length_singleton]; omega,?_⟩)
   intro y hy
   rcases List.mem_append.1 hy with h2 | h2
   ·exact hall y h2
   ·rw [List.mem_singleton] at h2; subst h2
    exact .call _ (by omega) (by omega)
 have j5 : ∀ b,(b = true -> 0 < f.Params) -> Hs (Sk k f r ps i b) λp=>okC p.2 /\ p.1.length <= 4 /\ ∀ x ∈ p.1,Ry f.Slots f.Params i ps T x:=by
  intro b hb
  unfold Sk
  refine .cond (λhb'=>?_) λ_=>.dec (λ_=>j6 _ λhd=>?_) λ_=>j6 _ λhd=>(by cases hd)
  ·have:=hb hb'
   exact (Rc hk.1 (by omega) (by omega)).bind λu hu=>one hu.1 (.param _ _ hreg hu.2.1 hu.2.2)
  ·have hlen:=hps.2
   have:=of_decide_eq_true hd
   rw [wrap64 (by omega) (by omega)] at this
   exact this
 have j4 : ∀ b,(b = true -> 0 < f.Slots.length) -> Hs (Sj k f r ps i b) λp=>okC p.2 /\ p.1.length <= 4 /\ ∀ x ∈ p.1,Ry f.Slots f.Params i ps T x:=by
  intro b hb
  unfold Sj
  refine .cond (λhb'=>?_) λ_=>.dec (λ_=>?_) λ_=>.dec (λ_=>?_) λ_=>.dec (λ_=>one hk.1 (.out _ hreg)) λ_=>.beq (λ_=>?_) λ_=>.beq (λ_=>j5 _ λhd=>of_decide_eq_true hd) λ_=>j5 _ λhd=>(by cases hd)
  ·have:=hb hb'
   exact (Rc hk.1 (by omega) (by omega)).bind λu hu=>(AbI hu.1 hu.2.1 hu.2.2 hf).bind λv hv=>one hv.1 (.move _ _ hv.2 hu.2.1 hu.2.2)
  ·exact (YY hk.1).bind λu hu=>one hu.1 (.const _ _ hreg hu.2)
  ·refine (Rc hk.1 (by omega) (by omega)).bind λu hu=>(Rc hu.1 (by omega) (by omega)).bind λv hv=>(Rc hv.1 (by omega) (by omega)).bind λz hz=>one hz.1 ?_
   rw [wrap64 (by omega) (by omega)]
   exact .bin _ _ _ _ (by omega) (by omega) hreg hv.2 hz.2.1 hz.2.2
  ·refine (Rc hk.1 (by omega) (by omega)).bind λu hu=>.chk (by simp; omega) ?_
   refine (Hs.get hu.2.1 (by simp; omega) λx hx=>List.mem_of_getElem? hx).bind λx hx=>one hu.1 (.un _ _ (by simpa using hx) hreg)
 have j3 : ∀ b,(b = true -> 0 < f.Slots.length) -> Hs (Si k f r ps i b) λp=>okC p.2 /\ p.1.length <= 4 /\ ∀ x ∈ p.1,Ry f.Slots f.Params i ps T x:=by
  intro b hb
  unfold Si
  refine .cond (λhb'=>?_) λ_=>.dec (λ_=>j4 _ λhd=>by have:=of_decide_eq_true hd; omega) λ_=>j4 _ λhd=>(by cases hd)
  have:=hb hb'
  exact (Rc hk.1 (by omega) (by omega)).bind λu hu=>one hu.1 (.load _ _ hreg hu.2.1 hu.2.2)
 have j2 : ∀ b,(b = true -> 0 < f.Slots.length) -> Hs (Sh k f r ps i b) λp=>okC p.2 /\ p.1.length <= 4 /\ ∀ x ∈ p.1,Ry f.Slots f.Params i ps T x:=by
  intro b hb
  unfold Sh
  refine .cond (λhb'=>?_) λ_=>.dec (λ_=>j3 _ λhd=>by have:=of_decide_eq_true hd; omega) λ_=>j3 _ λhd=>(by cases hd)
  have:=hb hb'
  exact (Rc hk.1 (by omega) (by omega)).bind λu hu=>one hu.1 (.store _ _ hu.2.1 hu.2.2 hreg)
 exact .dec (λ_=>j2 _ λhd=>by have:=of_decide_eq_true hd; omega) λ_=>j2 _ λhd=>(by cases hd)
theorem Ry.mono {sl : List QO} {np i : Int} {ps : List Int} {T T' : Int -> Prop} {x : Ed} (h : Ry sl np i ps T x) (hT : ∀ t,T t -> T' t) : Ry sl np i ps T' x:=by
 cases h with
 | store a b h1 h2 h3=>exact .store a b h1 h2 h3
 | load a b h1 h2 h3=>exact .load a b h1 h2 h3
 | move a b h1 h2 h3=>exact .move a b h1 h2 h3
 | const a w h1 h2=>exact .const a w h1 h2
 | bin op a b c h1 h2 h3 h4 h5 h6=>exact .bin op a b c h1 h2 h3 h4 h5 h6
 | out a h1=>exact .out a h1
 | un op a h1 h2=>exact .un op a h1 h2
 | param a b h1 h2 h3=>exact .param a b h1 h2 h3
 | arg a b h1 h2 h3=>exact .arg a b h1 h2 h3
 | call j h1 h2=>exact .call j h1 h2
 | jump t h1=>exact .jump t (hT t h1)
 | branch a t h1 h2=>exact .branch a t h1 (hT t h2)
def VB (x : Ed) : Prop:=x = ⟨23,0,0,0,0⟩ \/ ∃ w,W64 w /\ x = ⟨24,0,0,0,w⟩
def Vj (x : Ed) (t : Int) : Ed :=
 if x.Op = 20 /\ x.A < 0 then ⟨x.Op,t,x.B,x.C,x.Imm⟩ else if x.Op = 21 /\ x.B < 0 then ⟨x.Op,x.A,t,x.C,x.Imm⟩ else x
theorem VB.fix {x : Ed} (h : VB x) (t : Int) : Vj x t = x:=by
 rcases h with rfl | ⟨w,_,rfl⟩ <;> simp [Vj]
theorem Ry.fix {sl : List QO} {np i : Int} {ps : List Int} {T : Int -> Prop} {x : Ed} (h : Ry sl np i ps (· = -1) x) {t : Int} (ht : T t) : Ry sl np i ps T (Vj x t):=by
 cases h with
 | store a b h1 h2 h3=>exact .store a b h1 h2 h3
 | load a b h1 h2 h3=>exact .load a b h1 h2 h3
 | move a b h1 h2 h3=>exact .move a b h1 h2 h3
 | const a w h1 h2=>exact .const a w h1 h2
 | bin op a b c h1 h2 h3 h4 h5 h6 =>
  have : Vj ⟨op,a,b,c,0⟩ t = ⟨op,a,b,c,0⟩:=by simp [Vj,show op ≠ 20 by omega,show op ≠ 21 by omega]
  rw [this]
  exact .bin op a b c h1 h2 h3 h4 h5 h6
 | out a h1=>exact .out a h1
 | un op a h1 h2 =>
  have : Vj ⟨op,a,0,0,0⟩ t = ⟨op,a,0,0,0⟩:=by simp [Vj,show op ≠ 20 by omega,show op ≠ 21 by omega]
  rw [this]
  exact .un op a h1 h2
 | param a b h1 h2 h3=>exact .param a b h1 h2 h3
 | arg a b h1 h2 h3=>exact .arg a b h1 h2 h3
 | call j h1 h2=>exact .call j h1 h2
 | jump q h1=>subst h1; exact .jump t ht
 | branch a q h1 h2=>subst h2; exact .branch a t h1 ht
theorem Acr {code : List Ed} {k : Nat} {x : Ed} (h : code[k]? = some x) (r : Int × Av) (t : Int) : Rz (k : Int) code r t = some (.inl (r.2.list,r.2.at_,code.set k (Vj x t),IntKind.i64.wrap ((k : Int) + 1))):=by
 obtain ⟨hl,hx⟩:=List.getElem?_eq_some_iff.1 h
 have hset : code.set k x = code:=by rw [<- hx]; exact List.set_getElem_self hl
 obtain ⟨op,a,b,c,w⟩:=x
 unfold Rz Sa
 by_cases h20 : op = 20
 ·subst h20
  by_cases ha : a < 0
  ·simp [QX,hl,hx,Vj,ha]
  ·simp [QX,hl,hx,Vj,ha,hset]
 ·by_cases h21 : op = 21
  ·subst h21
   by_cases hb : b < 0
   ·simp [QX,hl,hx,Vj,hb]
   ·simp [QX,hl,hx,Vj,hb,hset]
  ·have e20 : (op == 20) = false:=by simpa using h20
   have e21 : (op == 21) = false:=by simpa using h21
   simp [QX,hl,hx,Vj,e20,e21,h20,h21,hset]
structure Vo (ps : List Int) (i most : Int) (f : QT) : Prop where
 par : ps[i.toNat]? = some f.Params
 slots : f.Slots.length <= 6
 slot : ∀ s ∈ f.Slots,Vp s
 len : 1 <= f.Code.length
 len' : (f.Code.length : Int) <= 7 + 5 * most
 body : ∀ (k : Nat) x,f.Code[k]? = some x -> k + 1 < f.Code.length -> Ry f.Slots f.Params i ps (λt=>0 <= t /\ t < f.Code.length) x
 last : ∀ x,f.Code[f.Code.length - 1]? = some x -> VB x
theorem Ace {l : List Int} {a : Int} (h : okC ⟨l,a⟩) {sl : List QO} {np i : Int} {ps : List Int} {most : Int} {code : List Ed} (hpar : ps[i.toNat]? = some np) (hsl : sl.length <= 6) (hsl' : ∀ s ∈ sl,Vp s)
  (hlen : 1 <= code.length) (hlen' : (code.length : Int) <= 7 + 5 * most) (hm : most <= 1000) (hb : ∀ (k : Nat) x,code[k]? = some x -> k + 1 < code.length -> Ry sl np i ps (· = -1) x) (he : ∀ x,code[code.length - 1]? = some x -> VB x) :
  Hs (Rk (λs : List Int × Int × List Ed × Int=>RZ np sl s.1 s.2.1 s.2.2.1 s.2.2.2) (l,a,code,0)) λp=>okC p.2 /\ Vo ps i most p.1:=by
 refine Hs.loop (λs=>okC ⟨s.1,s.2.1⟩ /\ s.2.2.1.length = code.length /\ ∃ k : Nat,s.2.2.2 = (k : Int) /\ k <= code.length /\ (∀ x,s.2.2.1[code.length - 1]? = some x -> VB x) /\
  ∀ (j : Nat) x,s.2.2.1[j]? = some x -> j + 1 < code.length -> Ry sl np i ps (λt=>if j < k then 0 <= t /\ t < code.length else t = -1) x) (λs=>code.length - s.2.2.2.toNat) ⟨h,rfl,0,rfl,Nat.zero_le _,he,λj x hj hj'=>(hb j x hj hj').mono λt ht=>by simpa using ht⟩ ?_
 rintro ⟨l,a,code',k⟩ ⟨hc,hl,k,rfl,hk,he',hall⟩
 simp only at hc hl he' hall
 unfold RZ
 refine .dec (λhlt=>?_) λhlt=>?_
 ·have hlt : k < code.length:=by rw [<- hl]; exact Int.ofNat_lt.1 hlt
  have w:=TQ (show k < 9223372036854775807 by omega)
  have hx : code'[k]? = some (code'[k]'(by omega)):=List.getElem?_eq_getElem _
  generalize code'[k]'(by omega) = x at hx
  have step : ∀ (r : Int × Av) (t : Int),okC r.2 -> 0 <= t -> t < code.length -> Hs (Rz (k : Int) code' r t) (Rnd (λs : List Int × Int × List Ed × Int=>okC ⟨s.1,s.2.1⟩ /\ s.2.2.1.length = code.length /\ ∃ k : Nat,s.2.2.2 = (k : Int) /\ k <= code.length /\ (∀ x,s.2.2.1[code.length - 1]? = some x -> VB x) /\
    ∀ (j : Nat) x,s.2.2.1[j]? = some x -> j + 1 < code.length -> Ry sl np i ps (λt=>if j < k then 0 <= t /\ t < code.length else t = -1) x) (λs=>code.length - s.2.2.2.toNat) (l,a,code',(k : Int)) (λp : QT × Av=>okC p.2 /\ Vo ps i most p.1)):=by
   intro r t hr ht0 ht1
   rw [Acr hx]
   refine .pure ⟨⟨hr,by simp [hl],k + 1,w,hlt,?_,?_⟩,by simp only [w]; omega⟩
   ·intro y hy
    simp only at hy
    by_cases e : k = code.length - 1
    ·rw [<- e,List.getElem?_set_self (by omega)] at hy
     obtain rfl:=Option.some.inj hy
     have hex:=he' x (by rw [<- e]; exact hx)
     rw [hex.fix]; exact hex
    ·rw [List.getElem?_set_ne e] at hy
     exact he' y hy
   ·intro j y hy hj
    simp only at hy
    by_cases e : k = j
    ·subst e
     rw [List.getElem?_set_self (by omega)] at hy
     obtain rfl:=Option.some.inj hy
     exact ((hall k x hx hj).mono λt ht=>by simpa using ht).fix (by rw [if_pos (by omega)]; exact ⟨ht0,ht1⟩)
    ·rw [List.getElem?_set_ne e] at hy
     refine (hall j y hy hj).mono λt ht=>?_
     by_cases e2 : j < k
     ·rw [if_pos e2] at ht; rw [if_pos (by omega)]; exact ht
     ·rw [if_neg e2] at ht; rw [if_neg (by omega)]; exact ht
  refine (Rc hc (by omega) (by omega)).bind λr hr=>?_
  have w1 : IntKind.i64.wrap ((k : Int) + r.1) = (k : Int) + r.1:=wrap64 (by omega) (by omega)
  have w2 : IntKind.i64.wrap ((k : Int) + r.1 - 2) = (k : Int) + r.1 - 2:=wrap64 (by omega) (by omega)
  have w3 : IntKind.i64.wrap ((code'.length : Int) - 1) = (code'.length : Int) - 1:=wrap64 (by omega) (by omega)
  simp only [w1,w2,w3]
  exact .dec (λ_=>step r _ hr.1 (by omega) (by omega)) λ_=>.dec (λ_=>step r _ hr.1 (by omega) (by omega)) λ_=>step r _ hr.1 (by omega) (by omega)
 ·have hlt : ¬ k < code'.length:=λh=>hlt (Int.ofNat_lt.2 h)
  have hkl : k = code.length:=by omega
  refine .lft (.pure ⟨hc,hpar,hsl,hsl',by simp only; omega,by simp only; omega,?_,?_⟩)
  ·intro j x hj hj'
   simp only at hj hj' ⊢
   rw [hl] at hj' ⊢
   refine (hall j x hj hj').mono λt ht=>?_
   rw [if_pos (by omega)] at ht
   exact ht
  ·intro x hx
   simp only at hx
   rw [hl] at hx
   exact he' x hx
theorem Abx {l : List Int} {a : Int} (h : okC ⟨l,a⟩) {sl : List QO} {np i : Int} {ps : List Int} {most : Int} {code : List Ed} (hpar : ps[i.toNat]? = some np) (hsl : sl.length <= 6) (hsl' : ∀ s ∈ sl,Vp s)
  (hlen : (code.length : Int) <= 6 + 5 * most) (hm : most <= 1000) (hb : ∀ x ∈ code,Ry sl np i ps (· = -1) x) {e1 e2 : Int} (he : VB ⟨e1,0,0,0,e2⟩) :
  Hs (RL code np sl l a e1 e2) λp=>okC p.2 /\ Vo ps i most p.1:=by
 unfold RL
 refine .chk (by simp; omega) (Ace h hpar hsl hsl' (by simp) (by simp; omega) hm ?_ ?_)
 ·intro k x hx hk
  simp only [List.length_append,List.length_singleton] at hk
  rw [List.getElem?_append_left (by omega)] at hx
  exact hb x (List.mem_of_getElem? hx)
 ·intro x hx
  simp at hx
  subst hx
  exact he
theorem ZS {c : Av} (h : okC c) {i : Int} {ps : List Int} {most : Int} (hi : 0 <= i) (hi' : i < ps.length) (hps : Yn ps) (hm0 : 0 <= most) (hm : most <= 1000) :
  Hs (SC c i ps most) λp=>okC p.2 /\ Vo ps i most p.1:=by
 unfold SC
 refine (Hs.ix hi hi' λx hx=>hx).bind λnp hnp=>(Abn h (by omega) (by omega)).bind λsl hsl=>?_
 obtain ⟨hc0,hsl1,hsl2⟩:=hsl
 have hnp4:=hps.1 np (List.mem_of_getElem? hnp)
 refine Hs.loop (λs=>okC ⟨s.1,s.2.1⟩ /\ 0 <= s.2.2.2 /\ s.2.2.2 <= sl.1.length /\ (s.2.2.1.length : Int) <= s.2.2.2 /\ ∀ x ∈ s.2.2.1,Ry sl.1 np i ps (· = -1) x) (λs=>sl.1.length - s.2.2.2.toNat) ⟨hc0,by simp,by simp,by simp,by simp⟩ ?_
 rintro ⟨l,a,code,s⟩ ⟨hc,hs0,hs1,hcl,hall⟩
 simp only at hc hs0 hs1 hcl hall
 unfold SM
 refine .dec (λhlt=>?_) λhlt=>?_
 ·have hlt : s < sl.1.length:=hlt
  have w : IntKind.i64.wrap (s + 1) = s + 1:=wrap64 (by omega) (by omega)
  refine (Rc hc (by omega) (by omega)).bind λr hr=>.dec (λ_=>?_) λ_=>?_
  ·refine (Rc hr.1 (by omega) (by omega)).bind λq hq=>.chk (by simp; omega) (.cnt ⟨⟨hq.1,by simp only [w]; omega,by simp only [w]; omega,by simp only [w,List.length_append,List.length_singleton]; omega,?_⟩,by simp only [w]; omega⟩)
   intro y hy
   rcases List.mem_append.1 hy with h2 | h2
   ·exact hall y h2
   ·rw [List.mem_singleton] at h2; subst h2
    exact .store _ _ hs0 hlt hq.2
  ·exact .cnt ⟨⟨hr.1,by simp only [w]; omega,by simp only [w]; omega,by simp only [w]; omega,hall⟩,by simp only [w]; omega⟩
 ·have w : IntKind.i64.wrap (most + 1) = most + 1:=wrap64 (by omega) (by omega)
  rw [w]
  refine .lft ((Rc hc (by omega) (by omega)).bind λr hr=>?_)
  refine Hs.loop (λs=>okC ⟨s.1,s.2.1⟩ /\ s.2.2.2.1 = sl.1 /\ 0 <= s.2.2.2.2 /\ s.2.2.2.2 <= most /\ (s.2.2.1.length : Int) <= 6 + 5 * (most - s.2.2.2.2) /\ ∀ x ∈ s.2.2.1,Ry sl.1 np i ps (· = -1) x) (λs=>s.2.2.2.2.toNat) ⟨hr.1,rfl,hr.2.1,by simp only; omega,by simp only; omega,hall⟩ ?_
  rintro ⟨l,a,code,sl',n⟩ ⟨hc,rfl,hn0,hn1,hcl,hall⟩
  simp only at hc hn0 hn1 hcl hall
  unfold SN
  refine .dec (λhlt=>?_) λhlt=>.lft ?_
  ·have hlt : 0 < n:=hlt
   have w : IntKind.i64.wrap (n - 1) = n - 1:=wrap64 (by omega) (by omega)
   refine (AbA hc (· = -1) (by simp only; omega) hnp4.2 hi hi' hps).bind λb hb=>.chk (by simp; omega) ?_
   have hall2 : ∀ x ∈ code ++ b.1,Ry sl.1 np i ps (· = -1) x:=by
    intro y hy
    rcases List.mem_append.1 hy with h2 | h2
    ·exact hall y h2
    ·exact hb.2.2 y h2
   have hall3 : ∀ x,Ry sl.1 np i ps (· = -1) x -> ∀ y ∈ (code ++ b.1) ++ [x],Ry sl.1 np i ps (· = -1) y:=by
    intro x hx y hy
    rcases List.mem_append.1 hy with h2 | h2
    ·exact hall2 y h2
    ·rw [List.mem_singleton] at h2; subst h2; exact hx
   have hbl:=hb.2.1
   refine (Rc hb.1 (by omega) (by omega)).bind λr hr=>.beq (λ_=>?_) λ_=>.beq (λ_=>?_) λ_=>?_
   ·refine (Rc hr.1 (by omega) (by omega)).bind λq hq=>.chk (by simp; omega) (.cnt ⟨⟨hq.1,rfl,by simp only [w]; omega,by simp only [w]; omega,by simp only [w,List.length_append,List.length_singleton]; omega,hall3 _ (.branch _ _ hq.2 rfl)⟩,by simp only [w]; omega⟩)
   ·refine (Rc hr.1 (by omega) (by omega)).bind λq hq=>.beq (λ_=>?_) λ_=>?_
    ·exact .chk (by simp; omega) (.cnt ⟨⟨hq.1,rfl,by simp only [w]; omega,by simp only [w]; omega,by simp only [w,List.length_append,List.length_singleton]; omega,hall3 _ (.jump _ rfl)⟩,by simp only [w]; omega⟩)
    ·exact .cnt ⟨⟨hq.1,rfl,by simp only [w]; omega,by simp only [w]; omega,by simp only [w,List.length_append]; omega,hall2⟩,by simp only [w]; omega⟩
   ·exact .cnt ⟨⟨hr.1,rfl,by simp only [w]; omega,by simp only [w]; omega,by simp only [w,List.length_append]; omega,hall2⟩,by simp only [w]; omega⟩
  ·refine (Rc hc (by omega) (by omega)).bind λr hr=>.beq (λ_=>?_) λ_=>?_
   ·exact (YY hr.1).bind λq hq=>Abx hq.1 hnp (by omega) hsl2 (by omega) hm hall (.inr ⟨_,hq.2,rfl⟩)
   ·exact Abx hr.1 hnp (by omega) hsl2 (by omega) hm hall (.inl rfl)
def Zs (funcs most : Int) (p : Mk) : Prop :=
 ∃ ps,Yn ps /\ ps[0]? = some 0 /\ 1 <= ps.length /\ (ps.length : Int) <= funcs /\ p.Funcs.length = ps.length /\ ∀ (j : Nat) f,p.Funcs[j]? = some f -> Vo ps j most f
theorem AaA {c : Av} (h : okC c) {funcs most : Int} (hf : 1 <= funcs) (hf' : funcs <= 1000) (hm0 : 0 <= most) (hm : most <= 1000) :
  Hs (SQ c funcs most) λp=>okC p.2 /\ Zs funcs most p.1:=by
 unfold SQ
 refine (Rc h hf (by omega)).bind λr hr=>?_
 refine Hs.loop (λs=>okC ⟨s.1,s.2.1⟩ /\ (∀ v ∈ s.2.2.1,0 <= v /\ v < 4) /\ s.2.2.1[0]? = some 0 /\ 0 <= s.2.2.2 /\ (s.2.2.1.length : Int) + s.2.2.2 <= funcs) (λs=>s.2.2.2.toNat) ⟨hr.1,by simp,by simp,hr.2.1,by simp; omega⟩ ?_
 rintro ⟨l,a,ps,n⟩ ⟨hc,hv,hz,hn0,hn1⟩
 simp only at hc hv hz hn0 hn1
 have hp1 : 1 <= ps.length:=by have:=(List.getElem?_eq_some_iff.1 hz).1; omega
 unfold SS
 refine .dec (λhlt=>?_) λhlt=>.lft ?_
 ·have hlt : 0 < n:=hlt
  have w : IntKind.i64.wrap (n - 1) = n - 1:=wrap64 (by omega) (by omega)
  refine (Rc hc (by omega) (by omega)).bind λq hq=>.chk (by simp; omega) (.cnt ⟨⟨hq.1,?_,by simp only; rw [List.getElem?_append_left (by omega)]; exact hz,by simp only [w]; omega,by simp only [w,List.length_append,List.length_singleton]; omega⟩,by simp only [w]; omega⟩)
  intro y hy
  rcases List.mem_append.1 hy with h2 | h2
  ·exact hv y h2
  ·rw [List.mem_singleton] at h2; subst h2; exact hq.2
 ·have hps : Yn ps:=⟨hv,by omega⟩
  refine Hs.loop (λs=>okC ⟨s.1,s.2.1⟩ /\ s.2.2.2.2 = ps /\ ∃ i : Nat,s.2.2.2.1 = (i : Int) /\ i <= ps.length /\ s.2.2.1.length = i /\ ∀ (j : Nat) f,s.2.2.1[j]? = some f -> Vo ps j most f) (λs=>ps.length - s.2.2.2.1.toNat) ⟨hc,rfl,0,rfl,Nat.zero_le _,rfl,λj f hj=>by simp at hj⟩ ?_
  rintro ⟨l,a,fs,i',ps'⟩ ⟨hc,hpe,i,hie,hi,hfl,hall⟩
  simp only at hc hpe hie hi hfl hall
  subst hpe hie
  unfold SU
  refine .dec (λhlt=>?_) λhlt=>.lft (.pure ⟨hc,ps',hps,hz,hp1,by omega,?_,hall⟩)
  ·have hlt : i < ps'.length:=Int.ofNat_lt.1 hlt
   have w:=TQ (show i < 9223372036854775807 by have:=hps.2; omega)
   have hpl:=hps.2
   refine .chk (by simp; omega) ((ZS hc (i:=(i : Int)) (ps:=ps') (by omega) (by omega) hps hm0 hm).bind λf hf=>.chk (by simp; omega) (.cnt ⟨⟨hf.1,rfl,i + 1,w,hlt,by simp; omega,?_⟩,by simp only [w]; omega⟩))
   intro j g hg
   simp only [List.nil_append] at hg
   by_cases e : j < fs.length
   ·rw [List.getElem?_append_left e] at hg; exact hall j g hg
   ·have hj : j = i:=by
     have:=(List.getElem?_eq_some_iff.1 hg).1
     simp at this; omega
    subst hj
    rw [List.getElem?_append_right (by omega),hfl] at hg
    simp at hg
    subst hg
    exact hf.2
  ·have hlt : ¬ i < ps'.length:=λh=>hlt (Int.ofNat_lt.2 h)
   simp only; omega
end Go.Proofs.YtbnconokpjdnjaaDoor
namespace Go.Proofs.YtbnconokpjdnjaaDoor
open Go Go.Dw Go.Proofs
theorem AbC (n : Int) : R64 (IntKind.i64.wrap n):=by
 unfold R64
 simp [IntKind.wrap,IntKind.signed,IntKind.bits]; omega
theorem Vp.r {s : QO} (h : Vp s) : Abt s:=by
 obtain ⟨h1,h2⟩:=h
 simp only [List.mem_cons,List.not_mem_nil,or_false] at h1 h2
 exact ⟨⟨by omega,by omega⟩,⟨by omega,by omega⟩⟩
theorem TR {op a b c w : Int} (h1 : -9223372036854775808 <= a /\ a <= 9223372036854775807) (h2 : -9223372036854775808 <= b /\ b <= 9223372036854775807) (h3 : -9223372036854775808 <= c /\ c <= 9223372036854775807) (h4 : 0 <= w /\ w < 18446744073709551616) : X07 ⟨op,a,b,c,w⟩:=⟨h1,h2,h3,h4.1,h4.2⟩
theorem Ry.x07 {sl : List QO} {np i : Int} {ps : List Int} {T : Int -> Prop} {x : Ed} (h : Ry sl np i ps T x) (hsl : sl.length <= 1000) (hps : ps.length <= 1000) (hnp : np <= 1000) (hT : ∀ t,T t -> 0 <= t /\ t <= 100000) (hi : 0 <= i) : X07 x:=by
 cases h with
 | store a b h0 h1 h2=>obtain ⟨h3,h4⟩:=h2; exact TR (by omega) (by omega) (by omega) (by omega)
 | load a b h2 h0 h1=>obtain ⟨h3,h4⟩:=h2; exact TR (by omega) (by omega) (by omega) (by omega)
 | move a b h2 h0 h1=>obtain ⟨h3,h4,_⟩:=h2; exact TR (by omega) (by omega) (by omega) (by omega)
 | const a w h2 h3=>obtain ⟨h4,h5⟩:=h2; obtain ⟨h6,h7⟩:=h3; exact TR (by omega) (by omega) (by omega) (by omega)
 | bin op a b c h0 h1 h2 h3 h4 h5=>obtain ⟨h6,h7⟩:=h2; obtain ⟨h8,h9⟩:=h3; exact TR (by omega) (by omega) (by omega) (by omega)
 | out a h2=>obtain ⟨h3,h4⟩:=h2; exact TR (by omega) (by omega) (by omega) (by omega)
 | un op a _ h2=>obtain ⟨h3,h4⟩:=h2; exact TR (by omega) (by omega) (by omega) (by omega)
 | param a b h2 h0 h1=>obtain ⟨h3,h4⟩:=h2; exact TR (by omega) (by omega) (by omega) (by omega)
 | arg a b h0 h1 h2=>obtain ⟨h3,h4⟩:=h2; exact TR (by omega) (by omega) (by omega) (by omega)
 | call j h0 h1=> exact TR (by omega) (by omega) (by omega) (by omega)
 | jump t h0=>have:=hT t h0; exact TR (by omega) (by omega) (by omega) (by omega)
 | branch a t h2 h0=>have:=hT t h0; obtain ⟨h3,h4⟩:=h2; exact TR (by omega) (by omega) (by omega) (by omega)
theorem VB.x07 {x : Ed} (h : VB x) : X07 x:=by
 rcases h with rfl | ⟨w,⟨h1,h2⟩,rfl⟩
 ·exact TR (by omega) (by omega) (by omega) (by omega)
 ·exact TR (by omega) (by omega) (by omega) ⟨h1,h2⟩
theorem Vo.r {ps : List Int} {i : Nat} {f : QT} (h : Vo ps i 10 f) (hps : Yn ps) : Wy f /\ f.Code.length <= 57 /\ f.Slots.length <= 6:=by
 have hpar:=hps.1 f.Params (List.mem_of_getElem? h.par)
 have hlen:=hps.2
 have h57 : f.Code.length <= 57:=by have:=h.len'; omega
 refine ⟨⟨⟨by omega,by omega⟩,λs hs=>(h.slot s hs).r,λx hx=>?_⟩,h57,h.slots⟩
 obtain ⟨k,hk⟩:=List.mem_iff_getElem?.1 hx
 have hlt:=(List.getElem?_eq_some_iff.1 hk).1
 by_cases hl : k + 1 < f.Code.length
 ·exact (h.body k x hk hl).x07 (by have:=h.slots; omega) (by omega) (by omega) (λt ht=>⟨ht.1,by omega⟩) (by omega)
 ·obtain rfl : k = f.Code.length - 1:=by omega
  exact (h.last x hk).x07
def Abs (p : Mk) : Prop:=VY p /\ p.Funcs.length <= 1000 /\ 1 <= p.Funcs.length /\ ∀ f ∈ p.Funcs,f.Code.length <= 57 /\ f.Slots.length <= 6
theorem Zs.r {p : Mk} (h : Zs 4 10 p) : Abs p:=by
 obtain ⟨ps,hps,_,h1,h4,hl,hf⟩:=h
 have key : ∀ f ∈ p.Funcs,Wy f /\ f.Code.length <= 57 /\ f.Slots.length <= 6:=λf hf'=>by
  obtain ⟨j,hj⟩:=List.mem_iff_getElem?.1 hf'
  exact (hf j f hj).r hps
 exact ⟨λf hf=>(key f hf).1,by omega,by omega,λf hf=>(key f hf).2⟩
theorem VH {c : Av} (h : okC c) : Hs (RK c) λr=>okC r.2 /\ R64 r.1:=by
 unfold RK
 refine (Rc h (by omega) (by omega)).bind λr hr=>.cond (λ_=>?_) λ_=>?_
 ·refine (Rc hr.1 (by simp) (by simp)).bind λq hq=>.chk ⟨hq.2.1,hq.2.2⟩ ?_
  refine (Hs.get hq.2.1 hq.2.2 λx hx=>List.mem_of_getElem? hx).bind λx hx=>.pure ⟨hq.1,?_⟩
  simp only [List.mem_cons,List.not_mem_nil,or_false] at hx
  exact ⟨by omega,by omega⟩
 ·refine (Rc hr.1 (by omega) (by omega)).bind λq hq=>(Rc hq.1 (by omega) (by omega)).bind λs hs=>.chk hs.2.1 (.pure ⟨hs.1,AbC _⟩)
theorem Ud {r3 : Int × Av} {p : Mk} (hp : VY p) (h3 : 0 <= r3.1 /\ r3.1 < p.Funcs.length) {l : List Int} {a : Int} {x8 : List Ed} {x9 : List QO} {f10 : Int} (hf : Wy ⟨f10,x9,x8⟩) : Hs (Rj r3 p l a x8 x9 f10) λq=>VY q.1:=by
 unfold Rj
 simp only [List.nil_append]
 refine .chk h3 ((Hs.get (P:=λ_=>True) h3.1 h3.2 λ_ _=>trivial).bind λ_ _=>.pure λf hf'=>?_)
 rcases List.mem_or_eq_of_mem_set hf' with h | rfl
 ·exact hp f h
 ·exact hf
theorem Wt {l : List Ed} (h : ∀ x ∈ l,X07 x) {k : Nat} {y : Ed} (hy : X07 y) : ∀ x ∈ l.set k y,X07 x:=λx hx=>(List.mem_or_eq_of_mem_set hx).elim (h x) λe=>e ▸ hy
theorem Ack {c : Av} (h : okC c) {p : Mk} (hp : Abs p) : Hs (TZ c p) λq=>VY q.1:=by
 obtain ⟨hR,h1,h2,h3⟩:=hp
 unfold TZ
 simp only [List.nil_append,List.length_nil,Nat.zero_add]
 refine .chk (by omega) ((Rc h (by omega) (by omega)).bind λr3 hr3=>.chk ⟨hr3.2.1,hr3.2.2⟩ ?_)
 refine (Hs.get hr3.2.1 hr3.2.2 λx hx=>List.mem_of_getElem? hx).bind λf hf=>?_
 have hlim:=h3 f hf
 have hfR:=hR f hf
 have hi : 0 <= r3.1 /\ r3.1 < p.Funcs.length:=⟨hr3.2.1,hr3.2.2⟩
 refine .cond (λ_=>.pure hR) λhne=>.chk (by omega) (.chk (by omega) ?_)
 have hpos : 1 <= f.Code.length:=by
  have : f.Code.length ≠ 0:=by simpa using hne
  omega
 refine (Rc hr3.1 (by omega) (by omega)).bind λr5 hr5=>(Rc hr5.1 (by omega) (by omega)).bind λr11 hr11=>?_
 have gx : ∀ {β : Type} (k : Ed -> Option β) (Q : β -> Prop),(∀ x,X07 x -> Hs (k x) Q) -> Hs (chk (0 <= r5.1 /\ r5.1 < f.Code.length) ((f.Code[r5.1.toNat]?).bind k)) Q:=λk Q hk =>
  .chk ⟨hr5.2.1,hr5.2.2⟩ ((Hs.get hr5.2.1 hr5.2.2 λx hx=>hfR.c x (List.mem_of_getElem? hx)).bind hk)
 refine .cond (λ_=>?_) λ_=>.cond (λ_=>?_) λ_=>.cond (λ_=>?_) λ_=>.cond (λ_=>?_) λ_=>.cond (λ_=>?_) λ_=>.cond (λ_=>?_) λ_=>.cond (λ_=>?_) λ_=>.cond (λ_=>?_) λ_=>.cond (λ_=>?_) λ_=>?_
 ·exact (Rc hr11.1 (by omega) (by omega)).bind λq _=>gx _ _ λx hx=>Ud hR hi ⟨hfR.p,hfR.s,Wt hfR.c ⟨hx.a,hx.b,hx.c,hx.i0,hx.i1⟩⟩
 ·exact (VH hr11.1).bind λq hq=>gx _ _ λx hx=>Ud hR hi ⟨hfR.p,hfR.s,Wt hfR.c ⟨hq.2,hx.b,hx.c,hx.i0,hx.i1⟩⟩
 ·exact (VH hr11.1).bind λq hq=>gx _ _ λx hx=>Ud hR hi ⟨hfR.p,hfR.s,Wt hfR.c ⟨hx.a,hq.2,hx.c,hx.i0,hx.i1⟩⟩
 ·exact (VH hr11.1).bind λq hq=>gx _ _ λx hx=>Ud hR hi ⟨hfR.p,hfR.s,Wt hfR.c ⟨hx.a,hx.b,hq.2,hx.i0,hx.i1⟩⟩
 ·exact (YY hr11.1).bind λq hq=>gx _ _ λx hx=>Ud hR hi ⟨hfR.p,hfR.s,Wt hfR.c ⟨hx.a,hx.b,hx.c,hq.2.1,hq.2.2⟩⟩
 ·exact (VH hr11.1).bind λq hq=>Ud hR hi ⟨hq.2,hfR.s,hfR.c⟩
 ·refine (VH hr11.1).bind λq hq=>(VH hq.1).bind λq' hq'=>.chk (by simp only [List.length_cons,List.length_nil]; omega) (Ud hR hi ⟨hfR.p,λs hs=>?_,hfR.c⟩)
  rcases List.mem_append.1 hs with hs | hs
  ·exact hfR.s s hs
  ·rw [List.mem_singleton] at hs; subst hs
   exact ⟨hq.2,hq'.2⟩
 ·exact .chk ⟨hr5.2.1,by omega⟩ (Ud hR hi ⟨hfR.p,hfR.s,λx hx=>hfR.c x (List.mem_of_mem_take hx)⟩)
 ·refine .dec (λhsl=>?_) λ_=>Ud hR hi ⟨hfR.p,hfR.s,hfR.c⟩
  refine (Rc hr11.1 (by omega) (by omega)).bind λq hq=>(Aaj hq.1).bind λs hs=>.chk ⟨hq.2.1,hq.2.2⟩ ((Hs.get (P:=λ_=>True) hq.2.1 hq.2.2 λ_ _=>trivial).bind λ_ _=>Ud hR hi ⟨hfR.p,λt ht=>?_,hfR.c⟩)
  rcases List.mem_or_eq_of_mem_set ht with h | rfl
  ·exact hfR.s t h
  ·exact hs.2.r
 ·exact Ud hR hi ⟨hfR.p,hfR.s,hfR.c⟩
theorem VO (codes : List Int) (hc : qL (Sv .u8) codes) : SD codes = some true:=by
 obtain ⟨c,hc1,hc2⟩:=Acj codes 200 hc (by omega) (by omega)
 have key : Hs (SD codes) λb=>b = true:=by
  unfold SD
  rw [Abz,Option.bind_some]
  simp only [Bool.not_true,cond_false]
  rw [hc1,Option.bind_some]
  refine (AaA hc2 (by omega) (by omega) (by omega) (by omega)).bind λr4 h4=>(Ack h4.1 h4.2.r).bind λr5 h5=>?_
  have hall : ∀ p ∈ ([r4.1,r5.1,(Mk.mk ([]))] : List Mk),VY p:=by
   intro p hp
   simp only [List.mem_cons,List.not_mem_nil,or_false] at hp
   rcases hp with rfl | rfl | rfl
   ·exact h4.2.r.1
   ·exact h5
   ·intro f hf; cases hf
  refine Hs.loop (λi=>0 <= i /\ i <= 3) (λi=>(3 - i).toNat) ⟨by omega,by omega⟩ ?_
  rintro i ⟨hi0,hi3⟩
  unfold SO
  refine .dec (λhlt=>?_) λ_=>.lft (.pure rfl)
  have hlt3 : i < 3:=by simpa using hlt
  refine .chk ⟨hi0,by simpa using hlt⟩ ((Hs.get hi0 (by simpa using hlt) λx hx=>hall x (List.mem_of_getElem? hx)).bind λp hp=>?_)
  obtain ⟨r,r1,r2⟩:=ZR p hp
  rw [r1,r2,Option.bind_some,Option.bind_some]
  have w : IntKind.i64.wrap (i + 1) = i + 1:=wrap64 (by omega) (by omega)
  simp only [bne_self_eq_false,cond_false,beq_self_eq_true,Bool.not_true]
  rw [w]
  exact .cnt ⟨⟨by omega,by omega⟩,by dsimp only; omega⟩
 obtain ⟨b,hb,rfl⟩:=key
 exact hb
end Go.Proofs.YtbnconokpjdnjaaDoor
