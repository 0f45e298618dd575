/-
  Plain laws about the typed programs.
-/
import Derived.Test.YtcelninhkmhjkaaDoorDc
import Derived.Test.YtcelninhkmhjkaaDoorDxP
namespace Go.Dw
section
variable {ι R α : Type} {body : ι → Option (ι ⊕ R)} {v : R}
theorem SW {α β : Type} (s : List α) (mk : β → Int → ι) (I : β → Nat → Prop) (F : β → List α → Option R)
  (hnil : ∀ acc,I acc s.length → ∃ v,body (mk acc s.length) = some (.inr v) ∧ F acc [] = some v)
  (hcons : ∀ acc (i : Nat) x r,I acc i → s.drop i = x :: r → i < s.length → s[i]? = some x →
   (∃ acc',I acc' (i + 1) ∧ body (mk acc i) = some (.inl (mk acc' ((i + 1 : Nat) : Int))) ∧ F acc (x :: r) = F acc' r) ∨ (∃ v,body (mk acc i) = some (.inr v) ∧ F acc (x :: r) = some v))
  (acc : β) (h0 : I acc 0) : MA body (mk acc 0) = F acc s:=by
 have : ∀ k i acc,i + k = s.length → I acc i → MA body (mk acc (i : Nat)) = F acc (s.drop i):=by
  intro k
  induction k with
  | zero =>
   intro i acc hi hI
   simp only [Nat.add_zero] at hi
   subst hi
   obtain ⟨v,h1,h2⟩:=hnil acc hI
   rw [Xv,h1,List.drop_length,h2]
  | succ k ih =>
   intro i acc hi hI
   have hl : i < s.length:=by omega
   have hd:=List.drop_eq_getElem_cons hl
   rw [hd]
   rcases hcons acc i _ _ hI hd hl (List.getElem?_eq_getElem hl) with ⟨acc',h1,h2,h3⟩ | ⟨v,h1,h2⟩
   ·rw [Xv,h2,h3]
    exact ih (i + 1) acc' (by omega) h1
   ·rw [Xv,h1,h2]
 have:=this s.length 0 acc (by omega) h0
 simpa using this
@[simp] theorem Qd (l : List α) (i : Nat) : ixO l (i : Int) = l[i]?:=by
 unfold ixO
 rw [if_neg (by omega)]
 simp
theorem RI (l : List α) {i : Int} (h : 0 ≤ i) : ixO l i = l[i.toNat]?:=by
 unfold ixO
 rw [if_neg (by omega)]
@[simp] theorem AfS (l : List α) (i : Nat) : ixO l ((i : Int) + 1) = l[i + 1]?:=by
 have:=Qd l (i + 1)
 simpa using this
@[simp] theorem AfT (l : List α) : ixO l 0 = l[0]?:=RI l (Int.le_refl 0)
theorem wrap64 {n : Int} (h0 : -9223372036854775808 ≤ n) (h1 : n ≤ 9223372036854775807) : IntKind.i64.wrap n = n:=AdV h0 h1
@[simp] theorem Aga : IntKind.i64.wrap 0 = 0:=by decide
@[simp] theorem Agb : IntKind.i64.wrap 1 = 1:=by decide
@[simp] theorem Agc : IntKind.i64.wrap 2 = 2:=by decide
@[simp] theorem Agd : IntKind.i64.wrap 3 = 3:=by decide
theorem MD {i : Nat} (h : i < 9223372036854775807) : IntKind.i64.wrap ((i : Int) + 1) = ((i + 1 : Nat) : Int):=by
 rw [wrap64 (by omega) (by omega)]; rfl
@[simp] theorem AfV (r : R) : (lft (some r) : Option (ι ⊕ R)) = some (.inr r):=rfl
@[simp] theorem AfU : (lft none : Option (ι ⊕ R)) = none:=rfl
@[simp] theorem AfY (s : ι) : (cnt s : Option (ι ⊕ R)) = some (.inl s):=rfl
theorem AdI (a b : Int) : Ty a b = min a b:=by unfold Ty; split <;> omega
end
end Go.Dw
namespace Go.Dw
open Go
def Hs {α : Type} (m : Option α) (P : α → Prop) : Prop:=∃ r,m = some r ∧ P r
section
variable {α β ι R : Type}
theorem Hs.pure {a : α} {P : α → Prop} (h : P a) : Hs (some a) P:=⟨a,rfl,h⟩
theorem Hs.bind {m : Option α} {f : α → Option β} {P : α → Prop} {Q : β → Prop} (h : Hs m P) (hf : ∀ r,P r → Hs (f r) Q) : Hs (m.bind f) Q:=by
 obtain ⟨r,rfl,hr⟩:=h
 exact hf r hr
theorem Hs.mono {m : Option α} {P Q : α → Prop} (h : Hs m P) (hf : ∀ r,P r → Q r) : Hs m Q:=by
 obtain ⟨r,h1,hr⟩:=h
 exact ⟨r,h1,hf r hr⟩
theorem Hs.chk {p : Prop} [Decidable p] {m : Option α} {P : α → Prop} (hp : p) (h : Hs m P) : Hs (chk p m) P:=by
 rw [MY hp]; exact h
theorem Hs.cond {b : Bool} {x y : Option α} {P : α → Prop} (h1 : b = true → Hs x P) (h2 : b = false → Hs y P) : Hs (bif b then x else y) P:=by
 cases b
 ·exact h2 rfl
 ·exact h1 rfl
theorem Hs.dec {p : Prop} [Decidable p] {x y : Option α} {P : α → Prop} (h1 : p → Hs x P) (h2 : ¬ p → Hs y P) : Hs (bif decide p then x else y) P :=
 Hs.cond (fun h=>h1 (of_decide_eq_true h)) (fun h=>h2 (of_decide_eq_false h))
theorem Hs.beq {a b : Int} {x y : Option α} {P : α → Prop} (h1 : a = b → Hs x P) (h2 : a ≠ b → Hs y P) : Hs (bif a == b then x else y) P :=
 Hs.cond (fun h=>h1 (by simpa using h)) (fun h=>h2 (by simpa using h))
theorem Hs.bne {a b : Int} {x y : Option α} {P : α → Prop} (h1 : a ≠ b → Hs x P) (h2 : a = b → Hs y P) : Hs (bif a != b then x else y) P :=
 Hs.cond (fun h=>h1 (by simpa using h)) (fun h=>h2 (by simpa using h))
theorem Hs.cnt {s : ι} {P : ι ⊕ R → Prop} (h : P (.inl s)) : Hs (Go.Dw.cnt s) P:=⟨_,rfl,h⟩
theorem Hs.lft {m : Option R} {P : ι ⊕ R → Prop} (h : Hs m fun r=>P (.inr r)) : Hs (Go.Dw.lft m) P:=by
 obtain ⟨r,rfl,h⟩:=h
 exact ⟨_,rfl,h⟩
def Rnd (I : ι → Prop) (μ : ι → Nat) (s : ι) (Q : R → Prop) : ι ⊕ R → Prop
 | .inl s'=>I s' ∧ μ s' < μ s
 | .inr r=>Q r
theorem Hs.loop {body : ι → Option (ι ⊕ R)} {s : ι} {Q : R → Prop} (I : ι → Prop) (μ : ι → Nat) (h0 : I s) (hb : ∀ s,I s → Hs (body s) (Rnd I μ s Q)) : Hs (MA body s) Q:=by
 refine Abj I Q μ h0 fun s hs=>?_
 obtain ⟨z,hz,hq⟩:=hb s hs
 cases z with
 | inl s'=>exact .inl ⟨s',hz,hq⟩
 | inr r=>exact .inr ⟨r,hz,hq⟩
theorem Hs.get {l : List α} {i : Int} {P : α → Prop} (h0 : 0 ≤ i) (h1 : i < l.length) (h : ∀ x,l[i.toNat]? = some x → P x) : Hs (l[i.toNat]?) P:=by
 have : l[i.toNat]? = some (l[i.toNat]'(by omega)):=List.getElem?_eq_getElem _
 exact ⟨_,this,h _ this⟩
theorem Hs.ix {l : List α} {i : Int} {P : α → Prop} (h0 : 0 ≤ i) (h1 : i < l.length) (h : ∀ x,l[i.toNat]? = some x → P x) : Hs (ixO l i) P:=by
 rw [RI _ h0]; exact Hs.get h0 h1 h
end
theorem YK (n : Int) : 0 ≤ IntKind.u64.wrap n ∧ IntKind.u64.wrap n < 18446744073709551616:=by
 simp [IntKind.wrap,IntKind.signed,IntKind.bits]; omega
end Go.Dw
namespace Go.Proofs.YtcelninhkmhjkaaDoor
open Go Go.Dw Go.Proofs
attribute [local simp] MY Bool.cond_eq_ite
def okC (c : LR) : Prop:=0 ≤ c.at_ ∧ c.at_ ≤ c.list.length ∧ c.list.length ≤ 1000 ∧ ∀ v ∈ c.list,0 ≤ v ∧ v ≤ 255
theorem AfJ (l : List Int) (n : Int) (hl : qL (Oi .u8) l) (h0 : 0 ≤ n) (h1 : n ≤ 1000) : ∃ c,TU l n = some c ∧ okC c:=by
 unfold TU
 have e : Ty (l.length : Int) n = min (l.length : Int) n:=AdI _ _
 rw [e]
 refine ⟨_,by rw [MY (by omega)],by simp,?_,?_,?_⟩
 ·simp
 ·simp only [List.length_take]; omega
 ·intro v hv
  have:=hl.2 v (List.mem_of_mem_take hv)
  simpa [Oi,IntKind.min,IntKind.max,IntKind.signed,IntKind.bits] using this
theorem AdL (c : LR) (h : okC c) (n : Int) (h1 : n ≤ 1099511627776) : ∃ r c',Mc c n = some (r,c') ∧ okC c' ∧ 0 ≤ r ∧ (r < n ∨ r = 0):=by
 obtain ⟨ha,hb,hc,hd⟩:=h
 unfold Mc Pn
 by_cases hl : c.at_ < c.list.length
 ·by_cases hn : n < 1
  ·exact ⟨0,c,by simp [hl,hn],⟨ha,hb,hc,hd⟩,by omega,.inr rfl⟩
  ·have hx : c.list[c.at_.toNat]? = some (c.list[c.at_.toNat]'(by omega)):=List.getElem?_eq_getElem _
   have hv:=hd _ (List.getElem_mem (show c.at_.toNat < c.list.length by omega))
   generalize hq : c.list[c.at_.toNat]'(by omega) = v at hx hv
   have e1 : IntKind.i64.wrap v = v:=wrap64 (by omega) (by omega)
   have hm0 : 0 ≤ v * n:=Int.mul_nonneg hv.1 (by omega)
   have hm1 : v * n ≤ 255 * n:=Int.mul_le_mul_of_nonneg_right hv.2 (by omega)
   have e2 : IntKind.i64.wrap (v * n) = v * n:=wrap64 (by omega) (by omega)
   have e3 : (v * n).tdiv 256 = v * n / 256:=Int.tdiv_eq_ediv_of_nonneg hm0
   have e4 : IntKind.i64.wrap (v * n / 256) = v * n / 256:=wrap64 (by omega) (by omega)
   have e5 : IntKind.i64.wrap (c.at_ + 1) = c.at_ + 1:=wrap64 (by omega) (by omega)
   refine ⟨v * n / 256,⟨c.list,c.at_ + 1⟩,?_,⟨by simp only; omega,by simp only; omega,hc,hd⟩,by omega,.inl (by omega)⟩
   simp [hl,hn,Pp,RI _ ha,hx,e1,e2,e3,e4,e5]
 ·exact ⟨0,c,by simp [hl],⟨ha,hb,hc,hd⟩,by omega,.inr rfl⟩
end Go.Proofs.YtcelninhkmhjkaaDoor
namespace Go.Proofs.YtcelninhkmhjkaaDoor
open Go Go.Dw Go.Proofs
theorem AdJ {c : LR} (h : okC c) {n : Int} (h1 : n ≤ 1099511627776) : Hs (Mc c n) fun p=>okC p.2 ∧ 0 ≤ p.1 ∧ (p.1 < n ∨ p.1 = 0):=by
 obtain ⟨r,c',e,h2,h3,h4⟩:=AdL c h n h1
 exact ⟨(r,c'),e,h2,h3,h4⟩
theorem Mz {c : LR} (h : okC c) {n : Int} (h0 : 1 ≤ n) (h1 : n ≤ 1099511627776) : Hs (Mc c n) fun p=>okC p.2 ∧ 0 ≤ p.1 ∧ p.1 < n :=
 (AdJ h h1).mono fun r hr=>⟨hr.1,hr.2.1,by omega⟩
def WO (s : Mv) : Prop:=s.Size ∈ ([8,4,8,1,2,16,8] : List Int) ∧ s.Align ∈ ([8,4,1,8,16,2,32,64] : List Int)
def W64 (w : Int) : Prop:=0 ≤ w ∧ w < 18446744073709551616
def Reg (a : Int) : Prop:=0 ≤ a ∧ a < 4
theorem AdN {c : LR} (h : okC c) : Hs (Om c) fun p=>okC p.2 ∧ WO p.1:=by
 unfold Om
 refine (Mz h (by omega) (by omega)).bind fun r hr=>.chk (by simp; omega) ?_
 refine (Hs.get hr.2.1 (by simp; omega) fun x hx=>List.mem_of_getElem? hx).bind fun x hx=>?_
 refine (Mz hr.1 (by omega) (by omega)).bind fun r' hr'=>.chk (by simp; omega) ?_
 refine (Hs.get hr'.2.1 (by simp; omega) fun x hx=>List.mem_of_getElem? hx).bind fun y hy=>?_
 exact .pure ⟨hr'.1,hx,hy⟩
theorem AcS {c : LR} (h : okC c) {m : Int} (hm : 0 ≤ m) (hm' : m ≤ 1000) : Hs (NX c m) fun p=>okC p.2 ∧ (p.1.length : Int) ≤ m ∧ ∀ s ∈ p.1,WO s:=by
 unfold NX
 have w : IntKind.i64.wrap (m + 1) = m + 1:=wrap64 (by omega) (by omega)
 rw [w]
 refine (Mz h (by omega) (by omega)).bind fun r hr=>?_
 refine Hs.loop (fun s=>okC ⟨s.1,s.2.1⟩ ∧ (s.2.2.1.length : Int) + s.2.2.2 ≤ m ∧ (∀ x ∈ s.2.2.1,WO x) ∧ 0 ≤ s.2.2.2) (fun s=>s.2.2.2.toNat) ⟨hr.1,by simp; omega,by simp,hr.2.1⟩ ?_
 rintro ⟨l,a,sl,n⟩ ⟨hc,hl,hs,hn⟩
 simp only at hc hl hs hn
 unfold OY
 refine .dec (fun hlt=>?_) fun hlt=>?_
 ·have hlt : 0 < n:=hlt
  have w : IntKind.i64.wrap (n - 1) = n - 1:=wrap64 (by omega) (by omega)
  refine (AdN hc).bind fun x hx=>.chk (by simp; omega) (.cnt ⟨⟨hx.1,?_,?_,?_⟩,?_⟩)
  ·simp only [w,List.length_append,List.length_singleton]; omega
  ·intro y hy
   rcases List.mem_append.1 hy with h1 | h1
   ·exact hs y h1
   ·rw [List.mem_singleton] at h1; subst h1; exact hx.2
  ·simp only [w]; omega
  ·simp only [w]; omega
 ·exact .lft (.pure ⟨hc,by simp only; omega,hs⟩)
theorem AaP {c : LR} (h : okC c) : Hs (NO c) fun p=>okC p.2 ∧ W64 p.1:=by
 unfold NO
 refine (Mz h (by omega) (by omega)).bind fun r hr=>.beq (fun _=>?_) fun _=>.beq (fun _=>?_) fun _=>.beq (fun _=>?_) fun _=>?_
 ·exact (Mz hr.1 (by omega) (by omega)).bind fun r' hr'=>.pure ⟨hr'.1,YK _⟩
 ·exact (Mz hr.1 (by omega) (by omega)).bind fun r' hr'=>.chk hr'.2.1 (.pure ⟨hr'.1,YK _⟩)
 ·exact .pure ⟨hr.1,by simp only; unfold W64; omega⟩
 ·exact (Mz hr.1 (by omega) (by omega)).bind fun r' hr'=>.pure ⟨hr'.1,YK _⟩
def AbH (sl : List Mv) (a b : Int) : Prop:=0 ≤ a ∧ a < sl.length ∧ ∃ x y,sl[a.toNat]? = some x ∧ sl[b.toNat]? = some y ∧ x.Size = y.Size
theorem AdH {c : LR} (h : okC c) {f : LW} {s : Int} (h0 : 0 ≤ s) (h1 : s < f.Slots.length) (hl : f.Slots.length ≤ 1000) : Hs (Oo c f s) fun p=>okC p.2 ∧ AbH f.Slots p.1 s:=by
 unfold Oo
 refine Hs.loop (fun st=>0 ≤ st.2 ∧ st.2 ≤ f.Slots.length ∧ (st.1.length : Int) ≤ st.2 ∧ (∀ v ∈ st.1,AbH f.Slots v s) ∧ (s < st.2 → 0 < st.1.length)) (fun st=>f.Slots.length - st.2.toNat) ⟨by simp,by simp,by simp,by simp,fun h=>by simp at h; omega⟩ ?_
 rintro ⟨l,k⟩ ⟨hk0,hk1,hll,hv,hne⟩
 simp only at hk0 hk1 hll hv hne
 unfold Pr
 refine .dec (fun hlt=>?_) fun hlt=>.lft ?_
 ·have w : IntKind.i64.wrap (k + 1) = k + 1:=wrap64 (by omega) (by omega)
  refine (Hs.ix hk0 hlt fun x hx=>hx).bind fun x hx=>(Hs.ix h0 h1 fun x hx=>hx).bind fun y hy=>.beq (fun he=>?_) fun he=>?_
  ·refine .chk (by simp; omega) (.cnt ⟨⟨by simp only [w]; omega,by simp only [w]; omega,by simp only [w,List.length_append,List.length_singleton]; omega,?_,by simp⟩,by simp only [w]; omega⟩)
   intro v hv'
   rcases List.mem_append.1 hv' with h2 | h2
   ·exact hv v h2
   ·rw [List.mem_singleton] at h2; subst h2
    exact ⟨hk0,hlt,x,y,hx,hy,he⟩
  ·refine .cnt ⟨⟨by simp only [w]; omega,by simp only [w]; omega,by simp only [w]; omega,hv,fun h3=>?_⟩,by simp only [w]; omega⟩
   simp only [w] at h3
   by_cases e : s = k
   ·subst e; rw [hx] at hy; cases hy; exact (he rfl).elim
   ·exact hne (by omega)
 ·have hlt : ¬ k < f.Slots.length:=hlt
  have hl1:=hne (by omega)
  refine (Mz h (n:=(l.length : Int)) (by omega) (by omega)).bind fun r hr=>.chk ⟨hr.2.1,hr.2.2⟩ ?_
  exact (Hs.get hr.2.1 hr.2.2 fun x hx=>hv x (List.mem_of_getElem? hx)).bind fun x hx=>.pure ⟨hr.1,hx⟩
inductive MO (sl : List Mv) (np i : Int) (ps : List Int) (T : Int → Prop) : LS → Prop
 | store (a b : Int) : 0 ≤ a → a < sl.length → Reg b → MO sl np i ps T ⟨16,a,b,0,0⟩
 | load (a b : Int) : Reg a → 0 ≤ b → b < sl.length → MO sl np i ps T ⟨15,a,b,0,0⟩
 | move (a b : Int) : AbH sl a b → 0 ≤ b → b < sl.length → MO sl np i ps T ⟨17,a,b,0,0⟩
 | const (a w : Int) : Reg a → W64 w → MO sl np i ps T ⟨0,a,0,0,w⟩
 | bin (op a b c : Int) : 2 ≤ op → op < 12 → Reg a → Reg b → 0 ≤ c → c < 8 → MO sl np i ps T ⟨op,a,b,c,0⟩
 | out (a : Int) : Reg a → MO sl np i ps T ⟨14,a,0,0,0⟩
 | un (op a : Int) : (op = 13 ∨ op = 12 ∨ op = 1) → Reg a → MO sl np i ps T ⟨op,a,0,0,0⟩
 | param (a b : Int) : Reg a → 0 ≤ b → b < np → MO sl np i ps T ⟨19,a,b,0,0⟩
 | arg (a b : Int) : 0 ≤ a → a < 4 → Reg b → MO sl np i ps T ⟨18,a,b,0,0⟩
 | call (j : Int) : i < j → j < ps.length → MO sl np i ps T ⟨22,j,0,0,0⟩
 | jump (t : Int) : T t → MO sl np i ps T ⟨20,t,0,0,0⟩
 | branch (a t : Int) : Reg a → T t → MO sl np i ps T ⟨21,a,t,0,0⟩
def ZZ (ps : List Int) : Prop:=(∀ v ∈ ps,0 ≤ v ∧ v < 4) ∧ ps.length ≤ 1000
theorem Adi {c : LR} (h : okC c) {f : LW} {i : Int} {ps : List Int} (T : Int → Prop) (hf : f.Slots.length ≤ 1000) (hp : f.Params < 4) (hi : 0 ≤ i) (hi' : i < ps.length) (hps : ZZ ps) :
  Hs (On c f i ps) fun p=>okC p.2 ∧ p.1.length ≤ 4 ∧ ∀ x ∈ p.1,MO f.Slots f.Params i ps T x:=by
 unfold On
 refine (Mz h (by omega) (by omega)).bind fun r hr=>(Mz hr.1 (by omega) (by omega)).bind fun k hk=>?_
 have hreg : Reg r.1:=hr.2
 have one : ∀ {x : LS} {c' : LR},okC c' → MO f.Slots f.Params i ps T x → Hs (some (([x] : List LS),c')) fun p=>okC p.2 ∧ p.1.length ≤ 4 ∧ ∀ x ∈ p.1,MO f.Slots f.Params i ps T x:=fun hc hx=>.pure ⟨hc,by simp,by simpa using hx⟩
 have j6 : ∀ b,(b = true → i + 1 < ps.length) → Hs (NH k ps i r b) fun p=>okC p.2 ∧ p.1.length ≤ 4 ∧ ∀ x ∈ p.1,MO f.Slots f.Params i ps T x:=by
  intro b hb
  unfold NH
  refine .cond (fun hb'=>?_) fun _=>one hk.1 (.out _ hreg)
  have hil:=hb hb'
  have hlen:=hps.2
  have w1 : IntKind.i64.wrap ((ps.length : Int) - i) = (ps.length : Int) - i:=wrap64 (by omega) (by omega)
  have w2 : IntKind.i64.wrap ((ps.length : Int) - i - 1) = (ps.length : Int) - i - 1:=wrap64 (by omega) (by omega)
  have w3 : IntKind.i64.wrap (i + 1) = i + 1:=wrap64 (by omega) (by omega)
  rw [w1,w2]
  refine (Mz hk.1 (by omega) (by omega)).bind fun q hq=>?_
  have w4 : IntKind.i64.wrap (i + 1 + q.1) = i + 1 + q.1:=wrap64 (by omega) (by omega)
  refine Hs.loop (fun s=>okC ⟨s.1,s.2.1⟩ ∧ (s.2.2.1.length : Int) ≤ s.2.2.2 ∧ 0 ≤ s.2.2.2 ∧ s.2.2.2 ≤ 3 ∧ ∀ x ∈ s.2.2.1,MO f.Slots f.Params i ps T x) (fun s=>(3 - s.2.2.2).toNat) ⟨hq.1,by simp,by simp,by simp,by simp⟩ ?_
  rintro ⟨l,a,out,n⟩ ⟨hc,ho,hn0,hn3,hall⟩
  simp only at hc ho hn0 hn3 hall
  unfold Pq
  simp only [w3,w4]
  refine (Hs.ix (by omega) (by omega) fun x hx=>hps.1 x (List.mem_of_getElem? hx)).bind fun x hx=>.dec (fun hlt=>?_) fun hlt=>.lft ?_
  ·have w5 : IntKind.i64.wrap (n + 1) = n + 1:=wrap64 (by omega) (by omega)
   refine (Mz hc (by omega) (by omega)).bind fun u hu=>.dec (fun _=>?_) fun _=>?_
   ·refine (Mz hu.1 (by omega) (by omega)).bind fun v hv=>.chk (by simp; omega) (.cnt ⟨⟨hv.1,by simp only [w5,List.length_append,List.length_singleton]; omega,by simp only [w5]; omega,by simp only [w5]; omega,?_⟩,by simp only [w5]; omega⟩)
    intro y hy
    rcases List.mem_append.1 hy with h2 | h2
    ·exact hall y h2
    ·rw [List.mem_singleton] at h2; subst h2
     exact .arg _ _ hn0 (by omega) hv.2
   ·exact .cnt ⟨⟨hu.1,by simp only [w5]; omega,by simp only [w5]; omega,by simp only [w5]; omega,hall⟩,by simp only [w5]; omega⟩
  ·refine .chk (by simp; omega) (.pure ⟨hc,by simp only [List.length_append,List.length_singleton]; omega,?_⟩)
   intro y hy
   rcases List.mem_append.1 hy with h2 | h2
   ·exact hall y h2
   ·rw [List.mem_singleton] at h2; subst h2
    exact .call _ (by omega) (by omega)
 have j5 : ∀ b,(b = true → 0 < f.Params) → Hs (NG k f r ps i b) fun p=>okC p.2 ∧ p.1.length ≤ 4 ∧ ∀ x ∈ p.1,MO f.Slots f.Params i ps T x:=by
  intro b hb
  unfold NG
  refine .cond (fun hb'=>?_) fun _=>.dec (fun _=>j6 _ fun hd=>?_) fun _=>j6 _ fun hd=>(by cases hd)
  ·have:=hb hb'
   exact (Mz hk.1 (by omega) (by omega)).bind fun u hu=>one hu.1 (.param _ _ hreg hu.2.1 hu.2.2)
  ·have hlen:=hps.2
   have:=of_decide_eq_true hd
   rw [wrap64 (by omega) (by omega)] at this
   exact this
 have j4 : ∀ b,(b = true → 0 < f.Slots.length) → Hs (NF k f r ps i b) fun p=>okC p.2 ∧ p.1.length ≤ 4 ∧ ∀ x ∈ p.1,MO f.Slots f.Params i ps T x:=by
  intro b hb
  unfold NF
  refine .cond (fun hb'=>?_) fun _=>.dec (fun _=>?_) fun _=>.dec (fun _=>?_) fun _=>.dec (fun _=>one hk.1 (.out _ hreg)) fun _=>.beq (fun _=>?_) fun _=>.beq (fun _=>j5 _ fun hd=>of_decide_eq_true hd) fun _=>j5 _ fun hd=>(by cases hd)
  ·have:=hb hb'
   exact (Mz hk.1 (by omega) (by omega)).bind fun u hu=>(AdH hu.1 hu.2.1 hu.2.2 hf).bind fun v hv=>one hv.1 (.move _ _ hv.2 hu.2.1 hu.2.2)
  ·exact (AaP hk.1).bind fun u hu=>one hu.1 (.const _ _ hreg hu.2)
  ·refine (Mz hk.1 (by omega) (by omega)).bind fun u hu=>(Mz hu.1 (by omega) (by omega)).bind fun v hv=>(Mz hv.1 (by omega) (by omega)).bind fun z hz=>one hz.1 ?_
   rw [wrap64 (by omega) (by omega)]
   exact .bin _ _ _ _ (by omega) (by omega) hreg hv.2 hz.2.1 hz.2.2
  ·refine (Mz hk.1 (by omega) (by omega)).bind fun u hu=>.chk (by simp; omega) ?_
   refine (Hs.get hu.2.1 (by simp; omega) fun x hx=>List.mem_of_getElem? hx).bind fun x hx=>one hu.1 (.un _ _ (by simpa using hx) hreg)
 have j3 : ∀ b,(b = true → 0 < f.Slots.length) → Hs (ND k f r ps i b) fun p=>okC p.2 ∧ p.1.length ≤ 4 ∧ ∀ x ∈ p.1,MO f.Slots f.Params i ps T x:=by
  intro b hb
  unfold ND
  refine .cond (fun hb'=>?_) fun _=>.dec (fun _=>j4 _ fun hd=>by have:=of_decide_eq_true hd; omega) fun _=>j4 _ fun hd=>(by cases hd)
  have:=hb hb'
  exact (Mz hk.1 (by omega) (by omega)).bind fun u hu=>one hu.1 (.load _ _ hreg hu.2.1 hu.2.2)
 have j2 : ∀ b,(b = true → 0 < f.Slots.length) → Hs (NC k f r ps i b) fun p=>okC p.2 ∧ p.1.length ≤ 4 ∧ ∀ x ∈ p.1,MO f.Slots f.Params i ps T x:=by
  intro b hb
  unfold NC
  refine .cond (fun hb'=>?_) fun _=>.dec (fun _=>j3 _ fun hd=>by have:=of_decide_eq_true hd; omega) fun _=>j3 _ fun hd=>(by cases hd)
  have:=hb hb'
  exact (Mz hk.1 (by omega) (by omega)).bind fun u hu=>one hu.1 (.store _ _ hu.2.1 hu.2.2 hreg)
 exact .dec (fun _=>j2 _ fun hd=>by have:=of_decide_eq_true hd; omega) fun _=>j2 _ fun hd=>(by cases hd)
theorem MO.mono {sl : List Mv} {np i : Int} {ps : List Int} {T T' : Int → Prop} {x : LS} (h : MO sl np i ps T x) (hT : ∀ t,T t → T' t) : MO sl np i ps T' x:=by
 cases h with
 | store a b h1 h2 h3=>exact .store a b h1 h2 h3
 | load a b h1 h2 h3=>exact .load a b h1 h2 h3
 | move a b h1 h2 h3=>exact .move a b h1 h2 h3
 | const a w h1 h2=>exact .const a w h1 h2
 | bin op a b c h1 h2 h3 h4 h5 h6=>exact .bin op a b c h1 h2 h3 h4 h5 h6
 | out a h1=>exact .out a h1
 | un op a h1 h2=>exact .un op a h1 h2
 | param a b h1 h2 h3=>exact .param a b h1 h2 h3
 | arg a b h1 h2 h3=>exact .arg a b h1 h2 h3
 | call j h1 h2=>exact .call j h1 h2
 | jump t h1=>exact .jump t (hT t h1)
 | branch a t h1 h2=>exact .branch a t h1 (hT t h2)
def Xt (x : LS) : Prop:=x = ⟨23,0,0,0,0⟩ ∨ ∃ w,W64 w ∧ x = ⟨24,0,0,0,w⟩
def TW (x : LS) (t : Int) : LS :=
 if x.Op = 20 ∧ x.A < 0 then ⟨x.Op,t,x.B,x.C,x.Imm⟩ else if x.Op = 21 ∧ x.B < 0 then ⟨x.Op,x.A,t,x.C,x.Imm⟩ else x
theorem Xt.fix {x : LS} (h : Xt x) (t : Int) : TW x t = x:=by
 rcases h with rfl | ⟨w,_,rfl⟩ <;> simp [TW]
theorem MO.fix {sl : List Mv} {np i : Int} {ps : List Int} {T : Int → Prop} {x : LS} (h : MO sl np i ps (· = -1) x) {t : Int} (ht : T t) : MO sl np i ps T (TW x t):=by
 cases h with
 | store a b h1 h2 h3=>exact .store a b h1 h2 h3
 | load a b h1 h2 h3=>exact .load a b h1 h2 h3
 | move a b h1 h2 h3=>exact .move a b h1 h2 h3
 | const a w h1 h2=>exact .const a w h1 h2
 | bin op a b c h1 h2 h3 h4 h5 h6 =>
  have : TW ⟨op,a,b,c,0⟩ t = ⟨op,a,b,c,0⟩:=by simp [TW,show op ≠ 20 by omega,show op ≠ 21 by omega]
  rw [this]
  exact .bin op a b c h1 h2 h3 h4 h5 h6
 | out a h1=>exact .out a h1
 | un op a h1 h2 =>
  have : TW ⟨op,a,0,0,0⟩ t = ⟨op,a,0,0,0⟩:=by simp [TW,show op ≠ 20 by omega,show op ≠ 21 by omega]
  rw [this]
  exact .un op a h1 h2
 | param a b h1 h2 h3=>exact .param a b h1 h2 h3
 | arg a b h1 h2 h3=>exact .arg a b h1 h2 h3
 | call j h1 h2=>exact .call j h1 h2
 | jump q h1=>subst h1; exact .jump t ht
 | branch a q h1 h2=>subst h2; exact .branch a t h1 ht
theorem AfO {code : List LS} {k : Nat} {x : LS} (h : code[k]? = some x) (r : Int × LR) (t : Int) : MN (k : Int) code r t = some (.inl (r.2.list,r.2.at_,code.set k (TW x t),IntKind.i64.wrap ((k : Int) + 1))):=by
 obtain ⟨hl,hx⟩:=List.getElem?_eq_some_iff.1 h
 have hset : code.set k x = code:=by rw [← hx]; exact List.set_getElem_self hl
 obtain ⟨op,a,b,c,w⟩:=x
 unfold MN Nw
 by_cases h20 : op = 20
 ·subst h20
  by_cases ha : a < 0
  ·simp [MY,hl,hx,TW,ha]
  ·simp [MY,hl,hx,TW,ha,hset]
 ·by_cases h21 : op = 21
  ·subst h21
   by_cases hb : b < 0
   ·simp [MY,hl,hx,TW,hb]
   ·simp [MY,hl,hx,TW,hb,hset]
  ·have e20 : (op == 20) = false:=by simpa using h20
   have e21 : (op == 21) = false:=by simpa using h21
   simp [MY,hl,hx,TW,e20,e21,h20,h21,hset]
structure SY (ps : List Int) (i most : Int) (f : LW) : Prop where
 par : ps[i.toNat]? = some f.Params
 slots : f.Slots.length ≤ 6
 slot : ∀ s ∈ f.Slots,WO s
 len : 1 ≤ f.Code.length
 len' : (f.Code.length : Int) ≤ 7 + 5 * most
 body : ∀ (k : Nat) x,f.Code[k]? = some x → k + 1 < f.Code.length → MO f.Slots f.Params i ps (fun t=>0 ≤ t ∧ t < f.Code.length) x
 last : ∀ x,f.Code[f.Code.length - 1]? = some x → Xt x
theorem AfG {l : List Int} {a : Int} (h : okC ⟨l,a⟩) {sl : List Mv} {np i : Int} {ps : List Int} {most : Int} {code : List LS} (hpar : ps[i.toNat]? = some np) (hsl : sl.length ≤ 6) (hsl' : ∀ s ∈ sl,WO s)
  (hlen : 1 ≤ code.length) (hlen' : (code.length : Int) ≤ 7 + 5 * most) (hm : most ≤ 1000) (hb : ∀ (k : Nat) x,code[k]? = some x → k + 1 < code.length → MO sl np i ps (· = -1) x) (he : ∀ x,code[code.length - 1]? = some x → Xt x) :
  Hs (MA (fun s : List Int × Int × List LS × Int=>Nv np sl s.1 s.2.1 s.2.2.1 s.2.2.2) (l,a,code,0)) fun p=>okC p.2 ∧ SY ps i most p.1:=by
 refine Hs.loop (fun s=>okC ⟨s.1,s.2.1⟩ ∧ s.2.2.1.length = code.length ∧ ∃ k : Nat,s.2.2.2 = (k : Int) ∧ k ≤ code.length ∧ (∀ x,s.2.2.1[code.length - 1]? = some x → Xt x) ∧
  ∀ (j : Nat) x,s.2.2.1[j]? = some x → j + 1 < code.length → MO sl np i ps (fun t=>if j < k then 0 ≤ t ∧ t < code.length else t = -1) x) (fun s=>code.length - s.2.2.2.toNat) ⟨h,rfl,0,rfl,Nat.zero_le _,he,fun j x hj hj'=>(hb j x hj hj').mono fun t ht=>by simpa using ht⟩ ?_
 rintro ⟨l,a,code',k⟩ ⟨hc,hl,k,rfl,hk,he',hall⟩
 simp only at hc hl he' hall
 unfold Nv
 refine .dec (fun hlt=>?_) fun hlt=>?_
 ·have hlt : k < code.length:=by rw [← hl]; exact Int.ofNat_lt.1 hlt
  have w:=MD (show k < 9223372036854775807 by omega)
  have hx : code'[k]? = some (code'[k]'(by omega)):=List.getElem?_eq_getElem _
  generalize code'[k]'(by omega) = x at hx
  have step : ∀ (r : Int × LR) (t : Int),okC r.2 → 0 ≤ t → t < code.length → Hs (MN (k : Int) code' r t) (Rnd (fun s : List Int × Int × List LS × Int=>okC ⟨s.1,s.2.1⟩ ∧ s.2.2.1.length = code.length ∧ ∃ k : Nat,s.2.2.2 = (k : Int) ∧ k ≤ code.length ∧ (∀ x,s.2.2.1[code.length - 1]? = some x → Xt x) ∧
    ∀ (j : Nat) x,s.2.2.1[j]? = some x → j + 1 < code.length → MO sl np i ps (fun t=>if j < k then 0 ≤ t ∧ t < code.length else t = -1) x) (fun s=>code.length - s.2.2.2.toNat) (l,a,code',(k : Int)) (fun p : LW × LR=>okC p.2 ∧ SY ps i most p.1)):=by
   intro r t hr ht0 ht1
   rw [AfO hx]
   refine .pure ⟨⟨hr,by simp [hl],k + 1,w,hlt,?_,?_⟩,by simp only [w]; omega⟩
   ·intro y hy
    simp only at hy
    by_cases e : k = code.length - 1
    ·rw [← e,List.getElem?_set_self (by omega)] at hy
     obtain rfl:=Option.some.inj hy
     have hex:=he' x (by rw [← e]; exact hx)
     rw [hex.fix]; exact hex
    ·rw [List.getElem?_set_ne e] at hy
     exact he' y hy
   ·intro j y hy hj
    simp only at hy
    by_cases e : k = j
    ·subst e
     rw [List.getElem?_set_self (by omega)] at hy
     obtain rfl:=Option.some.inj hy
     exact ((hall k x hx hj).mono fun t ht=>by simpa using ht).fix (by rw [if_pos (by omega)]; exact ⟨ht0,ht1⟩)
    ·rw [List.getElem?_set_ne e] at hy
     refine (hall j y hy hj).mono fun t ht=>?_
     by_cases e2 : j < k
     ·rw [if_pos e2] at ht; rw [if_pos (by omega)]; exact ht
     ·rw [if_neg e2] at ht; rw [if_neg (by omega)]; exact ht
  refine (Mz hc (by omega) (by omega)).bind fun r hr=>?_
  have w1 : IntKind.i64.wrap ((k : Int) + r.1) = (k : Int) + r.1:=wrap64 (by omega) (by omega)
  have w2 : IntKind.i64.wrap ((k : Int) + r.1 - 2) = (k : Int) + r.1 - 2:=wrap64 (by omega) (by omega)
  have w3 : IntKind.i64.wrap ((code'.length : Int) - 1) = (code'.length : Int) - 1:=wrap64 (by omega) (by omega)
  simp only [w1,w2,w3]
  exact .dec (fun _=>step r _ hr.1 (by omega) (by omega)) fun _=>.dec (fun _=>step r _ hr.1 (by omega) (by omega)) fun _=>step r _ hr.1 (by omega) (by omega)
 ·have hlt : ¬ k < code'.length:=fun h=>hlt (Int.ofNat_lt.2 h)
  have hkl : k = code.length:=by omega
  refine .lft (.pure ⟨hc,hpar,hsl,hsl',by simp only; omega,by simp only; omega,?_,?_⟩)
  ·intro j x hj hj'
   simp only at hj hj' ⊢
   rw [hl] at hj' ⊢
   refine (hall j x hj hj').mono fun t ht=>?_
   rw [if_pos (by omega)] at ht
   exact ht
  ·intro x hx
   simp only at hx
   rw [hl] at hx
   exact he' x hx
theorem AcZ {l : List Int} {a : Int} (h : okC ⟨l,a⟩) {sl : List Mv} {np i : Int} {ps : List Int} {most : Int} {code : List LS} (hpar : ps[i.toNat]? = some np) (hsl : sl.length ≤ 6) (hsl' : ∀ s ∈ sl,WO s)
  (hlen : (code.length : Int) ≤ 6 + 5 * most) (hm : most ≤ 1000) (hb : ∀ x ∈ code,MO sl np i ps (· = -1) x) {e1 e2 : Int} (he : Xt ⟨e1,0,0,0,e2⟩) :
  Hs (Nc code np sl l a e1 e2) fun p=>okC p.2 ∧ SY ps i most p.1:=by
 unfold Nc
 refine .chk (by simp; omega) (AfG h hpar hsl hsl' (by simp) (by simp; omega) hm ?_ ?_)
 ·intro k x hx hk
  simp only [List.length_append,List.length_singleton] at hk
  rw [List.getElem?_append_left (by omega)] at hx
  exact hb x (List.mem_of_getElem? hx)
 ·intro x hx
  simp at hx
  subst hx
  exact he
theorem AaH {c : LR} (h : okC c) {i : Int} {ps : List Int} {most : Int} (hi : 0 ≤ i) (hi' : i < ps.length) (hps : ZZ ps) (hm0 : 0 ≤ most) (hm : most ≤ 1000) :
  Hs (Ns c i ps most) fun p=>okC p.2 ∧ SY ps i most p.1:=by
 unfold Ns
 refine (Hs.ix hi hi' fun x hx=>hx).bind fun np hnp=>(AcS h (by omega) (by omega)).bind fun sl hsl=>?_
 obtain ⟨hc0,hsl1,hsl2⟩:=hsl
 have hnp4:=hps.1 np (List.mem_of_getElem? hnp)
 refine Hs.loop (fun s=>okC ⟨s.1,s.2.1⟩ ∧ 0 ≤ s.2.2.2 ∧ s.2.2.2 ≤ sl.1.length ∧ (s.2.2.1.length : Int) ≤ s.2.2.2 ∧ ∀ x ∈ s.2.2.1,MO sl.1 np i ps (· = -1) x) (fun s=>sl.1.length - s.2.2.2.toNat) ⟨hc0,by simp,by simp,by simp,by simp⟩ ?_
 rintro ⟨l,a,code,s⟩ ⟨hc,hs0,hs1,hcl,hall⟩
 simp only at hc hs0 hs1 hcl hall
 unfold Of
 refine .dec (fun hlt=>?_) fun hlt=>?_
 ·have hlt : s < sl.1.length:=hlt
  have w : IntKind.i64.wrap (s + 1) = s + 1:=wrap64 (by omega) (by omega)
  refine (Mz hc (by omega) (by omega)).bind fun r hr=>.dec (fun _=>?_) fun _=>?_
  ·refine (Mz hr.1 (by omega) (by omega)).bind fun q hq=>.chk (by simp; omega) (.cnt ⟨⟨hq.1,by simp only [w]; omega,by simp only [w]; omega,by simp only [w,List.length_append,List.length_singleton]; omega,?_⟩,by simp only [w]; omega⟩)
   intro y hy
   rcases List.mem_append.1 hy with h2 | h2
   ·exact hall y h2
   ·rw [List.mem_singleton] at h2; subst h2
    exact .store _ _ hs0 hlt hq.2
  ·exact .cnt ⟨⟨hr.1,by simp only [w]; omega,by simp only [w]; omega,by simp only [w]; omega,hall⟩,by simp only [w]; omega⟩
 ·have w : IntKind.i64.wrap (most + 1) = most + 1:=wrap64 (by omega) (by omega)
  rw [w]
  refine .lft ((Mz hc (by omega) (by omega)).bind fun r hr=>?_)
  refine Hs.loop (fun s=>okC ⟨s.1,s.2.1⟩ ∧ s.2.2.2.1 = sl.1 ∧ 0 ≤ s.2.2.2.2 ∧ s.2.2.2.2 ≤ most ∧ (s.2.2.1.length : Int) ≤ 6 + 5 * (most - s.2.2.2.2) ∧ ∀ x ∈ s.2.2.1,MO sl.1 np i ps (· = -1) x) (fun s=>s.2.2.2.2.toNat) ⟨hr.1,rfl,hr.2.1,by simp only; omega,by simp only; omega,hall⟩ ?_
  rintro ⟨l,a,code,sl',n⟩ ⟨hc,rfl,hn0,hn1,hcl,hall⟩
  simp only at hc hn0 hn1 hcl hall
  unfold Og
  refine .dec (fun hlt=>?_) fun hlt=>.lft ?_
  ·have hlt : 0 < n:=hlt
   have w : IntKind.i64.wrap (n - 1) = n - 1:=wrap64 (by omega) (by omega)
   refine (Adi hc (· = -1) (by simp only; omega) hnp4.2 hi hi' hps).bind fun b hb=>.chk (by simp; omega) ?_
   have hall2 : ∀ x ∈ code ++ b.1,MO sl.1 np i ps (· = -1) x:=by
    intro y hy
    rcases List.mem_append.1 hy with h2 | h2
    ·exact hall y h2
    ·exact hb.2.2 y h2
   have hall3 : ∀ x,MO sl.1 np i ps (· = -1) x → ∀ y ∈ (code ++ b.1) ++ [x],MO sl.1 np i ps (· = -1) y:=by
    intro x hx y hy
    rcases List.mem_append.1 hy with h2 | h2
    ·exact hall2 y h2
    ·rw [List.mem_singleton] at h2; subst h2; exact hx
   have hbl:=hb.2.1
   refine (Mz hb.1 (by omega) (by omega)).bind fun r hr=>.beq (fun _=>?_) fun _=>.beq (fun _=>?_) fun _=>?_
   ·refine (Mz hr.1 (by omega) (by omega)).bind fun q hq=>.chk (by simp; omega) (.cnt ⟨⟨hq.1,rfl,by simp only [w]; omega,by simp only [w]; omega,by simp only [w,List.length_append,List.length_singleton]; omega,hall3 _ (.branch _ _ hq.2 rfl)⟩,by simp only [w]; omega⟩)
   ·refine (Mz hr.1 (by omega) (by omega)).bind fun q hq=>.beq (fun _=>?_) fun _=>?_
    ·exact .chk (by simp; omega) (.cnt ⟨⟨hq.1,rfl,by simp only [w]; omega,by simp only [w]; omega,by simp only [w,List.length_append,List.length_singleton]; omega,hall3 _ (.jump _ rfl)⟩,by simp only [w]; omega⟩)
    ·exact .cnt ⟨⟨hq.1,rfl,by simp only [w]; omega,by simp only [w]; omega,by simp only [w,List.length_append]; omega,hall2⟩,by simp only [w]; omega⟩
   ·exact .cnt ⟨⟨hr.1,rfl,by simp only [w]; omega,by simp only [w]; omega,by simp only [w,List.length_append]; omega,hall2⟩,by simp only [w]; omega⟩
  ·refine (Mz hc (by omega) (by omega)).bind fun r hr=>.beq (fun _=>?_) fun _=>?_
   ·exact (AaP hr.1).bind fun q hq=>AcZ hq.1 hnp (by omega) hsl2 (by omega) hm hall (.inr ⟨_,hq.2,rfl⟩)
   ·exact AcZ hr.1 hnp (by omega) hsl2 (by omega) hm hall (.inl rfl)
def AdX (funcs most : Int) (p : Ot) : Prop :=
 ∃ ps,ZZ ps ∧ ps[0]? = some 0 ∧ 1 ≤ ps.length ∧ (ps.length : Int) ≤ funcs ∧ p.Funcs.length = ps.length ∧ ∀ (j : Nat) f,p.Funcs[j]? = some f → SY ps j most f
theorem Abf {c : LR} (h : okC c) {funcs most : Int} (hf : 1 ≤ funcs) (hf' : funcs ≤ 1000) (hm0 : 0 ≤ most) (hm : most ≤ 1000) :
  Hs (NB c funcs most) fun p=>okC p.2 ∧ AdX funcs most p.1:=by
 unfold NB
 refine (Mz h hf (by omega)).bind fun r hr=>?_
 refine Hs.loop (fun s=>okC ⟨s.1,s.2.1⟩ ∧ (∀ v ∈ s.2.2.1,0 ≤ v ∧ v < 4) ∧ s.2.2.1[0]? = some 0 ∧ 0 ≤ s.2.2.2 ∧ (s.2.2.1.length : Int) + s.2.2.2 ≤ funcs) (fun s=>s.2.2.2.toNat) ⟨hr.1,by simp,by simp,hr.2.1,by simp; omega⟩ ?_
 rintro ⟨l,a,ps,n⟩ ⟨hc,hv,hz,hn0,hn1⟩
 simp only at hc hv hz hn0 hn1
 have hp1 : 1 ≤ ps.length:=by have:=(List.getElem?_eq_some_iff.1 hz).1; omega
 unfold Ok
 refine .dec (fun hlt=>?_) fun hlt=>.lft ?_
 ·have hlt : 0 < n:=hlt
  have w : IntKind.i64.wrap (n - 1) = n - 1:=wrap64 (by omega) (by omega)
  refine (Mz hc (by omega) (by omega)).bind fun q hq=>.chk (by simp; omega) (.cnt ⟨⟨hq.1,?_,by simp only; rw [List.getElem?_append_left (by omega)]; exact hz,by simp only [w]; omega,by simp only [w,List.length_append,List.length_singleton]; omega⟩,by simp only [w]; omega⟩)
  intro y hy
  rcases List.mem_append.1 hy with h2 | h2
  ·exact hv y h2
  ·rw [List.mem_singleton] at h2; subst h2; exact hq.2
 ·have hps : ZZ ps:=⟨hv,by omega⟩
  refine Hs.loop (fun s=>okC ⟨s.1,s.2.1⟩ ∧ s.2.2.2.2 = ps ∧ ∃ i : Nat,s.2.2.2.1 = (i : Int) ∧ i ≤ ps.length ∧ s.2.2.1.length = i ∧ ∀ (j : Nat) f,s.2.2.1[j]? = some f → SY ps j most f) (fun s=>ps.length - s.2.2.2.1.toNat) ⟨hc,rfl,0,rfl,Nat.zero_le _,rfl,fun j f hj=>by simp at hj⟩ ?_
  rintro ⟨l,a,fs,i',ps'⟩ ⟨hc,hpe,i,hie,hi,hfl,hall⟩
  simp only at hc hpe hie hi hfl hall
  subst hpe hie
  unfold Ol
  refine .dec (fun hlt=>?_) fun hlt=>.lft (.pure ⟨hc,ps',hps,hz,hp1,by omega,?_,hall⟩)
  ·have hlt : i < ps'.length:=Int.ofNat_lt.1 hlt
   have w:=MD (show i < 9223372036854775807 by have:=hps.2; omega)
   have hpl:=hps.2
   refine .chk (by simp; omega) ((AaH hc (i:=(i : Int)) (ps:=ps') (by omega) (by omega) hps hm0 hm).bind fun f hf=>.chk (by simp; omega) (.cnt ⟨⟨hf.1,rfl,i + 1,w,hlt,by simp; omega,?_⟩,by simp only [w]; omega⟩))
   intro j g hg
   simp only [List.nil_append] at hg
   by_cases e : j < fs.length
   ·rw [List.getElem?_append_left e] at hg; exact hall j g hg
   ·have hj : j = i:=by
     have:=(List.getElem?_eq_some_iff.1 hg).1
     simp at this; omega
    subst hj
    rw [List.getElem?_append_right (by omega),hfl] at hg
    simp at hg
    subst hg
    exact hf.2
  ·have hlt : ¬ i < ps'.length:=fun h=>hlt (Int.ofNat_lt.2 h)
   simp only; omega
end Go.Proofs.YtcelninhkmhjkaaDoor
namespace Go.Proofs.YtcelninhkmhjkaaDoor
open Go Go.Dw Go.Proofs
attribute [local simp] MY Bool.cond_eq_ite
def Oz (f : LW) (k : Nat) : LS:=(f.Code[k]?).getD default
def Mt (x : LS) (k : Int) : List Int :=
 if x.Op = 20 then [x.A] else if x.Op = 23 ∨ x.Op = 24 then [] else
 if x.Op = 21 then (if x.B < k + 1 then [x.B,k + 1] else if k + 1 < x.B then [k + 1,x.B] else [k + 1]) else [k + 1]
theorem AcP {f : LW} {k : Nat} {x : LS} (h : f.Code[k]? = some x) (hk : k < 9223372036854775807) : RM f (k : Int) = some (Mt x k):=by
 obtain ⟨hl,hx⟩:=List.getElem?_eq_some_iff.1 h
 have hnl : ¬ f.Code.length ≤ k:=by omega
 have w : IntKind.i64.wrap ((k : Int) + 1) = (k : Int) + 1:=wrap64 (by omega) (by omega)
 unfold RM Sv Mt
 obtain ⟨op,a,b,c,i⟩:=x
 by_cases h20 : op = 20
 ·subst h20; simp [hx,hl,hnl,show ¬ (k : Int) < 0 by omega]
 ·have e20 : (op == 20) = false:=by simpa using h20
  by_cases h23 : op = 23
  ·subst h23; simp [hx,hl,hnl,show ¬ (k : Int) < 0 by omega,Nl]
  ·have e23 : (op == 23) = false:=by simpa using h23
   by_cases h24 : op = 24
   ·subst h24; simp [hx,hl,hnl,show ¬ (k : Int) < 0 by omega,Nl]
   ·have e24 : (op == 24) = false:=by simpa using h24
    by_cases h21 : op = 21
    ·subst h21
     by_cases hb : b < (k : Int) + 1
     ·simp [hx,hl,hnl,show ¬ (k : Int) < 0 by omega,Nl,w,hb]
     ·by_cases hb' : (k : Int) + 1 < b
      ·simp [hx,hl,hnl,show ¬ (k : Int) < 0 by omega,Nl,w,hb,hb']
      ·simp [hx,hl,hnl,show ¬ (k : Int) < 0 by omega,Nl,w,hb,hb']
    ·have e21 : (op == 21) = false:=by simpa using h21
     simp [hx,hl,hnl,show ¬ (k : Int) < 0 by omega,Nl,w,h20,h23,h24,h21]
def Nr (x : LS) : List Int:=if x.Op = 15 ∨ x.Op = 17 then [x.B] else []
structure MH (f : LW) : Prop where
 len : 1 ≤ f.Code.length
 len' : f.Code.length ≤ 10000
 slots : f.Slots.length ≤ 500
 next : ∀ (k : Nat) x,f.Code[k]? = some x → ∀ j ∈ Mt x k,0 ≤ j ∧ j < f.Code.length
 uses : ∀ x ∈ f.Code,∀ v ∈ Nr x,0 ≤ v ∧ v < f.Slots.length
theorem SY.AfH {ps : List Int} {i most : Int} {f : LW} (h : SY ps i most f) (hm : most ≤ 1000) : MH f:=by
 have hl:=h.len
 have hl':=h.len'
 have hs:=h.slots
 refine ⟨hl,by omega,by omega,fun k x hx j hj=>?_,fun x hx v hv=>?_⟩
 ·have hkl:=(List.getElem?_eq_some_iff.1 hx).1
  by_cases hk : k + 1 < f.Code.length
  ·have hins:=h.body k x hx hk
   cases hins with
   | jump t h1=>simp [Mt] at hj; subst hj; exact h1
   | branch a t h0 h1 =>
    simp [Mt] at hj
    have : j = t ∨ j = (k : Int) + 1:=by
     split at hj
     ·simpa using hj
     ·split at hj
      ·simp at hj; omega
      ·simp at hj; omega
    rcases this with rfl | rfl <;> omega
   | bin op a b c h1 h2 h3 h4 h5 h6 =>
    simp [Mt,show op ≠ 20 by omega,show op ≠ 23 by omega,show op ≠ 24 by omega,show op ≠ 21 by omega] at hj
    subst hj; omega
   | un op a h1 h2 =>
    simp [Mt,show op ≠ 20 by omega,show op ≠ 23 by omega,show op ≠ 24 by omega,show op ≠ 21 by omega] at hj
    subst hj; omega
   | _=>simp [Mt] at hj; subst hj; omega
  ·have he:=h.last x (by rw [show f.Code.length - 1 = k by omega]; exact hx)
   rcases he with rfl | ⟨w,_,rfl⟩ <;> simp [Mt] at hj
 ·obtain ⟨k,hk⟩:=List.getElem?_of_mem hx
  have hkl:=(List.getElem?_eq_some_iff.1 hk).1
  by_cases hk1 : k + 1 < f.Code.length
  ·have hins:=h.body k x hk hk1
   cases hins with
   | load a b h0 h1 h2=>simp [Nr] at hv; subst hv; exact ⟨h1,h2⟩
   | move a b h0 h1 h2=>simp [Nr] at hv; subst hv; exact ⟨h1,h2⟩
   | bin op a b c h1 h2 h3 h4 h5 h6=>simp [Nr,show op ≠ 15 by omega,show op ≠ 17 by omega] at hv
   | un op a h1 h2=>simp [Nr,show op ≠ 15 by omega,show op ≠ 17 by omega] at hv
   | _=>simp [Nr] at hv
  ·have he:=h.last x (by rw [show f.Code.length - 1 = k by omega]; exact hk)
   rcases he with rfl | ⟨w,_,rfl⟩ <;> simp [Nr] at hv
end Go.Proofs.YtcelninhkmhjkaaDoor
namespace Go.Proofs.YtcelninhkmhjkaaDoor
open Go Go.Dw Go.Proofs
attribute [local simp] MY Bool.cond_eq_ite
theorem YU : Lib.compact ([] : List Int) = []:=by simp [Lib.compact,Lib.compactUpTo]
theorem YV (a : Int) : Lib.compact [a] = [a]:=by simp [Lib.compact,Lib.compactUpTo,List.range_succ,Lib.keeps]
theorem WC (a b : Int) : Lib.compact [a,b] = if a = b then [a] else [a,b]:=by
 by_cases h : a = b
 ·subst h; simp [Lib.compact,Lib.compactUpTo,List.range_succ,Lib.keeps]
 ·have h' : ¬ b = a:=fun e=>h e.symm
  simp [Lib.compact,Lib.compactUpTo,List.range_succ,Lib.keeps,h,h']
theorem Aax (a : Int) : Nf [a] = [a]:=by simp [Nf]
theorem Aaw : Nf [] = []:=by simp [Nf]
theorem AcU (a b : Int) : Nf [a,b] = if a ≤ b then [a,b] else [b,a]:=by
 unfold Nf List.mergeSort
 by_cases h : a ≤ b <;> simp [List.MergeSort.Internal.splitInTwo,h]
theorem Zm {f : LW} {k : Nat} {x : LS} (h : f.Code[k]? = some x) (hk : k < 9223372036854775807) : Qo f (k : Int) = some (Mt x k):=by
 obtain ⟨hl,hx⟩:=List.getElem?_eq_some_iff.1 h
 have hnl : ¬ f.Code.length ≤ k:=by omega
 have w : IntKind.i64.wrap ((k : Int) + 1) = (k : Int) + 1:=wrap64 (by omega) (by omega)
 unfold Qo To Ro Mt Qi
 obtain ⟨op,a,b,c,i⟩:=x
 by_cases h20 : op = 20
 ·subst h20; simp [hx,hl,hnl,show ¬ (k : Int) < 0 by omega,Aax,YV]
 ·have e20 : (op == 20) = false:=by simpa using h20
  by_cases h23 : op = 23
  ·subst h23; simp [hx,hl,hnl,show ¬ (k : Int) < 0 by omega,Aaw,YU]
  ·have e23 : (op == 23) = false:=by simpa using h23
   by_cases h24 : op = 24
   ·subst h24; simp [hx,hl,hnl,show ¬ (k : Int) < 0 by omega,Aaw,YU]
   ·have e24 : (op == 24) = false:=by simpa using h24
    by_cases h21 : op = 21
    ·subst h21
     simp [hx,hl,hnl,show ¬ (k : Int) < 0 by omega,w,AcU]
     by_cases hb : b < (k : Int) + 1
     ·simp [hb,show ¬ (k : Int) + 1 ≤ b by omega,WC,show ¬ b = (k : Int) + 1 by omega]
     ·by_cases hb' : (k : Int) + 1 < b
      ·simp [hb,hb',show (k : Int) + 1 ≤ b by omega,WC,show ¬ (k : Int) + 1 = b by omega]
      ·simp [WC,show (k : Int) + 1 = b by omega]
    ·have e21 : (op == 21) = false:=by simpa using h21
     simp [hx,hl,hnl,show ¬ (k : Int) < 0 by omega,w,e24,h20,h23,h24,h21,Aax,YV]
end Go.Proofs.YtcelninhkmhjkaaDoor
namespace Go.Proofs.YtcelninhkmhjkaaDoor
open Go Go.Dw Go.Proofs
def Vt (k : Nat) (l : List (List Int)) (j : Int) : List (List Int):=l.set j.toNat ((l[j.toNat]?).getD [] ++ [(k : Int)])
def Ut (k : Nat) (l : List (List Int)) (nx : List Int) : List (List Int):=nx.foldl (Vt k) l
def TQ (f : LW) : Nat → List (List Int)
 | 0=>List.replicate f.Code.length []
 | k + 1=>Ut k (TQ f k) (Mt (Oz f k) k)
theorem Aai (k : Nat) (l : List (List Int)) (j : Int) : (Vt k l j).length = l.length:=by simp [Vt]
theorem UH (k : Nat) : ∀ (nx : List Int) (l : List (List Int)),(Ut k l nx).length = l.length
 | [],_=>rfl
 | j :: nx,l=>(UH k nx _).trans (Aai k l j)
theorem AaE {k m : Nat} {l : List (List Int)} (h : ∀ q ∈ l,q.length ≤ m) (j : Int) : ∀ q ∈ Vt k l j,q.length ≤ m + 1:=by
 intro q hq
 rcases List.mem_or_eq_of_mem_set hq with hq | hq
 ·exact Nat.le_succ_of_le (h q hq)
 ·subst hq
  cases hx : l[j.toNat]? with
  | none=>simp
  | some q=>have:=h q (List.mem_of_getElem? hx); simp; omega
theorem VC {k : Nat} : ∀ (nx : List Int) (m : Nat) (l : List (List Int)),(∀ q ∈ l,q.length ≤ m) → ∀ q ∈ Ut k l nx,q.length ≤ m + nx.length
 | [],m,l,h=>h
 | j :: nx,m,l,h=>fun q hq=>by
  have:=VC nx (m + 1) _ (AaE h j) q hq
  simp only [List.length_cons]; omega
theorem AaF {k i : Nat} {l : List (List Int)} {nx : List Int} {y : Int} (h : nx[i]? = some y) : Ut k l (nx.take (i + 1)) = Vt k (Ut k l (nx.take i)) y:=by
 simp [Ut,List.take_add_one,h,List.foldl_append]
theorem YR (f : LW) : ∀ k,(TQ f k).length = f.Code.length
 | 0=>by simp [TQ]
 | k + 1=>(UH k _ _).trans (YR f k)
theorem Ss (x : LS) (k : Int) : (Mt x k).length ≤ 2:=by unfold Mt; (repeat' split) <;> simp
theorem Xw (f : LW) : ∀ k,∀ q ∈ TQ f k,q.length ≤ 2 * k
 | 0,q,hq=>by simp only [TQ,List.mem_replicate] at hq; simp [hq.2]
 | k + 1,q,hq=>by
  have:=VC _ _ _ (Xw f k) q hq
  have:=Ss (Oz f k) k
  omega
theorem Abo {k : Nat} {l : List (List Int)} {y : Int} {j : Nat} {q : List Int} (hy : 0 ≤ y) (h : l[j]? = some q) : ∃ q',(Vt k l y)[j]? = some q' ∧ ∀ x,x ∈ q' ↔ x ∈ q ∨ (x = (k : Int) ∧ y = (j : Int)):=by
 obtain ⟨hl,_⟩:=List.getElem?_eq_some_iff.1 h
 by_cases e : y.toNat = j
 ·subst e
  refine ⟨q ++ [(k : Int)],by simp only [Vt,h,Option.getD_some]; exact List.getElem?_set_self hl,fun x=>?_⟩
  simp only [List.mem_append,List.mem_singleton]
  constructor
  ·rintro (h | h)
   ·exact .inl h
   ·exact .inr ⟨h,by omega⟩
  ·rintro (h | h)
   ·exact .inl h
   ·exact .inr h.1
 ·refine ⟨q,by simp only [Vt]; rw [List.getElem?_set_ne e]; exact h,fun x=>?_⟩
  constructor
  ·exact .inl
  ·rintro (h | h)
   ·exact h
   ·omega
theorem Zr {k : Nat} {j : Nat} : ∀ (nx : List Int) (l : List (List Int)) (q : List Int),(∀ y ∈ nx,0 ≤ y) → l[j]? = some q → ∃ q',(Ut k l nx)[j]? = some q' ∧ ∀ x,x ∈ q' ↔ x ∈ q ∨ (x = (k : Int) ∧ (j : Int) ∈ nx)
 | [],l,q,_,h=>⟨q,h,fun x=>by simp⟩
 | y :: nx,l,q,hn,h=>by
  obtain ⟨q1,h1,m1⟩:=Abo (k:=k) (hn y (by simp)) h
  obtain ⟨q2,h2,m2⟩:=Zr nx _ q1 (fun z hz=>hn z (by simp [hz])) h1
  refine ⟨q2,h2,fun x=>?_⟩
  rw [m2,m1]
  simp only [List.mem_cons]
  constructor
  ·rintro ((h | h) | h)
   ·exact .inl h
   ·exact .inr ⟨h.1,.inl h.2.symm⟩
   ·exact .inr ⟨h.1,.inr h.2⟩
  ·rintro (h | ⟨h,h' | h'⟩)
   ·exact .inl (.inl h)
   ·exact .inl (.inr ⟨h,h'.symm⟩)
   ·exact .inr ⟨h,h'⟩
theorem Aae {f : LW} (hf : MH f) {j : Nat} (hj : j < f.Code.length) : ∀ k,k ≤ f.Code.length → ∃ q,(TQ f k)[j]? = some q ∧ ∀ x,x ∈ q ↔ ∃ i : Nat,i < k ∧ x = (i : Int) ∧ (j : Int) ∈ Mt (Oz f i) i
 | 0,_=>⟨[],by simp [TQ,hj],fun x=>by simp⟩
 | k + 1,hk=>by
  obtain ⟨q,h1,m1⟩:=Aae hf hj k (by omega)
  have hcode : f.Code[k]? = some (Oz f k):=by simp [Oz,show k < f.Code.length by omega]
  obtain ⟨q2,h2,m2⟩:=Zr (k:=k) (Mt (Oz f k) k) _ q (fun y hy=>(hf.next k _ hcode y hy).1) h1
  refine ⟨q2,h2,fun x=>?_⟩
  rw [m2,m1]
  constructor
  ·rintro (⟨i,h3,h4,h5⟩ | ⟨h3,h4⟩)
   ·exact ⟨i,by omega,h4,h5⟩
   ·exact ⟨k,by omega,h3,h4⟩
  ·rintro ⟨i,h3,h4,h5⟩
   by_cases e : i = k
   ·subst e; exact .inr ⟨h4,h5⟩
   ·exact .inl ⟨i,by omega,h4,h5⟩
theorem Abd {f : LW} (hf : MH f) : PG f = some (TQ f f.Code.length):=by
 have hlen:=hf.len
 have hlen':=hf.len'
 have : Hs (PG f) (· = TQ f f.Code.length):=by
  unfold PG
  refine .chk (by omega) ?_
  refine Hs.loop (fun s=>∃ k : Nat,s.2 = (k : Int) ∧ k ≤ f.Code.length ∧ s.1 = TQ f k) (fun s=>f.Code.length - s.2.toNat) ⟨0,rfl,Nat.zero_le _,by simp [TQ]⟩ ?_
  rintro ⟨l,k'⟩ ⟨k,rfl,hk,rfl⟩
  unfold RG
  dsimp only
  refine .dec (fun hlt=>?_) fun hlt=>.lft (.pure ?_)
  ·have hlt : k < f.Code.length:=Int.ofNat_lt.1 hlt
   have wk:=MD (show k < 9223372036854775807 by omega)
   have hcode : f.Code[k]? = some (Oz f k):=by simp [Oz,hlt]
   have hnx:=hf.next k _ hcode
   have hnl:=Ss (Oz f k) k
   have hb:=Xw f k
   have hbl:=YR f k
   rw [Zm hcode (by omega),Option.bind_some]
   refine Hs.loop (fun s=>∃ i : Nat,s.2 = (i : Int) ∧ i ≤ (Mt (Oz f k) k).length ∧ s.1 = Ut k (TQ f k) ((Mt (Oz f k) k).take i)) (fun s=>(Mt (Oz f k) k).length - s.2.toNat) ⟨0,rfl,Nat.zero_le _,rfl⟩ ?_
   rintro ⟨l,i'⟩ ⟨i,rfl,hi,rfl⟩
   unfold RH
   dsimp only
   refine .dec (fun hil=>?_) fun hil=>.lft (.cnt ⟨⟨k + 1,wk,hlt,?_⟩,?_⟩)
   ·have hil : i < (Mt (Oz f k) k).length:=Int.ofNat_lt.1 hil
    have wi:=MD (show i < 9223372036854775807 by omega)
    refine .chk (by omega) ((Hs.get (i:=(i : Int)) (by omega) (by omega) fun z hz=>hz).bind fun y hy=>?_)
    simp only [Int.toNat_natCast] at hy
    have hyr:=hnx y (List.mem_of_getElem? hy)
    have hl2:=UH k ((Mt (Oz f k) k).take i) (TQ f k)
    refine .chk (by omega) ((Hs.get (i:=y) (by omega) (by omega) fun z hz=>hz).bind fun q hq=>?_)
    have hqb:=VC _ _ _ hb q (List.mem_of_getElem? hq)
    simp only [List.length_take] at hqb
    refine .chk (by simp only [List.length_singleton]; omega) (.chk (by omega) (.cnt ⟨⟨i + 1,wi,hil,?_⟩,by simp only [wi]; omega⟩))
    rw [AaF hy,Vt,hq]; rfl
   ·have : i = (Mt (Oz f k) k).length:=by have : ¬ i < (Mt (Oz f k) k).length:=fun h=>hil (Int.ofNat_lt.2 h); omega
    subst this
    simp only [List.take_length]; rfl
   ·simp only [wk]; omega
  ·have : k = f.Code.length:=by have : ¬ k < f.Code.length:=fun h=>hlt (Int.ofNat_lt.2 h); omega
   rw [this]; rfl
 obtain ⟨r,h1,h2⟩:=this
 rw [h1,h2]
end Go.Proofs.YtcelninhkmhjkaaDoor
namespace Go.Proofs.YtcelninhkmhjkaaDoor
open Go Go.Dw Go.Proofs
attribute [local simp] MY Bool.cond_eq_ite
theorem AdG (n : Int) : RL n = some (decide (0 ≤ n ∧ n < 512)):=by
 unfold RL
 by_cases h : 0 ≤ n <;> simp [h]
def Pe (n : Int) : List Int → List Int
 | []=>[n]
 | x :: r=>if x < n then x :: Pe n r else if x = n then x :: r else n :: x :: r
theorem Zc (n : Int) : ∀ s,(Pe n s).length ≤ s.length + 1
 | []=>by simp [Pe]
 | x :: r=>by
  have:=Zc n r
  simp only [Pe]
  split
  ·simp; omega
  ·split <;> simp
def Ou (n : Int) (s : List Int) : List Int:=if 0 ≤ n ∧ n < 512 then Pe n s else s
theorem add_eq (s : List Int) (n : Int) (hs : s.length ≤ 1000000) : Qp s n = some (Ou n s):=by
 unfold Qp Ou
 rw [AdG]
 simp only [Option.bind_some]
 have key : ∀ d : Bool,MA (fun s_1 : List Int × Bool × Int=>Nk s n s_1.1 s_1.2.1 s_1.2.2) ([],d,0) = some (if d then s else Pe n s):=by
  intro d
  have:=SW (body:=fun s_1 : List Int × Bool × Int=>Nk s n s_1.1 s_1.2.1 s_1.2.2) s (fun (p : List Int × Bool) i=>(p.1,p.2,i)) (fun p i=>p.1.length ≤ i + (if p.2 then 1 else 0)) (fun p l=>some (p.1 ++ (if p.2 then l else Pe n l)))
   (fun p hp=>by
    obtain ⟨out,done⟩:=p
    cases done <;> simp only [if_true,Bool.false_eq_true,if_false] at hp
    ·exact ⟨out ++ [n],by simp [Nk,show out.length ≤ 16777215 by omega],by simp [Pe]⟩
    ·exact ⟨out,by simp [Nk],by simp⟩)
   (fun p i x r hp hd hi hx=>by
    obtain ⟨out,done⟩:=p
    have w:=MD (show i < 9223372036854775807 by omega)
    obtain ⟨_,rfl⟩:=List.getElem?_eq_some_iff.1 hx
    left
    cases done <;> simp only [if_true,Bool.false_eq_true,if_false] at hp
    ·by_cases h1 : n ≤ s[i]
     ·by_cases h2 : n < s[i]
      ·refine ⟨(out ++ [n] ++ [s[i]],true),by simp; omega,?_,?_⟩
       ·simp [Nk,Oj,NQ,hi,h1,h2,w,show out.length ≤ 16777215 by omega,show out.length ≤ 16777214 by omega]
       ·simp [Pe,show ¬ s[i] < n by omega,show ¬ s[i] = n by omega]
      ·refine ⟨(out ++ [s[i]],true),by simp; omega,?_,?_⟩
       ·simp [Nk,Oj,NQ,hi,h1,h2,w,show out.length ≤ 16777215 by omega]
       ·simp [Pe,show ¬ s[i] < n by omega,show s[i] = n by omega]
     ·refine ⟨(out ++ [s[i]],false),by simp; omega,?_,?_⟩
      ·simp [Nk,Oj,NQ,hi,h1,w,show out.length ≤ 16777215 by omega]
      ·simp [Pe,show s[i] < n by omega]
    ·refine ⟨(out ++ [s[i]],true),by simp; omega,?_,?_⟩
     ·simp [Nk,Oj,NQ,hi,w,show out.length ≤ 16777215 by omega]
     ·simp)
   ([],d) (by simp)
  simpa using this
 rw [key]
 by_cases h : 0 ≤ n ∧ n < 512 <;> simp [h]
def MK (s : List Int) : Prop:=s.Pairwise (· < ·) ∧ ∀ x ∈ s,0 ≤ x ∧ x < 512
theorem MK.length_le {s : List Int} (h : MK s) : s.length ≤ 512:=by
 have : ∀ (s : List Int) (a : Int),s.Pairwise (· < ·) → (∀ x ∈ s,a ≤ x ∧ x < 512) → a ≤ 512 → (s.length : Int) ≤ 512 - a:=by
  intro s
  induction s with
  | nil=>intro a _ _ ha; simp; omega
  | cons x r ih =>
   intro a hp hb ha
   rw [List.pairwise_cons] at hp
   have hx:=hb x (by simp)
   have:=ih (x + 1) hp.2 (fun y hy=>⟨by have:=hp.1 y hy; omega,(hb y (by simp [hy])).2⟩) (by omega)
   simp only [List.length_cons]
   omega
 have:=this s 0 h.1 h.2 (by omega)
 omega
theorem TY (n m : Int) : ∀ s,m ∈ Pe n s ↔ m = n ∨ m ∈ s
 | []=>by simp [Pe]
 | x :: r=>by
  simp only [Pe]
  split
  ·simp only [List.mem_cons,TY n m r]
   constructor
   ·rintro (h | h | h) <;> simp [h]
   ·rintro (h | h | h) <;> simp [h]
  ·split
   ·rename_i h; subst h; simp
   ·simp
theorem MK.Pe {n : Int} {s : List Int} (h : MK s) (hn : 0 ≤ n ∧ n < 512) : MK (Proofs.YtcelninhkmhjkaaDoor.Pe n s):=by
 refine ⟨?_,fun x hx=>?_⟩
 ·replace h:=h.1
  clear hn
  induction s with
  | nil=>simp [Proofs.YtcelninhkmhjkaaDoor.Pe]
  | cons x r ih =>
   rw [List.pairwise_cons] at h
   simp only [Proofs.YtcelninhkmhjkaaDoor.Pe]
   split
   ·rw [List.pairwise_cons]
    refine ⟨fun y hy=>?_,ih h.2⟩
    rw [TY] at hy
    rcases hy with rfl | hy
    ·assumption
    ·exact h.1 y hy
   ·split
    ·rw [List.pairwise_cons]; exact h
    ·rw [List.pairwise_cons,List.pairwise_cons]
     refine ⟨fun y hy=>?_,h⟩
     rcases List.mem_cons.1 hy with rfl | hy
     ·omega
     ·have:=h.1 y hy; omega
 ·rw [TY] at hx
  rcases hx with rfl | hx
  ·exact hn
  ·exact h.2 x hx
theorem MK.nil : MK []:=⟨List.Pairwise.nil,fun x hx=>by cases hx⟩
end Go.Proofs.YtcelninhkmhjkaaDoor
namespace Go.Proofs.YtcelninhkmhjkaaDoor
open Go Go.Dw Go.Proofs
attribute [local simp] MY Bool.cond_eq_ite
theorem AbG (n : Int) : NS n = some (decide (0 ≤ n ∧ n < 512)):=by
 unfold NS
 by_cases h : 0 ≤ n <;> simp [h]
end Go.Proofs.YtcelninhkmhjkaaDoor
namespace Go.Proofs.YtcelninhkmhjkaaDoor
open Go Go.Dw Go.Proofs
attribute [local simp] MY Bool.cond_eq_ite
theorem AdM (a b : List Int) (h : a.length ≤ 9223372036854775807) : RJ a b = some (decide (a = b)):=by
 unfold RJ
 by_cases hl : a.length = b.length
 ·have:=SW (body:=fun i : Int=>Oy a b i) a (fun (_ : List Int) i=>i) (fun acc i=>b.drop i = acc) (fun acc l=>some (decide (l = acc)))
   (fun acc hacc=>⟨true,by simp [Oy],by rw [hl] at hacc; simp at hacc; simp [← hacc]⟩) (fun acc i x r hacc hd hi hx=>by
    have w:=MD (show i < 9223372036854775807 by omega)
    obtain ⟨_,rfl⟩:=List.getElem?_eq_some_iff.1 hx
    have hib : i < b.length:=by omega
    have hdb:=List.drop_eq_getElem_cons hib
    by_cases e : a[i] = b[i]
    ·exact .inl ⟨b.drop (i + 1),rfl,by simp [Oy,hi,hib,e,w],by rw [← hacc,hdb]; simp only [List.cons.injEq,e,true_and]⟩
    ·exact .inr ⟨false,by simp [Oy,hi,hib,e],by rw [← hacc,hdb]; simp only [List.cons.injEq,e,false_and,decide_false]⟩)
   b (by simp)
  simpa [hl] using this
 ·have : ¬ a = b:=fun e=>hl (by rw [e])
  simp [this,show ¬ (a.length : Int) = b.length by omega]
end Go.Proofs.YtcelninhkmhjkaaDoor
namespace Go.Proofs.YtcelninhkmhjkaaDoor
open Go Go.Dw Go.Proofs
attribute [local simp] MY Bool.cond_eq_ite
theorem XI (a b : List (List Int)) (h : a.length ≤ 9223372036854775807) (hr : ∀ s ∈ a,s.length ≤ 9223372036854775807) : Ox a b = some (decide (a = b)):=by
 unfold Ox
 by_cases hl : a.length = b.length
 ·have:=SW (body:=fun i : Int=>NA a b i) a (fun (_ : List (List Int)) i=>i) (fun acc i=>b.drop i = acc) (fun acc l=>some (decide (l = acc)))
   (fun acc hacc=>⟨true,by simp [NA],by rw [hl] at hacc; simp at hacc; simp [← hacc]⟩) (fun acc i x r hacc hd hi hx=>by
    have w:=MD (show i < 9223372036854775807 by omega)
    obtain ⟨_,rfl⟩:=List.getElem?_eq_some_iff.1 hx
    have hib : i < b.length:=by omega
    have hdb:=List.drop_eq_getElem_cons hib
    have hs:=AdM a[i] b[i] (hr _ (List.getElem_mem _))
    by_cases e : a[i] = b[i]
    ·refine .inl ⟨b.drop (i + 1),rfl,?_,by rw [← hacc,hdb]; simp only [List.cons.injEq,e,true_and]⟩
     rw [decide_eq_true e] at hs
     simp [NA,hi,hib,hs,w]
    ·refine .inr ⟨false,?_,by rw [← hacc,hdb]; simp only [List.cons.injEq,e,false_and,decide_false]⟩
     rw [decide_eq_false e] at hs
     simp [NA,hi,hib,hs])
   b (by simp)
  simpa [hl] using this
 ·have : ¬ a = b:=fun e=>hl (by rw [e])
  simp [this,show ¬ (a.length : Int) = b.length by omega]
end Go.Proofs.YtcelninhkmhjkaaDoor
namespace Go.Proofs.YtcelninhkmhjkaaDoor
open Go Go.Dw Go.Proofs
attribute [local simp] MY Bool.cond_eq_ite
theorem AbA (s : List Int) (n : Int) (hs : s.length ≤ 16777215) : Qh s n = some (s.filter (· != n)):=by
 unfold Qh
 have:=SW (body:=fun p : List Int × Int=>NR s n p.1 p.2) s (fun (out : List Int) i=>(out,i)) (fun out i=>out.length ≤ i) (fun out l=>some (out ++ l.filter (· != n)))
  (fun out _=>⟨out,by simp [NR],by simp⟩) (fun out i x r ho hd hi hx=>by
   have w:=MD (show i < 9223372036854775807 by omega)
   obtain ⟨_,rfl⟩:=List.getElem?_eq_some_iff.1 hx
   left
   by_cases h : s[i] = n
   ·exact ⟨out,by omega,by simp [NR,hi,h,w],by simp [h]⟩
   ·exact ⟨out ++ [s[i]],by simp; omega,by simp [NR,hi,h,w,show out.length ≤ 16777215 by omega],by simp [h]⟩)
  [] (by simp)
 simpa using this
def Ng (a b : List Int) : List Int:=b.foldl (fun o x=>Ou x o) a
theorem AaC (n : Int) (s : List Int) : (Ou n s).length ≤ s.length + 1:=by
 unfold Ou
 split
 ·exact Zc n s
 ·omega
theorem union_eq (a b : List Int) (h : a.length + b.length ≤ 1000000) : OI a b = some (Ng a b):=by
 unfold OI Ng
 rw [MY (by simp; omega)]
 have:=SW (body:=fun p : List Int × Int=>OM b p.1 p.2) b (fun (out : List Int) i=>(out,i)) (fun out i=>out.length ≤ a.length + i) (fun out l=>some (l.foldl (fun o x=>Ou x o) out))
  (fun out _=>⟨out,by simp [OM],by simp⟩) (fun out i x r ho hd hi hx=>by
   have w:=MD (show i < 9223372036854775807 by omega)
   obtain ⟨_,rfl⟩:=List.getElem?_eq_some_iff.1 hx
   have hl:=AaC b[i] out
   left
   exact ⟨Ou b[i] out,by omega,by simp [OM,hi,add_eq out b[i] (by omega),w],by simp⟩)
  a (by simp)
 simpa using this
theorem ZD : ∀ {a b : List Int},a.Pairwise (· < ·) → b.Pairwise (· < ·) → (∀ v ∈ a,v ∈ b) → a.Sublist b
 | [],_,_,_,_=>List.nil_sublist _
 | x :: a,[],_,_,h=>by have:=h x (List.mem_cons_self ..); cases this
 | x :: a,y :: b,ha,hb,h=>by
  rw [List.pairwise_cons] at ha hb
  by_cases e : x = y
  ·subst e
   refine (ZD ha.2 hb.2 fun v hv=>?_).cons_cons x
   rcases List.mem_cons.1 (h v (List.mem_cons_of_mem _ hv)) with h1 | h1
   ·have:=ha.1 v hv; omega
   ·exact h1
  ·have hx : x ∈ b:=by
    rcases List.mem_cons.1 (h x (List.mem_cons_self ..)) with h1 | h1
    ·exact (e h1).elim
    ·exact h1
   have hyx:=hb.1 x hx
   refine (ZD (List.pairwise_cons.2 ha) hb.2 fun v hv=>?_).cons y
   rcases List.mem_cons.1 (h v hv) with h1 | h1
   ·subst h1
    rcases List.mem_cons.1 hv with h2 | h2
    ·omega
    ·have:=ha.1 v h2; omega
   ·exact h1
theorem MK.sub {a b : List Int} (ha : MK a) (hb : MK b) (h : ∀ v ∈ a,v ∈ b) : a.Sublist b:=ZD ha.1 hb.1 h
theorem MK.ext {a b : List Int} (ha : MK a) (hb : MK b) (h : ∀ v,v ∈ a ↔ v ∈ b) : a = b :=
 (ha.sub hb fun v hv=>(h v).1 hv).eq_of_length_le (hb.sub ha fun v hv=>(h v).2 hv).length_le
theorem MK.filter {a : List Int} (ha : MK a) (p : Int → Bool) : MK (a.filter p) :=
 ⟨ha.1.sublist List.filter_sublist,fun x hx=>ha.2 x ((List.mem_filter.1 hx).1)⟩
theorem MM.AdZ {n m : Int} {s : List Int} (h : MK s ∧ ∀ x ∈ s,x < n) (hm : 0 ≤ m ∧ m < n) (hn : n ≤ 512) : MK (Ou m s) ∧ (∀ x ∈ Ou m s,x < n) ∧ ∀ v,v ∈ Ou m s ↔ v = m ∨ v ∈ s:=by
 unfold Ou
 rw [if_pos (by omega)]
 refine ⟨h.1.Pe (by omega),fun x hx=>?_,fun v=>TY _ _ _⟩
 rw [TY] at hx
 rcases hx with rfl | hx
 ·exact hm.2
 ·exact h.2 x hx
theorem QA {n : Int} (hn : n ≤ 512) : ∀ {b a : List Int},(MK a ∧ ∀ x ∈ a,x < n) → (∀ x ∈ b,0 ≤ x ∧ x < n) → (MK (Ng a b) ∧ ∀ x ∈ Ng a b,x < n) ∧ ∀ v,v ∈ Ng a b ↔ v ∈ a ∨ v ∈ b
 | [],a,ha,_=>⟨ha,fun v=>by simp [Ng]⟩
 | x :: b,a,ha,hb=>by
  obtain ⟨h1,h2,h3⟩:=MM.AdZ ha (hb x (List.mem_cons_self ..)) hn
  obtain ⟨h4,h5⟩:=QA hn ⟨h1,h2⟩ fun y hy=>hb y (List.mem_cons_of_mem _ hy)
  refine ⟨h4,fun v=>?_⟩
  show v ∈ Ng (Ou x a) b ↔ _
  rw [h5,h3,List.mem_cons]
  constructor
  ·rintro ((h | h) | h)
   ·exact .inr (.inl h)
   ·exact .inl h
   ·exact .inr (.inr h)
  ·rintro (h | h | h)
   ·exact .inl (.inr h)
   ·exact .inl (.inl h)
   ·exact .inr h
end Go.Proofs.YtcelninhkmhjkaaDoor
namespace Go.Proofs.YtcelninhkmhjkaaDoor
open Go Go.Dw Go.Proofs
attribute [local simp] MY Bool.cond_eq_ite
def Pk (l : List Int) (p : Int → Prop) : Prop:=MK l ∧ ∀ v,v ∈ l ↔ (0 ≤ v ∧ v < 512) ∧ p v
theorem Pk.eq {l m : List Int} {p q : Int → Prop} (h : Pk l p) (k : Pk m q) (e : ∀ v,0 ≤ v → v < 512 → (p v ↔ q v)) : l = m :=
 h.1.ext k.1 fun v=>by
  rw [h.2,k.2]
  exact ⟨fun ⟨a,b⟩=>⟨a,(e v a.1 a.2).1 b⟩,fun ⟨a,b⟩=>⟨a,(e v a.1 a.2).2 b⟩⟩
theorem Pk.Aar {l : List Int} (h : MK l) : Pk l (· ∈ l):=⟨h,fun v=>⟨fun k=>⟨h.2 v k,k⟩,fun k=>k.2⟩⟩
theorem Pk.mono {l : List Int} {p q : Int → Prop} (h : Pk l p) (e : ∀ v,0 ≤ v → v < 512 → (p v ↔ q v)) : Pk l q :=
 ⟨h.1,fun v=>by rw [h.2]; exact ⟨fun ⟨a,b⟩=>⟨a,(e v a.1 a.2).1 b⟩,fun ⟨a,b⟩=>⟨a,(e v a.1 a.2).2 b⟩⟩⟩
abbrev BS:=LV
def NU (t : BS) : Prop:=∀ w ∈ t.toList,WW w
theorem BS.len (t : BS) : t.toList.length = 8:=rfl
def Px (t : BS) (i : Nat) : Int:=(t.toList[i]?).getD 0
def hasB (t : BS) (v : Int) : Bool:=TR (Px t (v.toNat / 64)) (v.toNat % 64)
theorem UF {t : BS} {i : Nat} (h : i < 8) : t.toList[i]? = some (Px t i):=by
 have : t.toList[i]? = some (t.toList[i]'(show i < 8 from h)):=List.getElem?_eq_getElem _
 simp [Px,this]
theorem NU.word {t : BS} (h : NU t) {i : Nat} (hi : i < 8) : WW (Px t i):=h _ (List.mem_of_getElem? (UF hi))
theorem ZQ {t : BS} {i j : Nat} {w : Int} (hi : i < 8) : Px (t.set i w) j = if i = j then w else Px t j:=by
 unfold Px
 rw [NL,List.getElem?_set]
 by_cases h : i = j
 ·subst h
  simp [show i < (LV.toList t).length from hi]
 ·simp [h]
theorem NU.set {t : BS} (h : NU t) {i : Nat} {w : Int} (hw : WW w) : NU (t.set i w):=by
 intro x hx
 rw [NL] at hx
 rcases List.mem_or_eq_of_mem_set hx with h1 | rfl
 ·exact h x h1
 ·exact hw
theorem NU.zero : NU ⟨0,0,0,0,0,0,0,0⟩:=by
 intro w hw
 simp [LV.toList] at hw
 subst hw
 exact ⟨by omega,by omega⟩
theorem Abs (v : Int) : hasB ⟨0,0,0,0,0,0,0,0⟩ v = false:=by
 have : Px ⟨0,0,0,0,0,0,0,0⟩ (v.toNat / 64) = 0:=by
  unfold Px
  have hl : ∀ i : Nat,(([0,0,0,0,0,0,0,0] : List Int)[i]?).getD 0 = 0:=by
   intro i
   match i with
   | 0 | 1 | 2 | 3 | 4 | 5 | 6 | 7=>rfl
   | n + 8=>rfl
  exact hl _
 unfold hasB
 rw [this]
 simp [TR]
theorem Adb (n : Int) : 0 ≤ (IntKind.u64.wrap n).tmod 64 ∧ (0 ≤ n → n < 512 → ((IntKind.u64.wrap n).tmod 64).toNat = n.toNat % 64):=by
 obtain ⟨h0,h1⟩:=YK n
 rw [Int.tmod_eq_emod_of_nonneg h0]
 refine ⟨by omega,fun ha hb=>?_⟩
 rw [AbC ⟨ha,by omega⟩]
 omega
theorem Ada {n : Int} (h0 : 0 ≤ n) (h1 : n < 512) : IntKind.i64.wrap (n.tdiv 64) = ((n.toNat / 64 : Nat) : Int):=by
 rw [Int.tdiv_eq_ediv_of_nonneg h0,wrap64 (by omega) (by omega)]
 omega
theorem Aeb {n : Int} (h0 : 0 ≤ n) (h1 : n < 512) : IntKind.u64.wrap (1 * 2 ^ (Nat.min ((IntKind.u64.wrap n).tmod 64).toNat IntKind.u64.bits)) = ((2 ^ (n.toNat % 64) : Nat) : Int):=by
 rw [(Adb n).2 h0 h1]
 have e : Nat.min (n.toNat % 64) IntKind.u64.bits = n.toNat % 64:=Nat.min_eq_left (by show n.toNat % 64 ≤ 64; omega)
 rw [e,Int.one_mul]
 have hp : 2 ^ (n.toNat % 64) < 18446744073709551616:=by
  have:=Nat.pow_lt_pow_right (a:=2) (by decide) (show n.toNat % 64 < 64 by omega)
  simpa using this
 have:=Vw hp
 rw [Int.natCast_pow] at this ⊢
 exact this
theorem Aas (j : Nat) (h : j < 64) : 2 ^ j < 18446744073709551616:=by
 have:=Nat.pow_lt_pow_right (a:=2) (by decide) h
 simpa using this
theorem AfI {n v : Int} (h0 : 0 ≤ n) (h0' : 0 ≤ v) (hne : v ≠ n) (h : n.toNat / 64 = v.toNat / 64) : v.toNat % 64 ≠ n.toNat % 64:=by omega
theorem Abz {t : BS} (ht : NU t) (n : Int) (b : Bool) : Hs (Nj t n b) fun r=>NU r ∧ ∀ v,0 ≤ v → v < 512 → hasB r v = if v = n then b else hasB t v:=by
 unfold Nj
 refine .chk (Adb n).1 ?_
 rw [AbG,Option.bind_some]
 by_cases h : 0 ≤ n ∧ n < 512
 ·rw [decide_eq_true h]
  obtain ⟨h0,h1⟩:=h
  have hi : n.toNat / 64 < 8:=by omega
  have hb:=Aeb h0 h1
  have hw:=ht.word hi
  have hp : WW ((2 ^ (n.toNat % 64) : Nat) : Int):=WW.nat (Aas _ (by omega))
  have fin : ∀ (x : Nat),x < 18446744073709551616 → (∀ j,j < 64 → x.testBit j = if j = n.toNat % 64 then b else (Px t (n.toNat / 64)).toNat.testBit j) →
    NU (t.set (n.toNat / 64) (x : Int)) ∧ ∀ v,0 ≤ v → v < 512 → hasB (t.set (n.toNat / 64) (x : Int)) v = if v = n then b else hasB t v:=by
   intro x hx hbit
   refine ⟨ht.set (WW.nat hx),fun v hv0 hv1=>?_⟩
   unfold hasB
   rw [ZQ hi]
   by_cases he : v = n
   ·subst he
    rw [if_pos rfl,if_pos rfl]
    show (x : Int).toNat.testBit _ = b
    rw [Int.toNat_natCast,hbit _ (by omega),if_pos rfl]
   ·rw [if_neg he]
    by_cases hq : n.toNat / 64 = v.toNat / 64
    ·rw [if_pos hq]
     show (x : Int).toNat.testBit _ = _
     rw [Int.toNat_natCast,hbit _ (by omega),if_neg (AfI h0 hv0 he hq),hq]
     rfl
    ·rw [if_neg hq]
  cases b with
  | true =>
   simp only [Bool.not_true,cond_false,cond_true]
   rw [Ada h0 h1]
   refine .chk (by omega) ?_
   rw [Int.toNat_natCast,UF hi,Option.bind_some]
   refine .chk (by omega) ?_
   rw [Option.bind_some]
   refine .pure ?_
   rw [hb,AfK hw hp,Int.toNat_natCast]
   refine fin _ (Abx hw.toNat_lt (Aas _ (by omega))) fun j hj=>?_
   rw [Nat.testBit_or,Nat.testBit_two_pow]
   by_cases e : j = n.toNat % 64
   ·simp [e]
   ·rw [if_neg e]
    simp [show ¬ n.toNat % 64 = j from fun h=>e h.symm]
  | false =>
   simp only [Bool.not_true,cond_false]
   rw [Ada h0 h1]
   refine .chk (by omega) ?_
   rw [Int.toNat_natCast,UF hi,Option.bind_some]
   refine .chk (by omega) ?_
   rw [Option.bind_some]
   refine .pure ?_
   rw [hb,AbI hw hp,Int.toNat_natCast]
   refine fin _ (AaJ hw.toNat_lt) fun j hj=>?_
   rw [AbM hw.toNat_lt (Aas _ (by omega)),Nat.testBit_two_pow]
   by_cases e : j = n.toNat % 64
   ·simp [e]
   ·rw [if_neg e]
    simp [show ¬ n.toNat % 64 = j from fun h=>e h.symm]
 ·rw [decide_eq_false h]
  simp only [Bool.not_false,cond_true]
  exact .pure ⟨ht,fun v h0 h1=>by rw [if_neg (fun e=>h (by omega))]⟩
theorem Aaa (l : List Int) (hl : l.length ≤ 9000000000000000000) : Hs (Nz l) fun r=>NU r ∧ ∀ v,0 ≤ v → v < 512 → hasB r v = decide (v ∈ l):=by
 unfold Nz
 refine Hs.loop (fun s=>NU s.1 ∧ ∃ k : Nat,s.2 = (k : Int) ∧ k ≤ l.length ∧ ∀ v,0 ≤ v → v < 512 → hasB s.1 v = decide (v ∈ l.take k)) (fun s=>l.length - s.2.toNat) ⟨NU.zero,0,rfl,Nat.zero_le _,fun v _ _=>by simp [Abs]⟩ ?_
 rintro ⟨t,k'⟩ ⟨ht,k,hk',hk,hall⟩
 simp only at ht hk' hall
 subst hk'
 unfold Qr
 refine .dec (fun hlt=>?_) fun hge=>?_
 ·have hlt : k < l.length:=by omega
  refine Hs.bind (P:=fun x=>l[k]? = some x) ⟨l[k],by simp [hlt],by simp [hlt]⟩ fun x hx=>(Abz ht x true).bind fun r hr=>.cnt ?_
  rw [MD (by omega)]
  refine ⟨⟨hr.1,k + 1,rfl,hlt,fun v h0 h1=>?_⟩,by simp only; omega⟩
  simp only
  rw [hr.2 v h0 h1,hall v h0 h1,List.take_add_one,hx]
  by_cases e : v = x
  ·simp [e]
  ·simp [e]
 ·have : k = l.length:=by omega
  subst this
  exact .lft (.pure ⟨ht,fun v h0 h1=>by rw [hall v h0 h1,List.take_length]⟩)
theorem MK.snoc {l : List Int} (h : MK l) {z : Int} (h0 : 0 ≤ z ∧ z < 512) (hz : ∀ x ∈ l,x < z) : MK (l ++ [z]):=by
 refine ⟨List.pairwise_append.2 ⟨h.1,List.pairwise_singleton _ _,fun a ha b hb=>?_⟩,fun x hx=>?_⟩
 ·simp only [List.mem_singleton] at hb; subst hb; exact hz a ha
 ·simp only [List.mem_append,List.mem_singleton] at hx
  rcases hx with h1 | rfl
  ·exact h.2 x h1
  ·exact h0
theorem Xy {t : BS} (ht : NU t) : Hs (MW t) fun r=>r.2 = t ∧ Pk r.1 (fun v=>hasB t v = true):=by
 unfold MW
 refine Hs.loop (fun s=>∃ i : Nat,s.2 = (i : Int) ∧ i ≤ 8 ∧ Pk s.1 (fun v=>v < 64 * i ∧ hasB t v = true)) (fun s=>8 - s.2.toNat) ⟨0,rfl,by omega,⟨MK.nil,fun v=>by simp; omega⟩⟩ ?_
 rintro ⟨l,i'⟩ ⟨i,hi',hi,hs⟩
 simp only at hi' hs
 subst hi'
 unfold Oc
 refine .dec (fun hlt=>?_) fun hge=>?_
 ·have hlt : i < 8:=by omega
  refine .chk (by omega) ?_
  rw [Int.toNat_natCast,UF hlt,Option.bind_some]
  have hw:=ht.word hlt
  refine Hs.loop (fun s=>WW s.2 ∧ ∃ c : Nat,c ≤ 64 ∧ Pk s.1 (fun v=>v < 64 * i + c ∧ hasB t v = true) ∧ ∀ j,j < 64 → TR s.2 j = (decide (c ≤ j) && TR (Px t i) j)) (fun s=>s.2.toNat) ⟨hw,0,by omega,by simpa using hs,fun j _=>by simp⟩ ?_
  rintro ⟨m,x⟩ ⟨hx,c,hc,hm,hb⟩
  simp only at hx hm hb
  unfold Od
  refine .bne (fun hne=>?_) fun he=>?_
  ·have hx0 : 0 < x.toNat:=by have:=hx.1; omega
   obtain ⟨k1,k2,k3,k4⟩:=AcL hx0 hx.toNat_lt
   generalize hk : Lib.ctz 64 x.toNat = k at k1 k2 k3 k4
   have ek : XL x = some (k : Int):=by
    unfold XL
    rw [MY (show 0 ≤ x ∧ x < 18446744073709551616 from hx),hk]
   rw [ek,Option.bind_some]
   have hck : c ≤ k:=by
    have:=hb k k1
    unfold TR at this
    rw [k2] at this
    simp at this
    exact this.1
   have hwk : TR (Px t i) k = true:=by
    have:=hb k k1
    unfold TR at this
    rw [k2] at this
    simp at this
    exact this.2
   have e1 : IntKind.i64.wrap (IntKind.i64.wrap (64 * (i : Int)) + (k : Int)) = ((64 * i + k : Nat) : Int):=by
    rw [wrap64 (n:=64 * (i : Int)) (by omega) (by omega),wrap64 (by omega) (by omega)]; omega
   have e2 : IntKind.u64.wrap (x - 1) = x - 1:=AbC ⟨by omega,by have:=hx.2; omega⟩
   have e3 : (x - 1).toNat = x.toNat - 1:=by omega
   have hz : ∀ v ∈ m,v < ((64 * i + k : Nat) : Int):=fun v hv=>by
    have:=((hm.2 v).1 hv).2.1
    omega
   have hlen:=hm.1.length_le
   refine .chk (by simp; omega) (.cnt ?_)
   rw [e1,e2,AfN hx ⟨by omega,by have:=hx.2; omega⟩,e3]
   refine ⟨⟨WW.nat (AaJ hx.toNat_lt),k + 1,by omega,⟨hm.1.snoc (by omega) hz,fun v=>?_⟩,fun j hj=>?_⟩,?_⟩
   ·simp only [List.mem_append,List.mem_singleton,hm.2]
    constructor
    ·rintro (⟨a,b,d⟩ | rfl)
     ·exact ⟨a,by omega,d⟩
     ·refine ⟨by omega,by omega,?_⟩
      unfold hasB
      have q1 : (((64 * i + k : Nat) : Int).toNat) / 64 = i:=by omega
      have q2 : (((64 * i + k : Nat) : Int).toNat) % 64 = k:=by omega
      rw [q1,q2]
      exact hwk
    ·rintro ⟨a,b,d⟩
     by_cases e : v = ((64 * i + k : Nat) : Int)
     ·exact .inr e
     ·refine .inl ⟨a,?_,d⟩
      refine Int.not_le.1 fun hle=>?_
      have q1 : v.toNat / 64 = i:=by omega
      have q3 : v.toNat % 64 < k:=by omega
      have q4 : c ≤ v.toNat % 64:=by omega
      have q5:=hb (v.toNat % 64) (by omega)
      unfold TR at q5
      rw [k3 _ q3] at q5
      unfold hasB at d
      rw [q1] at d
      unfold TR at d
      rw [d] at q5
      simp [q4] at q5
   ·simp only
    unfold TR
    rw [Int.toNat_natCast,k4]
    have q:=hb j hj
    unfold TR at q
    by_cases h1 : j < k
    ·rw [k3 _ h1]
     simp [show ¬ k + 1 ≤ j by omega]
    ·by_cases h2 : j = k
     ·subst h2
      simp [show ¬ j + 1 ≤ j by omega]
     ·rw [q]
      simp [h2,show c ≤ j by omega,show k + 1 ≤ j by omega]
   ·simp only [Int.toNat_natCast]
    have : x.toNat &&& (x.toNat - 1) ≤ x.toNat - 1:=Nat.and_le_right
    omega
  ·have he : x = 0:=he
   subst he
   refine .lft (.cnt ?_)
   rw [MD (by omega)]
   refine ⟨⟨i + 1,rfl,hlt,hm.mono fun v h0 h1=>⟨fun ⟨a,b⟩=>⟨by omega,b⟩,fun ⟨a,b⟩=>⟨?_,b⟩⟩⟩,by simp only; omega⟩
   refine Int.not_le.1 fun hle=>?_
   have q1 : v.toNat / 64 = i:=by omega
   have q4 : c ≤ v.toNat % 64:=by omega
   have q5:=hb (v.toNat % 64) (by omega)
   unfold hasB at b
   rw [q1] at b
   rw [b] at q5
   simp [q4,TR] at q5
 ·have : i = 8:=by omega
  subst this
  exact .lft (.pure ⟨rfl,hs.mono fun v h0 h1=>⟨fun h=>h.2,fun h=>⟨by omega,h⟩⟩⟩)
theorem AbE {x y : Int} (hx : WW x) (hy : WW y) : OJ x y = some ((x.toNat ||| y.toNat : Nat) : Int):=by
 unfold OJ; rw [AfK hx hy]
theorem AdU {s t : BS} (hs : NU s) (ht : NU t) (g : Nat → Nat → Nat) (hg : ∀ x y,x < 18446744073709551616 → y < 18446744073709551616 → g x y < 18446744073709551616) (p : Bool → Bool → Bool)
  (hp : ∀ x y j,x < 18446744073709551616 → y < 18446744073709551616 → j < 64 → (g x y).testBit j = p (x.testBit j) (y.testBit j))
  {body : BS × Int → Option ((BS × Int) ⊕ (BS × BS × BS))} (hend : ∀ x,body (x,8) = some (.inr (x,s,t)))
  (hstep : ∀ x (i : Nat),i < 8 → body (x,(i : Int)) = some (.inl (x.set i ((g (Px s i).toNat (Px t i).toNat : Nat) : Int),((i + 1 : Nat) : Int)))) :
  Hs (MA body (⟨0,0,0,0,0,0,0,0⟩,0)) fun r=>NU r.1 ∧ ∀ v,0 ≤ v → v < 512 → hasB r.1 v = p (hasB s v) (hasB t v):=by
 refine Hs.loop (fun q=>NU q.1 ∧ ∃ i : Nat,q.2 = (i : Int) ∧ i ≤ 8 ∧ ∀ j,j < i → Px q.1 j = ((g (Px s j).toNat (Px t j).toNat : Nat) : Int)) (fun q=>8 - q.2.toNat) ⟨NU.zero,0,rfl,by omega,fun j hj=>by omega⟩ ?_
 rintro ⟨x,i'⟩ ⟨hx,i,hi',hi,hall⟩
 simp only at hx hi' hall
 subst hi'
 by_cases hlt : i < 8
 ·refine ⟨_,hstep x i hlt,⟨hx.set (WW.nat (hg _ _ (hs.word hlt).toNat_lt (ht.word hlt).toNat_lt)),i + 1,rfl,hlt,fun j hj=>?_⟩,by simp only; omega⟩
  simp only
  rw [ZQ hlt]
  by_cases e : i = j
  ·subst e; rw [if_pos rfl]
  ·rw [if_neg e]; exact hall j (by omega)
 ·obtain rfl : i = 8:=by omega
  refine ⟨_,hend x,hx,fun v h0 h1=>?_⟩
  have hv : v.toNat / 64 < 8:=by omega
  unfold hasB
  simp only
  rw [hall _ hv]
  unfold TR
  rw [Int.toNat_natCast,hp _ _ _ (hs.word hv).toNat_lt (ht.word hv).toNat_lt (by omega)]
theorem ZY {s t : BS} (hs : NU s) (ht : NU t) : Hs (MP s t) fun r=>NU r.1 ∧ ∀ v,0 ≤ v → v < 512 → hasB r.1 v = (hasB s v || hasB t v):=by
 unfold MP
 refine AdU hs ht (· ||| ·) (fun x y=>Abx) (· || ·) (fun x y j _ _ _=>Nat.testBit_or ..) (fun x=>by simp [MR]) fun x i hi=>?_
 have w:=MD (show i < 9223372036854775807 by omega)
 simp [MR,UF hi,AbE (hs.word hi) (ht.word hi),w,show (i : Int) < 8 by omega]
theorem AbK (l : List Int) (hl : l.length ≤ 9000000000000000000) : Hs (Qm l) fun r=>Pk r (· ∈ l):=by
 unfold Qm
 exact (Aaa l hl).bind fun r hr=>(Xy hr.1).bind fun q hq=>.pure (hq.2.mono fun v h0 h1=>by rw [hr.2 v h0 h1]; simp)
theorem Aah (l : List Int) (n : Int) (hl : l.length ≤ 9000000000000000000) : Hs (Ov l n) fun r=>Pk r (fun v=>v ∈ l ∧ v ≠ n):=by
 unfold Ov
 refine (Aaa l hl).bind fun r hr=>(Abz hr.1 n false).bind fun u hu=>(Xy hu.1).bind fun q hq=>.pure (hq.2.mono fun v h0 h1=>?_)
 rw [hu.2 v h0 h1,hr.2 v h0 h1]
 by_cases e : v = n <;> simp [e]
theorem AaD (a b : List Int) (ha : a.length ≤ 9000000000000000000) (hb : b.length ≤ 9000000000000000000) : Hs (Nu a b) fun r=>Pk r (fun v=>v ∈ a ∨ v ∈ b):=by
 unfold Nu
 refine (Aaa a ha).bind fun r hr=>(Aaa b hb).bind fun u hu=>(ZY hr.1 hu.1).bind fun x hx=>(Xy hx.1).bind fun q hq=>.pure (hq.2.mono fun v h0 h1=>?_)
 rw [hx.2 v h0 h1,hr.2 v h0 h1,hu.2 v h0 h1]; simp
theorem Aag {s : List Int} (hs : MK s) (n : Int) : Ov s n = some (s.filter (· != n)):=by
 obtain ⟨r,h1,h2⟩:=Aah s n (by have:=hs.length_le; omega)
 rw [h1,h2.eq (Pk.Aar (hs.filter (· != n))) fun v _ _=>by simp [List.mem_filter]]
theorem Uo {a b : List Int} (ha : MK a) (hb : ∀ x ∈ b,0 ≤ x ∧ x < 512) (hl : b.length ≤ 1000) : Nu a b = some (Ng a b):=by
 obtain ⟨r,h1,h2⟩:=AaD a b (by have:=ha.length_le; omega) (by omega)
 obtain ⟨h3,h4⟩:=QA (n:=512) (by omega) (b:=b) ⟨ha,fun x hx=>(ha.2 x hx).2⟩ hb
 rw [h1,h2.eq (Pk.Aar h3.1) fun v _ _=>by rw [h4]]
theorem AbJ {b : List Int} (hb : ∀ x ∈ b,0 ≤ x ∧ x < 512) (hl : b.length ≤ 1000) : Qm b = some (Ng [] b):=by
 obtain ⟨r,h1,h2⟩:=AbK b (by omega)
 obtain ⟨h3,h4⟩:=QA (n:=512) (by omega) (b:=b) ⟨MK.nil,fun x hx=>by cases hx⟩ hb
 rw [h1,h2.eq (Pk.Aar h3.1) fun v _ _=>by rw [h4]; simp]
end Go.Proofs.YtcelninhkmhjkaaDoor
namespace Go.Proofs.YtcelninhkmhjkaaDoor
open Go Go.Dw Go.Proofs
attribute [local simp] MY Bool.cond_eq_ite
def MM (n : Int) (s : List Int) : Prop:=MK s ∧ ∀ x ∈ s,x < n
theorem MM.nil (n : Int) : MM n []:=⟨MK.nil,fun x hx=>by cases hx⟩
theorem MM.add {n m : Int} {s : List Int} (h : MM n s) (hm : 0 ≤ m ∧ m < n) (hn : n ≤ 512) : MM n (Ou m s) ∧ Qp s m = some (Ou m s):=by
 have hl:=h.1.length_le
 refine ⟨?_,add_eq s m (by omega)⟩
 unfold Ou
 rw [if_pos (by omega)]
 refine ⟨h.1.Pe (by omega),fun x hx=>?_⟩
 rw [TY] at hx
 rcases hx with rfl | hx
 ·exact hm.2
 ·exact h.2 x hx
def RowsIn (n : Int) (g : List (List Int)) : Prop:=∀ s ∈ g,MM n s
theorem RowsIn.set {n : Int} {g : List (List Int)} (h : RowsIn n g) {i : Nat} {s : List Int} (hs : MM n s) : RowsIn n (g.set i s):=by
 intro x hx
 rcases List.mem_or_eq_of_mem_set hx with h1 | rfl
 ·exact h x h1
 ·exact hs
end Go.Proofs.YtcelninhkmhjkaaDoor
namespace Go.Proofs.YtcelninhkmhjkaaDoor
open Go Go.Dw Go.Proofs
attribute [local simp] MY Bool.cond_eq_ite
def inN (x : LS) (s : List Int) : List Int:=Ng (if x.Op = 16 ∨ x.Op = 17 then s.filter (· != x.A) else s) (Nr x)
theorem AcY (x : LS) (s : List Int) (h : s.length ≤ 900000) : SJ x s = some (inN x s):=by
 obtain ⟨op,a,b,c,i⟩:=x
 have hu : Qz ⟨op,a,b,c,i⟩ = some (Nr ⟨op,a,b,c,i⟩):=by
  unfold Qz Nr
  by_cases h15 : op = 15
  ·simp [h15]
  ·have e15 : (op == 15) = false:=by simpa using h15
   by_cases h17 : op = 17
   ·simp [h17]
   ·have e17 : (op == 17) = false:=by simpa using h17
    simp [h15,e15,h17,e17]
 have hul : (Nr ⟨op,a,b,c,i⟩).length ≤ 1:=by unfold Nr; split <;> simp
 have hfl : (s.filter (· != a)).length ≤ s.length:=List.length_filter_le ..
 have hr:=AbA s a (by omega)
 have hu1:=union_eq (s.filter (· != a)) (Nr ⟨op,a,b,c,i⟩) (by omega)
 have hu2:=union_eq s (Nr ⟨op,a,b,c,i⟩) (by omega)
 unfold SJ QD Pu inN
 by_cases h16 : op = 16
 ·subst h16; simp [hr,hu,hu1]
 ·have e16 : (op == 16) = false:=by simpa using h16
  by_cases h17 : op = 17
  ·subst h17; simp [hr,hu,hu1]
  ·have e17 : (op == 17) = false:=by simpa using h17
   simp [h16,e16,h17,e17,hu,hu2]
theorem Qc {f : LW} (hf : MH f) {x : LS} (hx : x ∈ f.Code) {s : List Int} (hs : MM f.Slots.length s) :
  MM f.Slots.length (inN x s) ∧ ∀ v,v ∈ inN x s ↔ (v ∈ s ∧ ¬ ((x.Op = 16 ∨ x.Op = 17) ∧ x.A = v)) ∨ v ∈ Nr x:=by
 have hsl:=hf.slots
 have h0 : MM f.Slots.length (if x.Op = 16 ∨ x.Op = 17 then s.filter (· != x.A) else s):=by
  split
  ·exact ⟨hs.1.filter _,fun v hv=>hs.2 v (List.mem_filter.1 hv).1⟩
  ·exact hs
 obtain ⟨h1,h2⟩:=QA (n:=f.Slots.length) (by omega) (b:=Nr x) h0 (hf.uses x hx)
 refine ⟨h1,fun v=>?_⟩
 unfold inN
 rw [h2]
 by_cases hd : x.Op = 16 ∨ x.Op = 17
 ·simp only [hd,if_true,List.mem_filter,true_and]
  constructor
  ·rintro (⟨h3,h4⟩ | h3)
   ·exact .inl ⟨h3,fun e=>by simp [e] at h4⟩
   ·exact .inr h3
  ·rintro (⟨h3,h4⟩ | h3)
   ·exact .inl ⟨h3,by simpa using fun e : v = x.A=>h4 e.symm⟩
   ·exact .inr h3
 ·simp [hd]
def Md (f : LW) (j : Int) : LS:=(f.Code[j.toNat]?).getD default
def Mm (l : List (List Int)) (j : Int) : List Int:=(l[j.toNat]?).getD []
def MF (f : LW) (l : List (List Int)) (k : Int) : List Int:=(Mt (Md f k) k).foldl (fun o j=>Ng o (inN (Md f j) (Mm l j))) []
def MU (f : LW) (l : List (List Int)) : List (List Int):=(List.range f.Code.length).map fun k=>MF f l (k : Nat)
def MQ (f : LW) (l : List (List Int)) : Prop:=l.length = f.Code.length ∧ ∀ s ∈ l,MM f.Slots.length s
theorem XB {f : LW} (hf : MH f) {l : List (List Int)} (hl : MQ f l) : ∀ {js : List Int} {o : List Int},(∀ j ∈ js,0 ≤ j ∧ j < f.Code.length) → MM f.Slots.length o →
  MM f.Slots.length (js.foldl (fun o j=>Ng o (inN (Md f j) (Mm l j))) o) ∧ ∀ v,v ∈ js.foldl (fun o j=>Ng o (inN (Md f j) (Mm l j))) o ↔ v ∈ o ∨ ∃ j ∈ js,v ∈ inN (Md f j) (Mm l j)
 | [],o,_,ho=>⟨ho,fun v=>by simp⟩
 | j :: js,o,hj,ho=>by
  have hsl:=hf.slots
  have h0:=hj j (List.mem_cons_self ..)
  have hc : Md f j ∈ f.Code:=by
   unfold Md
   rw [List.getElem?_eq_getElem (show j.toNat < f.Code.length by omega)]
   exact List.getElem_mem _
  have ho' : MM f.Slots.length (Mm l j):=by
   unfold Mm
   rw [List.getElem?_eq_getElem (show j.toNat < l.length by have:=hl.1; omega)]
   exact hl.2 _ (List.getElem_mem _)
  obtain ⟨h1,h2⟩:=Qc hf hc ho'
  obtain ⟨h3,h4⟩:=QA (n:=f.Slots.length) (by omega) (b:=inN (Md f j) (Mm l j)) ho fun x hx=>⟨(h1.1.2 x hx).1,h1.2 x hx⟩
  obtain ⟨h5,h6⟩:=XB hf hl (fun q hq=>hj q (List.mem_cons_of_mem _ hq)) h3
  refine ⟨h5,fun v=>?_⟩
  simp only [List.foldl_cons]
  rw [h6,h4]
  simp only [List.mem_cons,exists_eq_or_imp,or_assoc]
theorem NK {f : LW} (hf : MH f) {l : List (List Int)} (hl : MQ f l) {k : Nat} (hk : k < f.Code.length) :
  MM f.Slots.length (MF f l k) ∧ ∀ v,v ∈ MF f l k ↔ ∃ j ∈ Mt (Md f k) k,v ∈ inN (Md f j) (Mm l j):=by
 have hx : f.Code[k]? = some (Md f k):=by simp [Md,hk]
 obtain ⟨h1,h2⟩:=XB hf hl (js:=Mt (Md f k) k) (hf.next k _ hx) (MM.nil _)
 exact ⟨h1,fun v=>by unfold MF; rw [h2]; simp⟩
theorem Zq {f : LW} (hf : MH f) {l : List (List Int)} (hl : MQ f l) : MQ f (MU f l):=by
 refine ⟨by simp [MU],fun s hs=>?_⟩
 obtain ⟨k,hk,rfl⟩:=List.mem_map.1 hs
 exact (NK hf hl (List.mem_range.1 hk)).1
theorem step_eq {f : LW} (hf : MH f) {l : List (List Int)} (hl : MQ f l) : Pv f ⟨l⟩ = some ⟨MU f l⟩:=by
 have hlen:=hf.len'
 unfold Pv
 rw [MY (by omega)]
 have key : Hs (MA (fun s : List (List Int) × Int=>Ph f ⟨l⟩ s.1 s.2) (List.replicate (f.Code.length : Int).toNat ([] : List Int),0)) fun r=>r = ⟨MU f l⟩:=by
  refine Hs.loop (fun s=>s.1.length = f.Code.length ∧ ∃ k : Nat,s.2 = (k : Int) ∧ k ≤ f.Code.length ∧ ∀ (j : Nat) r,s.1[j]? = some r → r = if j < k then MF f l j else []) (fun s=>f.Code.length - s.2.toNat) ⟨by simp,0,rfl,Nat.zero_le _,fun j r hj=>?_⟩ ?_
  ·have:=List.mem_of_getElem? hj
   rw [List.mem_replicate] at this
   simp [this.2]
  rintro ⟨x,k'⟩ ⟨hxl,k,hke,hk,hall⟩
  simp only at hxl hke hall
  subst hke
  by_cases hlt : k < f.Code.length
  ·have w:=MD (show k < 9223372036854775807 by omega)
   have hx : f.Code[k]? = some (Md f k):=by simp [Md,hlt]
   have hxk : x[k]? = some []:=by
    have h1 : x[k]? = some (x[k]'(by omega)):=List.getElem?_eq_getElem _
    have:=hall k _ h1
    rw [h1,this,if_neg (by omega)]
   have hset : x.set k [] = x:=by
    obtain ⟨h1,h2⟩:=List.getElem?_eq_some_iff.1 hxk
    rw [← h2]; exact List.set_getElem_self h1
   have inner:=SW (body:=fun s : List (List Int) × Int=>Pj (Mt (Md f k) k) k f ⟨l⟩ s.1 s.2) (Mt (Md f k) k) (fun (o : List Int) i=>(x.set k o,i)) (fun o _=>MM f.Slots.length o)
    (fun o js=>some (.inl (x.set k (js.foldl (fun o j=>Ng o (inN (Md f j) (Mm l j))) o),((k + 1 : Nat) : Int))))
    (fun o _=>⟨_,by simp [Pj,Sw,w]; rfl,by simp⟩) (fun o i j r ho hd hi hj=>by
     left
     have wi:=MD (show i < 9223372036854775807 by
      have : (Mt (Md f k) k).length ≤ 2:=by unfold Mt; (repeat' split) <;> simp
      omega)
     have hjm:=hf.next k _ hx j (List.mem_of_getElem? hj)
     have hjc : f.Code[j.toNat]? = some (Md f j):=by simp [Md,show j.toNat < f.Code.length by omega]
     have hjl : j.toNat < l.length:=by have:=hl.1; omega
     have hjo : l[j.toNat]? = some (Mm l j):=by simp [Mm,hjl]
     have hos : MM f.Slots.length (Mm l j):=hl.2 _ (List.mem_of_getElem? hjo)
     have hsl:=hf.slots
     obtain ⟨g1,g2⟩:=Qc hf (List.mem_of_getElem? hjc) hos
     obtain ⟨g3,g4⟩:=QA (n:=f.Slots.length) (by omega) (b:=inN (Md f j) (Mm l j)) ho fun x hx=>⟨(g1.1.2 x hx).1,g1.2 x hx⟩
     have e1:=AcY (Md f j) (Mm l j) (by have:=hos.1.length_le; omega)
     have e2:=union_eq o (inN (Md f j) (Mm l j)) (by have:=ho.1.length_le; have:=g1.1.length_le; omega)
     obtain ⟨_,hje⟩:=List.getElem?_eq_some_iff.1 hj
     refine ⟨Ng o (inN (Md f j) (Mm l j)),g3,?_,by simp⟩
     simp [Pj,hi,hje,hxl,hlt,RI _ hjm.1,hjc,hjo,e1,e2,wi]) [] (MM.nil _)
   simp only [hset] at inner
   refine ⟨.inl (x.set k (MF f l k),((k + 1 : Nat) : Int)),?_,⟨by simpa using hxl,k + 1,rfl,hlt,fun j r hj=>?_⟩,by simp only; omega⟩
   ·simp only [Ph,decide_eq_true (Int.ofNat_lt.2 hlt),cond_true,AcP hx (by omega),Option.bind_some]
    exact inner
   ·simp only at hj
    by_cases e : k = j
    ·subst e
     rw [List.getElem?_set_self (by omega)] at hj
     obtain rfl:=Option.some.inj hj
     rw [if_pos (by omega)]
    ·rw [List.getElem?_set_ne e] at hj
     rw [hall j r hj]
     by_cases e2 : j < k
     ·rw [if_pos e2,if_pos (by omega)]
     ·rw [if_neg e2,if_neg (by omega)]
  ·refine ⟨.inr ⟨x⟩,by simp [Ph,hlt],?_⟩
   show Mg.mk x = ⟨MU f l⟩
   congr 1
   refine List.ext_getElem (by simp [MU,hxl]) fun j h1 h2=>?_
   have:=hall j _ (List.getElem?_eq_getElem h1)
   rw [this,if_pos (by omega)]
   simp [MU]
 obtain ⟨r,h1,rfl⟩:=key
 exact h1
def LE (a b : List (List Int)) : Prop:=∀ (k : Nat) s t,a[k]? = some s → b[k]? = some t → ∀ v ∈ s,v ∈ t
theorem LE.trans {a b c : List (List Int)} (h1 : LE a b) (h2 : LE b c) (hl : a.length = b.length) : LE a c:=by
 intro k s t hs ht v hv
 have hk:=(List.getElem?_eq_some_iff.1 hs).1
 have hb : b[k]? = some (b[k]'(by omega)):=List.getElem?_eq_getElem _
 exact h2 k _ t hb ht v (h1 k s _ hs hb v hv)
theorem Aaz : ∀ {a b : List (List Int)},a.length = b.length → (∀ s ∈ a,MK s) → (∀ s ∈ b,MK s) → LE a b → (a.map List.length).sum ≤ (b.map List.length).sum ∧ ((a.map List.length).sum = (b.map List.length).sum → a = b)
 | [],[],_,_,_,_=>⟨Nat.le_refl _,fun _=>rfl⟩
 | [],y :: b,h,_,_,_=>by simp at h
 | x :: a,[],h,_,_,_=>by simp at h
 | x :: a,y :: b,h,ha,hb,hle=>by
  have hsub:=(ha x (List.mem_cons_self ..)).sub (hb y (List.mem_cons_self ..)) (hle 0 x y rfl rfl)
  obtain ⟨h1,h2⟩:=Aaz (a:=a) (b:=b) (by simpa using h) (fun s hs=>ha s (List.mem_cons_of_mem _ hs)) (fun s hs=>hb s (List.mem_cons_of_mem _ hs)) fun k s t hs ht=>hle (k + 1) s t (by simpa using hs) (by simpa using ht)
  have hlen:=hsub.length_le
  simp only [List.map_cons,List.sum_cons]
  refine ⟨by omega,fun he=>?_⟩
  rw [h2 (by omega),hsub.eq_of_length (by omega)]
theorem Yz : ∀ {a : List (List Int)},(∀ s ∈ a,MK s) → (a.map List.length).sum ≤ 512 * a.length
 | [],_=>by simp
 | x :: a,ha=>by
  have h1:=(ha x (List.mem_cons_self ..)).length_le
  have h2:=Yz (a:=a) fun s hs=>ha s (List.mem_cons_of_mem _ hs)
  simp only [List.map_cons,List.sum_cons,List.length_cons]
  omega
theorem AcH {f : LW} (hf : MH f) {x : LS} (hx : x ∈ f.Code) {s t : List Int} (hs : MM f.Slots.length s) (ht : MM f.Slots.length t) (h : ∀ v ∈ s,v ∈ t) : ∀ v ∈ inN x s,v ∈ inN x t:=by
 intro v hv
 rw [(Qc hf hx hs).2] at hv
 rw [(Qc hf hx ht).2]
 rcases hv with ⟨h1,h2⟩ | h1
 ·exact .inl ⟨h v h1,h2⟩
 ·exact .inr h1
theorem Wz {f : LW} (hf : MH f) {a b : List (List Int)} (ha : MQ f a) (hb : MQ f b) (h : LE a b) : LE (MU f a) (MU f b):=by
 intro k s t hs ht v hv
 have hk : k < f.Code.length:=by have:=(List.getElem?_eq_some_iff.1 hs).1; simpa [MU] using this
 have e1 : s = MF f a k:=by simp [MU,hk] at hs; exact hs.symm
 have e2 : t = MF f b k:=by simp [MU,hk] at ht; exact ht.symm
 subst e1 e2
 rw [(NK hf ha hk).2] at hv
 rw [(NK hf hb hk).2]
 obtain ⟨j,hj,hv⟩:=hv
 have hx : f.Code[k]? = some (Md f k):=by simp [Md,hk]
 have hjm:=hf.next k _ hx j hj
 have hjc : f.Code[j.toNat]? = some (Md f j):=by simp [Md,show j.toNat < f.Code.length by omega]
 have hja : a[j.toNat]? = some (Mm a j):=by simp [Mm,show j.toNat < a.length by have:=ha.1; omega]
 have hjb : b[j.toNat]? = some (Mm b j):=by simp [Mm,show j.toNat < b.length by have:=hb.1; omega]
 exact ⟨j,hj,AcH hf (List.mem_of_getElem? hjc) (ha.2 _ (List.mem_of_getElem? hja)) (hb.2 _ (List.mem_of_getElem? hjb)) (h _ _ _ hja hjb) v hv⟩
structure Vx (f : LW) (l : List (List Int)) : Prop where
 ok : MQ f l
 fix : MU f l = l
 least : ∀ b,MQ f b → LE (MU f b) b → LE l b
theorem AcT {f : LW} (hf : MH f) : Hs (QI f) fun l=>Vx f l.Out:=by
 have hlen:=hf.len'
 unfold QI
 refine .chk (by omega) ?_
 refine Hs.loop (fun l=>MQ f l ∧ LE l (MU f l) ∧ ∀ b,MQ f b → LE (MU f b) b → LE l b) (fun l=>512 * f.Code.length - (l.map List.length).sum) ⟨⟨by simp,fun s hs=>?_⟩,fun k s t hs ht v hv=>?_,fun b _ _ k s t hs ht v hv=>?_⟩ ?_
 ·rw [List.mem_replicate] at hs; rw [hs.2]; exact MM.nil _
 ·have:=List.mem_of_getElem? hs; rw [List.mem_replicate] at this; rw [this.2] at hv; cases hv
 ·have:=List.mem_of_getElem? hs; rw [List.mem_replicate] at this; rw [this.2] at hv; cases hv
 ·rintro l ⟨hl,hle,hleast⟩
  have hl':=Zq hf hl
  have e1:=step_eq hf hl
  have e2 : OE ⟨MU f l⟩ ⟨l⟩ = some (decide (MU f l = l)):=by
   unfold OE
   rw [XI _ _ (by have:=hl'.1; simp only; omega) (fun s hs=>by have:=(hl'.2 s hs).1.length_le; omega)]
   rfl
  obtain ⟨s1,s2⟩:=Aaz (by rw [hl.1,hl'.1]) (fun s hs=>(hl.2 s hs).1) (fun s hs=>(hl'.2 s hs).1) hle
  have s3:=Yz fun s hs=>(hl'.2 s hs).1
  rw [hl'.1] at s3
  unfold RN
  rw [e1,Option.bind_some,e2,Option.bind_some]
  by_cases he : MU f l = l
  ·simp only [he,decide_true,cond_true]
   exact .lft (.pure ⟨hl,he,hleast⟩)
  ·simp only [he,decide_false,cond_false]
   refine .cnt ⟨⟨hl',Wz hf hl hl' hle,fun b hb hb'=>(Wz hf hl hb (hleast b hb hb')).trans hb' (by rw [hl'.1,(Zq hf hb).1])⟩,?_⟩
   have : (l.map List.length).sum ≠ ((MU f l).map List.length).sum:=fun e=>he (s2 e).symm
   simp only
   omega
end Go.Proofs.YtcelninhkmhjkaaDoor
namespace Go.Proofs.YtcelninhkmhjkaaDoor
open Go Go.Dw Go.Proofs
attribute [local simp] MY Bool.cond_eq_ite
theorem AcG (x : LS) : PF x = some (Nr x):=by
 obtain ⟨op,a,b,c,i⟩:=x
 unfold PF Nr
 by_cases h15 : op = 15
 ·simp [h15]
 ·have e15 : (op == 15) = false:=by simpa using h15
  by_cases h17 : op = 17
  ·simp [h17]
  ·have e17 : (op == 17) = false:=by simpa using h17
   simp [h15,e15,h17,e17]
theorem AdF (x : LS) : OK x = some (if x.Op = 16 ∨ x.Op = 17 then (x.A,true) else (0,false)):=by
 obtain ⟨op,a,b,c,i⟩:=x
 unfold OK
 by_cases h16 : op = 16
 ·simp [h16]
 ·have e16 : (op == 16) = false:=by simpa using h16
  by_cases h17 : op = 17
  ·simp [h17]
  ·have e17 : (op == 17) = false:=by simpa using h17
   simp [h16,e16,h17,e17]
theorem AdT (x : LS) : (Nr x).length ≤ 1:=by unfold Nr; split <;> simp
theorem AbF (x : LS) (hu : ∀ v ∈ Nr x,0 ≤ v ∧ v < 512) : Ng [] (Nr x) = Nr x:=by
 unfold Nr at hu ⊢
 split
 ·rename_i h
  rw [if_pos h] at hu
  have:=hu x.B (by simp)
  simp [Ng,Ou,Pe,this]
 ·rfl
theorem Aak {x : LS} {s : List Int} (hs : MK s) (hu : ∀ v ∈ Nr x,0 ≤ v ∧ v < 512) : Qn x s = some (inN x s):=by
 have hl:=AdT x
 have h1:=AbJ hu (by omega)
 rw [AbF x hu] at h1
 have h2:=Aag hs x.A
 have h3:=Uo (hs.filter (· != x.A)) hu (by omega)
 have h4:=Uo hs hu (by omega)
 unfold Qn inN
 rw [AdF,Option.bind_some,AcG]
 by_cases h : x.Op = 16 ∨ x.Op = 17
 ·simp only [h,if_true,cond_true,Option.bind_some,h1,h2,h3]
 ·simp only [h,if_false,cond_false,Option.bind_some,h1,h4]
end Go.Proofs.YtcelninhkmhjkaaDoor
namespace Go.Proofs.YtcelninhkmhjkaaDoor
open Go Go.Dw Go.Proofs
def KND (m : List (Int × Bool)) : Prop:=(m.map Prod.fst).Nodup
theorem Zv {y : Int} : ∀ {m : List (Int × Bool)},y ∉ m.map Prod.fst → MV false y m = false
 | [],_=>rfl
 | (k,u) :: r,h=>by
  simp only [List.map_cons,List.mem_cons,not_or] at h
  simp only [MV]
  rw [if_neg (fun e=>h.1 e.symm)]
  exact Zv h.2
theorem Zw (x y : Int) : ∀ m : List (Int × Bool),MV false y (Nx x true m) = if y = x then true else MV false y m
 | []=>by
  simp only [Nx,MV]
  by_cases e : x = y
  ·rw [if_pos e,if_pos e.symm]
  ·rw [if_neg e,if_neg (fun h=>e h.symm)]
 | (k,u) :: r=>by
  simp only [Nx]
  by_cases e : k = x
  ·subst e
   rw [if_pos rfl]
   simp only [MV]
   by_cases e2 : k = y
   ·rw [if_pos e2,if_pos e2.symm]
   ·rw [if_neg e2,if_neg (fun h=>e2 h.symm),if_neg e2]
  ·rw [if_neg e]
   simp only [MV]
   by_cases e2 : k = y
   ·subst e2
    rw [if_pos rfl,if_neg e,if_pos rfl]
   ·rw [if_neg e2,if_neg e2]
    exact Zw x y r
theorem Aao (x y : Int) (u : Bool) : ∀ m : List (Int × Bool),y ∈ (Nx x u m).map Prod.fst ↔ y = x ∨ y ∈ m.map Prod.fst
 | []=>by simp [Nx]
 | (k,u') :: r=>by
  simp only [Nx]
  by_cases e : k = x
  ·subst e
   rw [if_pos rfl]
   simp only [List.map_cons,List.mem_cons]
   constructor
   ·exact .inr
   ·rintro (h | h)
    ·exact .inl h
    ·exact h
  ·rw [if_neg e]
   simp only [List.map_cons,List.mem_cons,Aao x y u r]
   constructor
   ·rintro (h | h | h)
    ·exact .inr (.inl h)
    ·exact .inl h
    ·exact .inr (.inr h)
   ·rintro (h | h | h)
    ·exact .inr (.inl h)
    ·exact .inl h
    ·exact .inr (.inr h)
theorem KND.set {m : List (Int × Bool)} (h : KND m) (x : Int) (u : Bool) : KND (Nx x u m):=by
 induction m with
 | nil=>simp [KND,Nx]
 | cons p r ih =>
  obtain ⟨k,u'⟩:=p
  simp only [KND,List.map_cons,List.nodup_cons] at h
  simp only [Nx]
  by_cases e : k = x
  ·rw [if_pos e]
   exact List.nodup_cons.2 h
  ·rw [if_neg e]
   refine List.nodup_cons.2 ⟨fun hm=>?_,ih h.2⟩
   rcases (Aao x k u r).1 hm with h' | h'
   ·exact e h'
   ·exact h.1 h'
theorem Aan (x y : Int) : ∀ m : List (Int × Bool),y ∈ (Nb x m).map Prod.fst → y ∈ m.map Prod.fst
 | [],h=>h
 | (k,u') :: r,h=>by
  simp only [Nb] at h
  split at h
  ·exact List.mem_cons_of_mem _ h
  ·rcases List.mem_cons.1 h with h | h
   ·exact List.mem_cons.2 (.inl h)
   ·exact List.mem_cons_of_mem _ (Aan x y r h)
theorem KND.del {m : List (Int × Bool)} (h : KND m) (x : Int) : KND (Nb x m):=by
 induction m with
 | nil=>exact h
 | cons p r ih =>
  obtain ⟨k,u'⟩:=p
  simp only [KND,List.map_cons,List.nodup_cons] at h
  simp only [Nb]
  split
  ·exact h.2
  ·exact List.nodup_cons.2 ⟨fun hm=>h.1 (Aan x k r hm),ih h.2⟩
theorem Abe {m : List (Int × Bool)} (h : KND m) (x y : Int) : MV false y (Nb x m) = if y = x then false else MV false y m:=by
 induction m with
 | nil=>simp [Nb,MV]
 | cons p r ih =>
  obtain ⟨k,u'⟩:=p
  simp only [KND,List.map_cons,List.nodup_cons] at h
  simp only [Nb]
  by_cases e : k = x
  ·subst e
   rw [if_pos rfl]
   by_cases e2 : y = k
   ·subst e2
    rw [if_pos rfl]
    exact Zv h.1
   ·rw [if_neg e2]
    simp only [MV]
    rw [if_neg (fun h=>e2 h.symm)]
  ·rw [if_neg e]
   simp only [MV]
   by_cases e2 : k = y
   ·subst e2
    rw [if_pos rfl,if_neg e,if_pos rfl]
   ·rw [if_neg e2,if_neg e2]
    exact ih h.2
structure WL (n : Nat) (m : List (Int × Bool)) (w : List Int) : Prop where
 nd : KND m
 iff : ∀ x,MV false x m = true ↔ x ∈ w
 uniq : w.Nodup
 rng : ∀ x ∈ w,0 ≤ x ∧ x < (n : Int)
theorem WL.nil (n : Nat) : WL n [] []:=⟨List.nodup_nil,fun x=>by simp [MV],List.nodup_nil,fun x h=>by cases h⟩
theorem WL.len {n : Nat} {m : List (Int × Bool)} {w : List Int} (h : WL n m w) : w.length ≤ n:=by
 have h1 : (w.map Int.toNat).Nodup:=by
  refine List.pairwise_map.2 (List.Pairwise.imp_of_mem (fun {a b} ha hb hab e=>hab ?_) h.uniq)
  have:=h.rng a ha
  have:=h.rng b hb
  omega
 have:=h1.length_le_of_subset (l₂:=List.range n) fun x hx=>by
  obtain ⟨y,hy,rfl⟩:=List.mem_map.1 hx
  have:=h.rng y hy
  simp only [List.mem_range]
  omega
 simpa using this
theorem WL.put {n : Nat} {m : List (Int × Bool)} {w : List Int} (h : WL n m w) {x : Int} (hx : x ∉ w) (hr : 0 ≤ x ∧ x < (n : Int)) : WL n (Nx x true m) (w ++ [x]):=by
 refine ⟨h.nd.set x true,fun y=>?_,?_,fun y hy=>?_⟩
 ·rw [Zw]
  by_cases e : y = x
  ·subst e; simp
  ·rw [if_neg e,h.iff]; simp [e]
 ·refine List.nodup_append.2 ⟨h.uniq,by simp,fun a ha b hb=>?_⟩
  simp only [List.mem_singleton] at hb
  subst hb
  exact fun e=>hx (e ▸ ha)
 ·simp only [List.mem_append,List.mem_singleton] at hy
  rcases hy with hy | rfl
  ·exact h.rng y hy
  ·exact hr
theorem WL.take {n : Nat} {m : List (Int × Bool)} {w : List Int} {x : Int} (h : WL n m (w ++ [x])) : WL n (Nb x m) w:=by
 obtain ⟨u1,_,u3⟩:=List.nodup_append.1 h.uniq
 refine ⟨h.nd.del x,fun y=>?_,u1,fun y hy=>h.rng y (List.mem_append_left _ hy)⟩
 rw [Abe h.nd]
 by_cases e : y = x
 ·subst e
  rw [if_pos rfl]
  constructor
  ·intro h; cases h
  ·intro hy; exact absurd rfl (u3 y hy y (by simp))
 ·rw [if_neg e,h.iff]; simp [e]
theorem AcF (s t : List Int) (hs : s.length ≤ 9223372036854775807) : Nn s t = some (decide (s = t)):=by
 unfold Nn
 by_cases hl : s.length = t.length
 ·have : Hs (MA (fun q=>Np s t q) 0) fun b=>b = decide (s = t):=by
   refine Hs.loop (fun q=>∃ k : Nat,q = (k : Int) ∧ k ≤ s.length ∧ s.take k = t.take k) (fun q=>s.length - q.toNat) ⟨0,rfl,Nat.zero_le _,by simp⟩ ?_
   rintro _ ⟨k,rfl,hk,he⟩
   unfold Np
   refine .dec (fun hlt=>?_) fun hge=>.lft (.pure ?_)
   ·have hlt : k < s.length:=Int.ofNat_lt.1 hlt
    have e1 : s[k]? = some s[k]:=List.getElem?_eq_getElem hlt
    have e2 : t[k]? = some (t[k]'(by omega)):=List.getElem?_eq_getElem _
    rw [Qd,e1,Option.bind_some,Qd,e2,Option.bind_some]
    refine .bne (fun hne=>.lft (.pure ?_)) fun hee=>?_
    ·have : s ≠ t:=by rintro rfl; exact hne rfl
     show false = decide (s = t)
     simp [this]
    ·rw [MD (by omega)]
     refine .cnt ⟨⟨k + 1,rfl,hlt,?_⟩,by simp only; omega⟩
     rw [List.take_add_one,List.take_add_one,e1,e2,he,hee]
   ·have hkn : k = s.length:=by omega
    subst hkn
    have : s = t:=by
     have h2 : t.take s.length = t:=List.take_of_length_le (by omega)
     rw [List.take_length,h2] at he
     exact he
    show true = decide (s = t)
    simp [this]
  obtain ⟨r,h1,rfl⟩:=this
  simp only [hl,bne_self_eq_false,cond_false]
  exact h1
 ·have hne : s ≠ t:=fun e=>hl (by rw [e])
  have hb : ((s.length : Int) != (t.length : Int)) = true:=by simp; omega
  rw [hb,cond_true]
  simp [hne]
theorem ZO {l : List (List Int)} {k : Nat} {s : List Int} (hk : k < l.length) {j : Int} (hj : 0 ≤ j) : Mm (l.set k s) j = if j = (k : Int) then s else Mm l j:=by
 unfold Mm
 by_cases e : j = (k : Int)
 ·subst e
  rw [if_pos rfl,Int.toNat_natCast,List.getElem?_set_self hk]
  rfl
 ·rw [if_neg e,List.getElem?_set_ne (by omega)]
theorem ZW {f : LW} (hf : MH f) {l l' : List (List Int)} (hl : MQ f l) (hl' : MQ f l') {k : Nat} (hk : k < f.Code.length) (h : ∀ j ∈ Mt (Md f k) k,Mm l j = Mm l' j) : MF f l k = MF f l' k:=by
 have h1:=NK hf hl hk
 have h2:=NK hf hl' hk
 refine h1.1.1.ext h2.1.1 fun v=>?_
 rw [h1.2,h2.2]
 constructor
 ·rintro ⟨j,hj,hv⟩; exact ⟨j,hj,by rw [← h j hj]; exact hv⟩
 ·rintro ⟨j,hj,hv⟩; exact ⟨j,hj,by rw [h j hj]; exact hv⟩
theorem MQ.row {f : LW} {l : List (List Int)} (h : MQ f l) {k : Nat} (hk : k < f.Code.length) : l[k]? = some (Mm l k) ∧ MM f.Slots.length (Mm l k):=by
 have hkl : k < l.length:=by have:=h.1; omega
 have e : Mm l (k : Int) = l[k]:=by simp [Mm,hkl]
 rw [e]
 exact ⟨List.getElem?_eq_getElem hkl,h.2 _ (List.getElem_mem hkl)⟩
theorem MQ.setRow {f : LW} {l : List (List Int)} (h : MQ f l) {k : Nat} {s : List Int} (hs : MM f.Slots.length s) : MQ f (l.set k s) :=
 ⟨by simpa using h.1,fun t ht=>(List.mem_or_eq_of_mem_set ht).elim (h.2 t) fun e=>e ▸ hs⟩
theorem Pw {f : LW} {l : List (List Int)} {k : Nat} (hk : k < f.Code.length) : (MU f l)[k]? = some (MF f l k):=by simp [MU,hk]
structure Up (f : LW) (l : List (List Int)) (w : List Int) : Prop where
 ok : MQ f l
 le : LE l (MU f l)
 least : ∀ b,MQ f b → LE (MU f b) b → LE l b
 done : ∀ k : Nat,k < f.Code.length → (k : Int) ∉ w → MF f l k = Mm l k
theorem Up.set {f : LW} (hf : MH f) {l : List (List Int)} {w w' : List Int} {k : Nat} (h : Up f l (w ++ [(k : Int)])) (hk : k < f.Code.length) (hw : ∀ x ∈ w,x ∈ w') (hb : ∀ i : Nat,i < f.Code.length → (k : Int) ∈ Mt (Md f i) i → (i : Int) ∈ w') :
  Up f (l.set k (MF f l k)) w' ∧ LE l (l.set k (MF f l k)):=by
 have hs:=NK hf h.ok hk
 have hok:=h.ok.setRow (k:=k) hs.1
 have hlen : k < l.length:=by have:=h.ok.1; omega
 obtain ⟨g1,g2⟩:=h.ok.row hk
 have hsub : ∀ v ∈ Mm l k,v ∈ MF f l k:=h.le k _ _ g1 (Pw hk)
 have hLE : LE l (l.set k (MF f l k)):=by
  intro q s t hq ht v hv
  by_cases e : q = k
  ·subst e
   rw [List.getElem?_set_self hlen] at ht
   cases ht
   rw [g1] at hq; cases hq
   exact hsub v hv
  ·rw [List.getElem?_set_ne (fun h=>e h.symm),hq] at ht
   cases ht; exact hv
 have hmono:=Wz hf h.ok hok hLE
 refine ⟨⟨hok,fun q s t hq ht v hv=>?_,fun b hb1 hb2=>?_,fun q hq hqw=>?_⟩,hLE⟩
 ·have hql : q < f.Code.length:=by have:=(List.getElem?_eq_some_iff.1 hq).1; have:=hok.1; omega
  by_cases e : q = k
  ·subst e
   rw [List.getElem?_set_self hlen] at hq
   cases hq
   exact hmono q _ t (Pw hql) ht v hv
  ·rw [List.getElem?_set_ne (fun h=>e h.symm)] at hq
   exact hmono q _ t (Pw hql) ht v (h.le q s _ hq (Pw hql) v hv)
 ·have hlb:=h.least b hb1 hb2
  have hsb:=Wz hf h.ok hb1 hlb
  intro q s t hq ht v hv
  by_cases e : q = k
  ·subst e
   rw [List.getElem?_set_self hlen] at hq
   cases hq
   exact hb2 q _ t (Pw hk) ht v (hsb q _ _ (Pw hk) (Pw hk) v hv)
  ·rw [List.getElem?_set_ne (fun h=>e h.symm)] at hq
   exact hlb q s t hq ht v hv
 ·have hkn : (k : Int) ∉ Mt (Md f q) q:=fun hm=>hqw (hb q hq hm)
  have hq0 : f.Code[q]? = some (Md f q):=by simp [Md,hq]
  have e1 : MF f (l.set k (MF f l k)) q = MF f l q:=by
   refine ZW hf hok h.ok hq fun j hj=>?_
   rw [ZO hlen (hf.next q _ hq0 j hj).1,if_neg (fun e : j = (k : Int)=>hkn (e ▸ hj))]
  rw [e1,ZO hlen (by omega)]
  by_cases e : (q : Int) = (k : Int)
  ·rw [if_pos e]
   have : q = k:=by omega
   rw [this]
  ·rw [if_neg e]
   refine h.done q hq fun hm=>?_
   simp only [List.mem_append,List.mem_singleton] at hm
   rcases hm with hm | hm
   ·exact hqw (hw _ hm)
   ·exact e hm
theorem Up.same {f : LW} {l : List (List Int)} {w : List Int} {k : Nat} (h : Up f l (w ++ [(k : Int)])) (he : MF f l k = Mm l k) : Up f l w:=by
 refine ⟨h.ok,h.le,h.least,fun q hq hqw=>?_⟩
 by_cases e : q = k
 ·subst e; exact he
 ·refine h.done q hq fun hm=>?_
  simp only [List.mem_append,List.mem_singleton] at hm
  rcases hm with hm | hm
  ·exact hqw hm
  ·omega
theorem Up.end_ {f : LW} {l : List (List Int)} (h : Up f l []) : Vx f l:=by
 refine ⟨h.ok,?_,h.least⟩
 apply List.ext_getElem?
 intro k
 by_cases hk : k < f.Code.length
 ·rw [Pw hk,(h.ok.row hk).1,h.done k hk (by simp)]
 ·rw [List.getElem?_eq_none (by simp [MU]; omega),List.getElem?_eq_none (by have:=h.ok.1; omega)]
theorem Abv {f : LW} (hf : MH f) : Hs (OL f) fun l=>Vx f l.Out:=by
 have hlen:=hf.len
 have hlen':=hf.len'
 have hsl:=hf.slots
 unfold OL
 refine .chk (by omega) ?_
 rw [Abd hf,Option.bind_some]
 refine Hs.loop (fun s=>∃ k : Nat,s.2.2 = (k : Int) ∧ k ≤ f.Code.length ∧ WL f.Code.length s.1 s.2.1 ∧ ∀ x,x ∈ s.2.1 ↔ 0 ≤ x ∧ x < (k : Int)) (fun s=>f.Code.length - s.2.2.toNat) ⟨0,rfl,Nat.zero_le _,WL.nil _,fun x=>⟨fun h=>(by cases h),fun h=>(by omega)⟩⟩ ?_
 rintro ⟨m,w,_⟩ ⟨k,rfl,hk,hw,hwk⟩
 simp only at hw hwk
 unfold PM
 dsimp only
 refine .dec (fun hlt=>?_) fun hge=>.lft ?_
 ·have hlt : k < f.Code.length:=Int.ofNat_lt.1 hlt
  have hn : MV false (k : Int) m = false:=by
   cases h : MV false (k : Int) m
   ·rfl
   ·have:=(hwk _).1 ((hw.iff _).1 h); omega
  have hwl:=hw.len
  have hnw : (k : Int) ∉ w:=fun h=>by have:=(hwk _).1 h; omega
  rw [hn,Bool.not_false,cond_true]
  refine .chk (by simp only [List.length_singleton]; omega) ?_
  unfold OB
  rw [MD (by omega)]
  exact .cnt ⟨⟨k + 1,rfl,hlt,hw.put hnw ⟨by omega,by omega⟩,fun x=>by simp only [List.mem_append,List.mem_singleton,hwk]; omega⟩,by simp only; omega⟩
 have hkn : k = f.Code.length:=by
  have : ¬ k < f.Code.length:=fun h=>hge (Int.ofNat_lt.2 h)
  omega
 subst hkn
 have h0 : MQ f (List.replicate (f.Code.length : Int).toNat ([] : List Int)):=⟨by simp,fun s hs=>by rw [List.mem_replicate] at hs; rw [hs.2]; exact MM.nil _⟩
 have hnil : ∀ (q : Nat) s,(List.replicate (f.Code.length : Int).toNat ([] : List Int))[q]? = some s → s = []:=fun q s hq=>by
  have:=List.mem_of_getElem? hq
  rw [List.mem_replicate] at this
  exact this.2
 refine Hs.loop (fun s=>Up f s.1 s.2.2 ∧ WL f.Code.length s.2.1 s.2.2) (fun s=>(512 * f.Code.length - (s.1.map List.length).sum) * (f.Code.length + 1) + s.2.2.length)
  ⟨⟨h0,fun q s t hq _ v hv=>(by have:=hnil q s hq; subst this; cases hv),fun b _ _ q s t hq _ v hv=>(by have:=hnil q s hq; subst this; cases hv),fun q hq hqw=>absurd ((hwk _).2 ⟨by omega,by omega⟩) hqw⟩,hw⟩ ?_
 show ∀ s,_ → Hs _ (Rnd _ _ s fun r : Mg=>Vx f r.Out)
 clear h0 hnil hwk hw hge hk w m
 rintro ⟨l,m,w⟩ ⟨hu,hw⟩
 simp only at hu hw
 unfold PN
 dsimp only
 refine .dec (fun hpos=>?_) fun hz=>.lft (.pure ?_)
 ·have hpos : 0 < w.length:=by omega
  have hwl:=hw.len
  have ew : IntKind.i64.wrap ((w.length : Int) - 1) = ((w.length - 1 : Nat) : Int):=by rw [wrap64 (by omega) (by omega)]; omega
  rw [ew]
  have hx : w[w.length - 1]? = some (w[w.length - 1]'(by omega)):=List.getElem?_eq_getElem _
  generalize hxx : w[w.length - 1]'(by omega) = x at hx
  have hxr:=hw.rng x (List.mem_of_getElem? hx)
  obtain ⟨k,rfl⟩ : ∃ k : Nat,x = (k : Int):=⟨x.toNat,by omega⟩
  have hk : k < f.Code.length:=by omega
  have hcode : f.Code[k]? = some (Md f k):=by simp [Md,hk]
  have hnx:=hf.next k _ hcode
  have hsplit : w = w.take (w.length - 1) ++ [(k : Int)]:=by
   have:=List.take_add_one (l:=w) (i:=w.length - 1)
   rw [hx,show w.length - 1 + 1 = w.length by omega,List.take_length] at this
   exact this
  generalize hw0 : w.take (w.length - 1) = w0 at *
  have hw0l : w0.length + 1 = w.length:=by rw [hsplit]; simp
  rw [hsplit] at hu hw
  have hwt:=hw.take
  refine .chk (by omega) ?_
  simp only [Int.toNat_natCast]
  rw [hx,Option.bind_some]
  refine .chk (by omega) ?_
  rw [Zm hcode (by omega),Option.bind_some]
  have hnl:=Ss (Md f k) k
  refine Hs.loop (fun s=>∃ i : Nat,s.1 = (i : Int) ∧ i ≤ (Mt (Md f k) k).length ∧ s.2 = ((Mt (Md f k) k).take i).foldl (fun o j=>Ng o (inN (Md f j) (Mm l j))) []) (fun s=>(Mt (Md f k) k).length - s.1.toNat) ⟨0,rfl,Nat.zero_le _,rfl⟩ ?_
  rintro ⟨_,s⟩ ⟨i,rfl,hi,hs⟩
  simp only at hs
  unfold PO
  dsimp only
  refine .dec (fun hlt=>?_) fun hge=>.lft ?_
  ·have hlt : i < (Mt (Md f k) k).length:=Int.ofNat_lt.1 hlt
   have hg : (Mt (Md f k) k)[i]? = some ((Mt (Md f k) k)[i]):=List.getElem?_eq_getElem hlt
   generalize (Mt (Md f k) k)[i] = j at hg
   have hj:=hnx j (List.mem_of_getElem? hg)
   have hjc : f.Code[j.toNat]? = some (Md f j):=by simp [Md,show j.toNat < f.Code.length by omega]
   obtain ⟨o1,o2⟩:=hu.ok.row (k:=j.toNat) (by omega)
   rw [Int.toNat_of_nonneg hj.1] at o1 o2
   have hll:=hu.ok.1
   have hf1:=XB hf hu.ok (js:=(Mt (Md f k) k).take i) (o:=[]) (fun y hy=>hnx y (List.mem_of_mem_take hy)) (MM.nil _)
   have huse:=hf.uses _ (List.mem_of_getElem? hjc)
   have hin:=Qc hf (List.mem_of_getElem? hjc) o2
   have hinl:=hin.1.1.length_le
   refine .chk (by omega) ?_
   rw [Int.toNat_natCast,hg,Option.bind_some,RI _ hj.1,hjc,Option.bind_some]
   refine .chk (by omega) ?_
   rw [o1,Option.bind_some,Aak o2.1 (fun v hv=>by have:=huse v hv; omega),Option.bind_some,hs,Uo hf1.1.1 (fun v hv=>hin.1.1.2 v hv) (by omega),Option.bind_some,MD (by omega)]
   refine .cnt ⟨⟨i + 1,rfl,hlt,?_⟩,by simp only; omega⟩
   rw [List.take_add_one,hg]
   simp [List.foldl_append]
  ·have hil : i = (Mt (Md f k) k).length:=by
    have : ¬ i < (Mt (Md f k) k).length:=fun h=>hge (Int.ofNat_lt.2 h)
    omega
   subst hil
   rw [List.take_length] at hs
   have hs : s = MF f l k:=hs
   subst hs
   obtain ⟨g1,g2⟩:=hu.ok.row hk
   have hsr:=NK hf hu.ok hk
   have hsrl:=hsr.1.1.length_le
   have hll:=hu.ok.1
   unfold PR
   refine .chk (by omega) ?_
   rw [Int.toNat_natCast,g1,Option.bind_some,AcF _ _ (by omega),Option.bind_some,ew]
   simp only [Int.toNat_natCast,hw0]
   refine .dec (fun heq=>?_) fun hne=>?_
   ·exact .cnt ⟨⟨hu.same heq,hwt⟩,by simp only; omega⟩
   ·refine .chk (by omega) ?_
    rw [Option.bind_some]
    obtain ⟨row,hrow,hmem⟩:=Aae hf hk f.Code.length (Nat.le_refl _)
    rw [Qd,hrow,Option.bind_some]
    have hrr : ∀ y ∈ row,0 ≤ y ∧ y < (f.Code.length : Int):=fun y hy=>by
     obtain ⟨i,h1,rfl,_⟩:=(hmem y).1 hy
     omega
    have hrl : row.length ≤ 2 * f.Code.length:=Xw f _ row (List.mem_of_getElem? hrow)
    have hsum:=Aaz (a:=l) (b:=l.set k (MF f l k)) (by simp) (fun s hs=>(hu.ok.2 s hs).1) (fun s hs=>((hu.ok.setRow hsr.1).2 s hs).1)
    refine Hs.loop (fun s=>∃ i : Nat,s.2.2 = (i : Int) ∧ i ≤ row.length ∧ WL f.Code.length s.1 s.2.1 ∧ (∀ x ∈ w0,x ∈ s.2.1) ∧ ∀ x ∈ row.take i,x ∈ s.2.1) (fun s=>row.length - s.2.2.toNat) ⟨0,rfl,Nat.zero_le _,hwt,fun _ h=>h,fun x hx=>by simp at hx⟩ ?_
    rintro ⟨m2,w2,_⟩ ⟨i,rfl,hi2,hw2,hsub,hin⟩
    simp only at hw2 hsub hin
    unfold PQ
    dsimp only
    refine .dec (fun hlt=>?_) fun hge2=>.lft ?_
    ·have hlt : i < row.length:=Int.ofNat_lt.1 hlt
     have hg : row[i]? = some row[i]:=List.getElem?_eq_getElem hlt
     generalize row[i] = y at hg
     have hyr:=hrr y (List.mem_of_getElem? hg)
     rw [Qd,hg,Option.bind_some]
     have hw2l:=hw2.len
     have w1:=MD (show i < 9223372036854775807 by omega)
     cases hgy : MV false y m2 with
     | true =>
      rw [Bool.not_true,cond_false]
      unfold NT
      rw [w1]
      refine .cnt ⟨⟨i + 1,rfl,hlt,hw2,hsub,fun x hx=>?_⟩,by simp only; omega⟩
      rw [List.take_add_one,hg] at hx
      simp only [Option.toList_some,List.mem_append,List.mem_singleton] at hx
      rcases hx with hx | rfl
      ·exact hin x hx
      ·exact (hw2.iff _).1 hgy
     | false =>
      have hny : y ∉ w2:=fun h=>by rw [(hw2.iff _).2 h] at hgy; cases hgy
      rw [Bool.not_false,cond_true]
      refine .chk (by simp only [List.length_singleton]; omega) ?_
      unfold NT
      rw [w1]
      refine .cnt ⟨⟨i + 1,rfl,hlt,hw2.put hny hyr,fun x hx=>List.mem_append_left _ (hsub x hx),fun x hx=>?_⟩,by simp only; omega⟩
      rw [List.take_add_one,hg] at hx
      simp only [Option.toList_some,List.mem_append,List.mem_singleton] at hx ⊢
      rcases hx with hx | rfl
      ·exact .inl (hin x hx)
      ·exact .inr rfl
    ·have hil : i = row.length:=by
      have : ¬ i < row.length:=fun h=>hge2 (Int.ofNat_lt.2 h)
      omega
     subst hil
     rw [List.take_length] at hin
     have hup:=hu.set hf hk hsub fun q hq hm=>hin _ ((hmem _).2 ⟨q,hq,rfl,hm⟩)
     obtain ⟨s1,s2⟩:=hsum hup.2
     have hb:=Yz (a:=l.set k (MF f l k)) fun s hs=>(hup.1.ok.2 s hs).1
     have hw2l:=hw2.len
     have hlt : (l.map List.length).sum < ((l.set k (MF f l k)).map List.length).sum:=by
      refine Nat.lt_of_le_of_ne s1 fun e=>hne ?_
      have:=s2 e
      have h1 : (l.set k (MF f l k))[k]? = some (MF f l k):=List.getElem?_set_self (by omega)
      rw [← this,g1] at h1
      exact (Option.some.inj h1).symm
     refine .cnt ⟨⟨hup.1,hw2⟩,?_⟩
     simp only [List.length_set,hll,Int.toNat_natCast] at hb ⊢
     generalize ((l.set k (MF f l k)).map List.length).sum = A at *
     generalize (l.map List.length).sum = B at *
     have hm1 : (512 * f.Code.length - A + 1) * (f.Code.length + 1) ≤ (512 * f.Code.length - B) * (f.Code.length + 1):=Nat.mul_le_mul_right _ (by omega)
     rw [Nat.add_mul] at hm1
     omega
 ·have hz : w.length = 0:=by omega
  rw [List.eq_nil_of_length_eq_zero hz] at hu
  exact hu.end_
end Go.Proofs.YtcelninhkmhjkaaDoor
namespace Go.Proofs.YtcelninhkmhjkaaDoor
open Go Go.Dw Go.Proofs
attribute [local simp] MY
def Vu (f : LW) (l : List (List Int)) (k : Int) : List Int :=
 (Mt (Md f k) k).foldl (fun o j=>Ng o ((inN (Md f j) (Mm l j)).filter fun v=>!decide (v ∈ Mm l k))) []
theorem MQ.at {f : LW} {l : List (List Int)} (h : MQ f l) {j : Int} (h0 : 0 ≤ j) (h1 : j < f.Code.length) : l[j.toNat]? = some (Mm l j) ∧ MM f.Slots.length (Mm l j):=by
 have hl : j.toNat < l.length:=by have:=h.1; omega
 have : l[j.toNat]? = some (Mm l j):=by simp [Mm,hl]
 exact ⟨this,h.2 _ (List.mem_of_getElem? this)⟩
theorem MH.at {f : LW} (_h : MH f) {j : Int} (h0 : 0 ≤ j) (h1 : j < f.Code.length) : f.Code[j.toNat]? = some (Md f j) ∧ Md f j ∈ f.Code:=by
 have : f.Code[j.toNat]? = some (Md f j):=by simp [Md,show j.toNat < f.Code.length by omega]
 exact ⟨this,List.mem_of_getElem? this⟩
theorem Abw {f : LW} (hf : MH f) {l : List (List Int)} (hl : MQ f l) {k j : Int} (_hk : 0 ≤ k ∧ k < f.Code.length) (hj : 0 ≤ j ∧ j < f.Code.length) {o : List Int} (ho : MM f.Slots.length o) :
  MM f.Slots.length (Ng o ((inN (Md f j) (Mm l j)).filter fun v=>!decide (v ∈ Mm l k))) ∧ ∀ v,v ∈ Ng o ((inN (Md f j) (Mm l j)).filter fun v=>!decide (v ∈ Mm l k)) ↔ v ∈ o ∨ (v ∈ inN (Md f j) (Mm l j) ∧ v ∉ Mm l k):=by
 have hsl:=hf.slots
 obtain ⟨g1,g2⟩:=Qc hf (hf.at hj.1 hj.2).2 (hl.at hj.1 hj.2).2
 obtain ⟨g3,g4⟩:=QA (n:=f.Slots.length) (by omega) (b:=(inN (Md f j) (Mm l j)).filter fun v=>!decide (v ∈ Mm l k)) ho fun x hx=>⟨(g1.1.2 x (List.mem_filter.1 hx).1).1,g1.2 x (List.mem_filter.1 hx).1⟩
 exact ⟨g3,fun v=>by rw [g4]; simp [List.mem_filter]⟩
theorem ZN {f : LW} (hf : MH f) {l : List (List Int)} (hl : MQ f l) {k : Int} (hk : 0 ≤ k ∧ k < f.Code.length) : ∀ {js : List Int} {o : List Int},(∀ j ∈ js,0 ≤ j ∧ j < f.Code.length) → MM f.Slots.length o →
  MM f.Slots.length (js.foldl (fun o j=>Ng o ((inN (Md f j) (Mm l j)).filter fun v=>!decide (v ∈ Mm l k))) o) ∧ ∀ v,v ∈ js.foldl (fun o j=>Ng o ((inN (Md f j) (Mm l j)).filter fun v=>!decide (v ∈ Mm l k))) o ↔ v ∈ o ∨ ∃ j ∈ js,v ∈ inN (Md f j) (Mm l j) ∧ v ∉ Mm l k
 | [],o,_,ho=>⟨ho,fun v=>by simp⟩
 | j :: js,o,hj,ho=>by
  obtain ⟨h1,h2⟩:=Abw hf hl hk (hj j (List.mem_cons_self ..)) ho
  obtain ⟨h5,h6⟩:=ZN hf hl hk (fun q hq=>hj q (List.mem_cons_of_mem _ hq)) h1
  refine ⟨h5,fun v=>?_⟩
  simp only [List.foldl_cons]
  rw [h6,h2]
  simp only [List.mem_cons,exists_eq_or_imp,or_assoc]
theorem XG {f : LW} (hf : MH f) {l : List (List Int)} (hl : MQ f l) {k : Nat} (hk : k < f.Code.length) : MM f.Slots.length (Vu f l k) ∧ ∀ v,v ∈ Vu f l k ↔ ∃ j ∈ Mt (Md f k) k,v ∈ inN (Md f j) (Mm l j) ∧ v ∉ Mm l k:=by
 have hx : f.Code[k]? = some (Md f k):=by simp [Md,hk]
 obtain ⟨h1,h2⟩:=ZN hf hl (k:=(k : Int)) ⟨by omega,by omega⟩ (hf.next k _ hx) (MM.nil _)
 exact ⟨h1,fun v=>by unfold Vu; rw [h2]; simp⟩
def Abi (f : LW) (l : List (List Int)) (r : Int × Int × Bool) : Prop :=
 (MQ f l ∧ ∃ (k : Nat) (v : Int),k < f.Code.length ∧ (∀ j : Nat,j < k → Vu f l j = []) ∧ (Vu f l k)[0]? = some v ∧ r = ((k : Int),v,true)) ∨
 ((MQ f l → ∀ j : Nat,j < f.Code.length → Vu f l j = []) ∧ r = (0,0,false))
def Acc (f : LW) (l : List (List Int)) : Prop:=MQ f l ∧ ∀ j : Nat,j < f.Code.length → Vu f l j = []
theorem Abi.acc {f : LW} {l : List (List Int)} {r : Int × Int × Bool} (h : Abi f l r) (hl : MQ f l) : r.2.2 = false ↔ Acc f l:=by
 rcases h with ⟨h0,i,v,h1,h2,h3,rfl⟩ | ⟨h1,rfl⟩
 ·exact ⟨fun h=>(by cases h),fun h=>by rw [h.2 i h1] at h3; cases h3⟩
 ·exact ⟨fun _=>⟨hl,h1 hl⟩,fun _=>rfl⟩
def AcX (l : List (List Int)) : Prop:=l.length ≤ maxLen ∧ ∀ s ∈ l,s.length ≤ maxLen
theorem MQ.len {f : LW} (hf : MH f) {l : List (List Int)} (h : MQ f l) : AcX l:=by
 have hm : (100000 : Nat) ≤ maxLen:=by decide
 have:=hf.len'; have:=h.1
 exact ⟨by omega,fun s hs=>by have:=(h.2 s hs).1.length_le; omega⟩
theorem Adf {f : LW} (hf : MH f) {l : List (List Int)} (hl : MQ f l) : Acc f l ↔ LE (MU f l) l:=by
 constructor
 ·rintro ⟨_,h⟩ k s t hs ht v hv
  have hk : k < f.Code.length:=by have:=(List.getElem?_eq_some_iff.1 ht).1; have:=hl.1; omega
  have e1 : s = MF f l k:=by simp [MU,hk] at hs; exact hs.symm
  have e2 : t = Mm l k:=by simp [Mm,ht]
  subst e1 e2
  rw [(NK hf hl hk).2] at hv
  obtain ⟨j,hj,hv⟩:=hv
  refine Classical.byContradiction fun hn=>?_
  have : v ∈ Vu f l k:=((XG hf hl hk).2 v).2 ⟨j,hj,hv,hn⟩
  rw [h k hk] at this; cases this
 ·intro h
  refine ⟨hl,fun k hk=>?_⟩
  refine List.eq_nil_iff_forall_not_mem.2 fun v hv=>?_
  obtain ⟨j,hj,h1,h2⟩:=((XG hf hl hk).2 v).1 hv
  refine h2 (h k (MF f l k) (Mm l k) (by simp [MU,hk]) ?_ v (((NK hf hl hk).2 v).2 ⟨j,hj,h1⟩))
  have:=(hl.at (j:=(k : Int)) (by omega) (by omega)).1
  simpa using this
theorem Acc.mem {f : LW} (hf : MH f) {l : List (List Int)} (h : Acc f l) {k : Nat} (hk : k < f.Code.length) {j v : Int} (hj : j ∈ Mt (Md f k) k) (hv : v ∈ inN (Md f j) (Mm l j)) : v ∈ Mm l k:=by
 refine Classical.byContradiction fun hn=>?_
 have : v ∈ Vu f l k:=((XG hf h.1 hk).2 v).2 ⟨j,hj,hv,hn⟩
 rw [h.2 k hk] at this; cases this
theorem Vx.acc {f : LW} (hf : MH f) {l : List (List Int)} (h : Vx f l) : Acc f l:=by
 rw [Adf hf h.ok,h.fix]
 intro k s t hs ht v hv
 rw [hs] at ht; cases ht; exact hv
end Go.Proofs.YtcelninhkmhjkaaDoor
namespace Go.Proofs.YtcelninhkmhjkaaDoor
open Go Go.Dw Go.Proofs
def I64 (v : Int) : Prop:=-9223372036854775808 ≤ v ∧ v ≤ 9223372036854775807
def Abk (l : List (List Int)) : Prop:=∀ s ∈ l,s.length ≤ 512 ∧ ∀ v ∈ s,I64 v
def Aac (l : List (List Int)) : Prop:=∀ s ∈ l,MK s
theorem Aac.set {l : List (List Int)} (h : Aac l) {k : Nat} {s : List Int} (hs : MK s) : Aac (l.set k s):=by
 intro t ht
 rcases List.mem_or_eq_of_mem_set ht with h1 | rfl
 ·exact h t h1
 ·exact hs
theorem MK.add {s : List Int} (h : MK s) (n : Int) : MK (Ou n s):=by
 unfold Ou
 split
 ·exact h.Pe (by assumption)
 ·exact h
end Go.Proofs.YtcelninhkmhjkaaDoor
namespace Go.Proofs.YtcelninhkmhjkaaDoor
open Go Go.Dw Go.Proofs
theorem Abk.len {f : LW} (hf : MH f) {l : List (List Int)} (h1 : l.length ≤ f.Code.length) (h2 : Abk l) : AcX l:=by
 have hm : (100000 : Nat) ≤ maxLen:=by decide
 have:=hf.len'
 exact ⟨by omega,fun s hs=>by have:=(h2 s hs).1; omega⟩
theorem AdY {f : LW} (hf : MH f) {l : List (List Int)} (hl : MQ f l) (h : ∀ k : Nat,k < f.Code.length → ∀ j ∈ Mt (Md f k) k,∀ v ∈ inN (Md f j) (Mm l j),v ∈ Mm l k) : Acc f l:=by
 refine ⟨hl,fun k hk=>List.eq_nil_iff_forall_not_mem.2 fun v hv=>?_⟩
 obtain ⟨j,hj,h1,h2⟩:=((XG hf hl hk).2 v).1 hv
 exact h2 (h k hk j hj v h1)
theorem AdK {f : LW} (hf : MH f) {k : Nat} (hk : k < f.Code.length) {j : Int} (hj : j ∈ Mt (Md f k) k) : 0 ≤ j ∧ j < f.Code.length :=
 hf.next k _ (by simp [Md,hk]) j hj
theorem Aby {l : List (List Int)} {g : List Int → List Int} {j : Int} (h1 : j.toNat < l.length) : Mm (l.map g) j = g (Mm l j):=by
 simp [Mm,h1]
theorem Ade {f : LW} (hf : MH f) {l : List (List Int)} (h : Acc f l) {u : Int} (hu : 0 ≤ u ∧ u < f.Slots.length) : Acc f (l.map (Ou u)):=by
 have hsl:=hf.slots
 have hl : MQ f (l.map (Ou u)):=by
  refine ⟨by simpa using h.1.1,fun s hs=>?_⟩
  obtain ⟨t,ht,rfl⟩:=List.mem_map.1 hs
  exact (MM.add (h.1.2 t ht) hu (by omega)).1
 have mem : ∀ s,MM f.Slots.length s → ∀ v,v ∈ Ou u s ↔ v = u ∨ v ∈ s:=fun s hs=>(MM.AdZ (n:=f.Slots.length) hs hu (by omega)).2.2
 refine AdY hf hl fun k hk j hj v hv=>?_
 have hjm:=AdK hf hk hj
 have hll:=h.1.1
 obtain ⟨o1,o2⟩:=h.1.at hjm.1 hjm.2
 obtain ⟨q1,q2⟩:=h.1.at (j:=(k : Int)) (by omega) (by omega)
 obtain ⟨p1,p2⟩:=hl.at hjm.1 hjm.2
 rw [Aby (by omega)] at hv p2 ⊢
 rw [(Qc hf (hf.at hjm.1 hjm.2).2 p2).2,mem _ o2] at hv
 rw [mem _ q2]
 by_cases e : v = u
 ·exact .inl e
 ·refine .inr (h.mem hf hk hj ?_)
  rw [(Qc hf (hf.at hjm.1 hjm.2).2 o2).2]
  rcases hv with ⟨h1,h2⟩ | h1
  ·rcases h1 with h1 | h1
   ·exact (e h1).elim
   ·exact .inl ⟨h1,h2⟩
  ·exact .inr h1
def Sr (u : Int) (l : List (List Int)) (k : Nat) : List (List Int):=(l.take k).map (Ou u) ++ l.drop k
theorem AaQ (u : Int) (l : List (List Int)) : Sr u l 0 = l:=by simp [Sr]
theorem Abl (u : Int) (l : List (List Int)) : Sr u l l.length = l.map (Ou u):=by simp [Sr]
theorem Aad (u : Int) (l : List (List Int)) {k : Nat} (hk : k ≤ l.length) : (Sr u l k).length = l.length:=by simp [Sr]; omega
theorem Abm {u : Int} {l : List (List Int)} {k : Nat} (hk : k < l.length) : (Sr u l k)[k]? = some l[k]:=by
 unfold Sr
 rw [List.getElem?_append_right (by simp; omega)]
 simp [show min k l.length = k by omega,hk]
theorem Abn {u : Int} {l : List (List Int)} {k : Nat} (hk : k < l.length) : (Sr u l k).set k (Ou u l[k]) = Sr u l (k + 1):=by
 unfold Sr
 rw [List.set_append_right _ _ (by simp; omega)]
 have e1 : k - ((l.take k).map (Ou u)).length = 0:=by simp; omega
 rw [e1,List.drop_eq_getElem_cons hk,List.set_cons_zero,List.take_succ_eq_append_getElem hk,List.map_append,List.append_assoc]
 rfl
end Go.Proofs.YtcelninhkmhjkaaDoor
namespace Go.Proofs.YtcelninhkmhjkaaDoor
open Go Go.Dw Go.Proofs
theorem AcK {c : LR} (h : okC c) {f : LW} (hf : MH f) : Hs (NW c f) fun p=>okC p.2 ∧ Acc f p.1.Out:=by
 have hlen:=hf.len
 have hlen':=hf.len'
 have hsl:=hf.slots
 unfold NW
 refine (AcT hf).bind fun l hl=>.chk (by have:=hl.ok.1; simp; omega) ((Mz h (by omega) (by omega)).bind fun r hr=>?_)
 refine Hs.loop (fun s=>okC ⟨s.1,s.2.1⟩ ∧ Acc f s.2.2.1 ∧ 0 ≤ s.2.2.2 ∧ s.2.2.2 < 3) (fun s=>s.2.2.2.toNat) ⟨hr.1,by simpa using hl.acc hf,hr.2⟩ ?_
 rintro ⟨l,a,x,n⟩ ⟨hc,hx,hn0,hn1⟩
 simp only at hc hx hn0 hn1
 have w : IntKind.i64.wrap (n - 1) = n - 1:=wrap64 (by omega) (by omega)
 unfold OU
 refine .dec (fun hlt=>.dec (fun hsl0=>?_) fun _=>.lft (.pure ⟨hc,hx⟩)) fun _=>.lft (.pure ⟨hc,hx⟩)
 have hlt : 0 < n:=hlt
 unfold OW
 refine (Mz hc (by omega) (by omega)).bind fun u hu=>?_
 have hxl:=hx.1.1
 refine Hs.loop (fun s=>∃ k : Nat,s.2 = (k : Int) ∧ k ≤ x.length ∧ s.1 = Sr u.1 x k) (fun s=>x.length - s.2.toNat) ⟨0,rfl,Nat.zero_le _,(AaQ _ _).symm⟩ ?_
 rintro ⟨y,i⟩ ⟨k,hi,hk,hy⟩
 simp only at hi hy
 subst hi hy
 have hyl:=Aad u.1 x hk
 unfold OV
 refine .dec (fun hlt=>?_) fun hge=>?_
 ·have hlt : k < x.length:=by simp only at hlt; omega
  refine .chk (by omega) ?_
  have hs:=hx.1.2 _ (List.getElem_mem hlt)
  rw [Int.toNat_natCast,Abm hlt,Option.bind_some,add_eq _ _ (by have:=hs.1.length_le; omega),Option.bind_some]
  refine .chk (by omega) ?_
  rw [Option.bind_some,Abn hlt,MD (by omega)]
  exact .cnt ⟨⟨k + 1,rfl,hlt,rfl⟩,by simp only; omega⟩
 ·obtain rfl : k = x.length:=by simp only at hge; omega
  rw [Abl]
  unfold OX
  exact .lft (.cnt ⟨⟨hu.1,Ade hf hx hu.2,by simp only [w]; omega,by simp only [w]; omega⟩,by simp only [w]; omega⟩)
end Go.Proofs.YtcelninhkmhjkaaDoor
namespace Go.Proofs.YtcelninhkmhjkaaDoor
open Go Go.Dw Go.Proofs
theorem Abg (codes : List Int) (hc : qL (Oi .u8) codes) : Hs (QH codes) fun p=>okC p.2.2 ∧ (∃ ps i,SY ps i 16 p.1) ∧ Acc p.1 p.2.1.Out:=by
 unfold QH
 obtain ⟨c,e1,hcok⟩:=AfJ codes 250 hc (by omega) (by omega)
 rw [e1,Option.bind_some]
 refine (Abf hcok (by omega) (by omega) (by omega) (by omega)).bind fun p hp=>?_
 obtain ⟨ps,hps,hz,hp1,hp2,hfl,hall⟩:=hp.2
 refine (Mz hp.1 (by omega) (by omega)).bind fun k hk=>?_
 refine (Hs.ix hk.2.1 hk.2.2 fun f hf=>hall _ f hf).bind fun f hf=>?_
 exact (AcK hk.1 (hf.AfH (by omega))).bind fun l hl=>.pure ⟨hl.1,⟨_,_,hf⟩,hl.2⟩
theorem LE.refl (a : List (List Int)) : LE a a:=fun k s t hs ht v hv=>by rw [hs] at ht; cases ht; exact hv
abbrev aw6 : LW:=LW.mk 0 ([(Mv.mk 8 8)] : List Mv) ([(LS.mk 16 0 0 0 0),(LS.mk 15 0 0 0 0),(LS.mk 23 0 0 0 0)] : List LS)
theorem Zi : MH aw6:=by
 refine ⟨by simp,by simp,by simp,fun k x hx j hj=>?_,fun x hx v hv=>?_⟩
 ·match k,hx with
  | 0,hx=>simp at hx; subst hx; simp [Mt] at hj; subst hj; simp
  | 1,hx=>simp at hx; subst hx; simp [Mt] at hj; subst hj; simp
  | 2,hx=>simp at hx; subst hx; simp [Mt] at hj
  | n + 3,hx=>simp at hx
 ·simp at hx
  rcases hx with rfl | rfl | rfl <;> simp [Nr] at hv <;> subst hv <;> simp
theorem Aea : MQ aw6 [[0],[],[]]:=by
 refine ⟨rfl,fun s hs=>?_⟩
 simp at hs
 rcases hs with rfl | rfl
 ·exact ⟨⟨List.pairwise_singleton _ _,fun x hx=>by simp at hx; omega⟩,fun x hx=>by simp at hx; subst hx; simp⟩
 ·exact MM.nil _
theorem Adg : MU aw6 [[0],[],[]] = [[0],[],[]]:=by decide
theorem Adh : QG = some true:=by
 obtain ⟨r,h1,h2⟩:=Abv Zi
 have hle:=h2.least _ Aea (by rw [Adg]; exact LE.refl _)
 obtain ⟨g1,g2⟩:=h2.ok.row (k:=0) (by simp)
 have hmem : (0 : Int) ∈ Mm r.Out 0:=by
  have e : MF aw6 r.Out 0 = Mm r.Out 0:=by
   have:=Pw (f:=aw6) (l:=r.Out) (k:=0) (by simp)
   rw [h2.fix,g1] at this
   exact (Option.some.inj this).symm
  have hs:=NK Zi h2.ok (k:=0) (by simp)
  have:=(hs.2 0).2 ⟨1,by decide,by
   have hx : (Md aw6 1) ∈ aw6.Code:=by decide
   obtain ⟨_,q2⟩:=h2.ok.row (k:=1) (by simp)
   show (0 : Int) ∈ inN (Md aw6 1) (Mm r.Out ((1 : Nat) : Int))
   exact ((Qc Zi hx q2).2 0).2 (.inr (by decide))⟩
  exact e ▸ this
 have e0 : Mm r.Out 0 = [0]:=by
  have h01 : MK ([0] : List Int):=⟨List.pairwise_singleton _ _,fun x hx=>by simp at hx; omega⟩
  refine g2.1.ext h01 fun v=>⟨fun hv=>hle 0 _ [0] g1 rfl v hv,fun hv=>?_⟩
  simp only [List.mem_singleton] at hv
  subst hv
  exact hmem
 have hl3 : r.Out.length = 3:=h2.ok.1
 unfold QG
 rw [h1,Option.bind_some,hl3]
 have hg : ixO r.Out 0 = some [0]:=by rw [RI _ (by omega)]; simpa [e0] using g1
 rw [hg]
 rfl
theorem AcR (a b : Mg) (ha : a.Out.length ≤ 9223372036854775807) (hr : ∀ s ∈ a.Out,s.length ≤ 9223372036854775807) : OE a b = some (decide (a.Out = b.Out)):=by
 unfold OE
 rw [XI a.Out b.Out ha hr]
 rfl
theorem MQ.Adc {f : LW} (hf : MH f) {l : List (List Int)} (h : MQ f l) : l.length ≤ 9223372036854775807 ∧ ∀ s ∈ l,s.length ≤ 9223372036854775807:=by
 have:=hf.len'
 have:=h.1
 exact ⟨by omega,fun s hs=>by have:=(h.2 s hs).1.length_le; omega⟩
end Go.Proofs.YtcelninhkmhjkaaDoor
namespace Go.Proofs.YtcelninhkmhjkaaDoor
open Go Go.Dw Go.Proofs
theorem Abu {f : LW} (hf : MH f) {l : Mg} (hl : MQ f l.Out) {k : Nat} (hk : k < f.Code.length) : NZ f l (k : Int) = some (MF f l.Out k):=by
 have hlen':=hf.len'
 have hsl:=hf.slots
 have hcode : f.Code[k]? = some (Md f k):=by simp [Md,hk]
 have hnx:=hf.next k _ hcode
 have hnl:=Ss (Md f k) k
 have : Hs (NZ f l (k : Int)) fun r=>r = MF f l.Out k:=by
  unfold NZ
  rw [Zm hcode (by omega),Option.bind_some]
  refine Hs.loop (fun s=>∃ i : Nat,s.1 = (i : Int) ∧ i ≤ (Mt (Md f k) k).length ∧ s.2 = ((Mt (Md f k) k).take i).foldl (fun o j=>Ng o (inN (Md f j) (Mm l.Out j))) []) (fun s=>(Mt (Md f k) k).length - s.1.toNat) ⟨0,rfl,Nat.zero_le _,rfl⟩ ?_
  rintro ⟨_,s⟩ ⟨i,rfl,hi,hs⟩
  simp only at hs
  unfold PS
  dsimp only
  refine .dec (fun hlt=>?_) fun hge=>.lft (.pure ?_)
  ·have hlt : i < (Mt (Md f k) k).length:=Int.ofNat_lt.1 hlt
   have hg : (Mt (Md f k) k)[i]? = some ((Mt (Md f k) k)[i]):=List.getElem?_eq_getElem hlt
   generalize (Mt (Md f k) k)[i] = j at hg
   have hj:=hnx j (List.mem_of_getElem? hg)
   have hjc : f.Code[j.toNat]? = some (Md f j):=by simp [Md,show j.toNat < f.Code.length by omega]
   obtain ⟨o1,o2⟩:=hl.row (k:=j.toNat) (by omega)
   rw [Int.toNat_of_nonneg hj.1] at o1 o2
   have hll:=hl.1
   have hf1:=XB hf hl (js:=(Mt (Md f k) k).take i) (o:=[]) (fun y hy=>hnx y (List.mem_of_mem_take hy)) (MM.nil _)
   have huse:=hf.uses _ (List.mem_of_getElem? hjc)
   have hin:=Qc hf (List.mem_of_getElem? hjc) o2
   have hinl:=hin.1.1.length_le
   refine .chk (by omega) ?_
   rw [Int.toNat_natCast,hg,Option.bind_some,RI _ hj.1,hjc,Option.bind_some,RI _ hj.1,o1,Option.bind_some,Aak o2.1 (fun v hv=>by have:=huse v hv; omega),Option.bind_some,hs,Uo hf1.1.1 (fun v hv=>hin.1.1.2 v hv) (by omega),Option.bind_some,MD (by omega)]
   refine .cnt ⟨⟨i + 1,rfl,hlt,?_⟩,by simp only; omega⟩
   rw [List.take_add_one,hg]
   simp [List.foldl_append]
  ·have hil : i = (Mt (Md f k) k).length:=by
    have : ¬ i < (Mt (Md f k) k).length:=fun h=>hge (Int.ofNat_lt.2 h)
    omega
   subst hil
   rw [List.take_length] at hs
   exact hs
 obtain ⟨r,h1,rfl⟩:=this
 exact h1
theorem AcN {f : LW} (hf : MH f) {l : Mg} (hl : MQ f l.Out) : Ow f l = some ⟨MU f l.Out⟩:=by
 have hlen':=hf.len'
 have : Hs (Ow f l) fun r=>r = ⟨MU f l.Out⟩:=by
  unfold Ow
  refine Hs.loop (fun s=>∃ k : Nat,s.2 = (k : Int) ∧ k ≤ f.Code.length ∧ s.1 = (List.range k).map fun q=>MF f l.Out (q : Nat)) (fun s=>f.Code.length - s.2.toNat) ⟨0,rfl,Nat.zero_le _,rfl⟩ ?_
  rintro ⟨x,_⟩ ⟨k,rfl,hk,hx⟩
  simp only at hx
  subst hx
  unfold Qy
  dsimp only
  refine .dec (fun hlt=>?_) fun hge=>.lft (.pure ?_)
  ·have hlt : k < f.Code.length:=Int.ofNat_lt.1 hlt
   rw [Abu hf hl hlt,Option.bind_some]
   refine .chk (by simp; omega) ?_
   rw [MD (by omega)]
   refine .cnt ⟨⟨k + 1,rfl,hlt,?_⟩,by simp only; omega⟩
   rw [List.range_succ,List.map_append]
   rfl
  ·have hkn : k = f.Code.length:=by
    have : ¬ k < f.Code.length:=fun h=>hge (Int.ofNat_lt.2 h)
    omega
   subst hkn
   rfl
 obtain ⟨r,h1,rfl⟩:=this
 exact h1
end Go.Proofs.YtcelninhkmhjkaaDoor
namespace Go.Proofs.YtcelninhkmhjkaaDoor
open Go Go.Dw Go.Proofs
def RZ (f : LW) (l : List (List Int)) : List (List Int):=(List.range f.Code.length).map fun k=>inN (Md f (k : Nat)) (Mm l (k : Nat))
theorem AcI {f : LW} {l : List (List Int)} {k : Nat} (hk : k < f.Code.length) : (RZ f l)[k]? = some (inN (Md f (k : Nat)) (Mm l (k : Nat))):=by simp [RZ,hk]
theorem ZG {f : LW} (hf : MH f) {l : List (List Int)} (hl : MQ f l) : MQ f (RZ f l):=by
 refine ⟨by simp [RZ],fun s hs=>?_⟩
 obtain ⟨k,hk,rfl⟩:=List.mem_map.1 hs
 have hk : k < f.Code.length:=List.mem_range.1 hk
 have hcode : f.Code[k]? = some (Md f k):=by simp [Md,hk]
 exact (Qc hf (List.mem_of_getElem? hcode) (hl.row hk).2).1
theorem AaL {f : LW} (hf : MH f) {l : Mg} (hl : MQ f l.Out) : Oh f l = some (RZ f l.Out):=by
 have hlen':=hf.len'
 have hsl:=hf.slots
 have : Hs (Oh f l) fun r=>r = RZ f l.Out:=by
  unfold Oh
  refine Hs.loop (fun s=>∃ k : Nat,s.2 = (k : Int) ∧ k ≤ f.Code.length ∧ s.1 = (List.range k).map fun q=>inN (Md f (q : Nat)) (Mm l.Out (q : Nat))) (fun s=>f.Code.length - s.2.toNat) ⟨0,rfl,Nat.zero_le _,rfl⟩ ?_
  rintro ⟨x,_⟩ ⟨k,rfl,hk,hx⟩
  simp only at hx
  subst hx
  unfold Rc
  dsimp only
  refine .dec (fun hlt=>?_) fun hge=>.lft (.pure ?_)
  ·have hlt : k < f.Code.length:=Int.ofNat_lt.1 hlt
   have hcode : f.Code[k]? = some (Md f k):=by simp [Md,hlt]
   obtain ⟨o1,o2⟩:=hl.row hlt
   have huse:=hf.uses _ (List.mem_of_getElem? hcode)
   rw [Qd,hcode,Option.bind_some,Qd,o1,Option.bind_some,Aak o2.1 (fun v hv=>by have:=huse v hv; omega),Option.bind_some]
   refine .chk (by simp; omega) ?_
   rw [MD (by omega)]
   refine .cnt ⟨⟨k + 1,rfl,hlt,?_⟩,by simp only; omega⟩
   rw [List.range_succ,List.map_append]
   rfl
  ·have hkn : k = f.Code.length:=by
    have : ¬ k < f.Code.length:=fun h=>hge (Int.ofNat_lt.2 h)
    omega
   subst hkn
   rfl
 obtain ⟨r,h1,rfl⟩:=this
 exact h1
theorem AaM {f : LW} (hf : MH f) {l : Mg} (hl : MQ f l.Out) : Qq f l = some (RZ f l.Out):=by
 have hlen':=hf.len'
 have hsl:=hf.slots
 have : Hs (Qq f l) fun r=>r = RZ f l.Out:=by
  unfold Qq
  refine .chk (by omega) ?_
  refine Hs.loop (fun s=>∃ k : Nat,s.2 = (k : Int) ∧ k ≤ f.Code.length ∧ s.1.length = f.Code.length ∧ ∀ q < k,s.1[q]? = (RZ f l.Out)[q]?) (fun s=>f.Code.length - s.2.toNat) ⟨0,rfl,Nat.zero_le _,by simp,fun q h=>absurd h (Nat.not_lt_zero _)⟩ ?_
  rintro ⟨x,_⟩ ⟨k,rfl,hk,hxl,hx⟩
  simp only at hxl hx
  unfold TC
  dsimp only
  refine .dec (fun hlt=>?_) fun hge=>.lft (.pure ?_)
  ·have hlt : k < f.Code.length:=Int.ofNat_lt.1 hlt
   have hcode : f.Code[k]? = some (Md f k):=by simp [Md,hlt]
   obtain ⟨o1,o2⟩:=hl.row hlt
   have ol:=o2.1.length_le
   have hg : x[k]? = some (x[k]'(by omega)):=List.getElem?_eq_getElem _
   rw [Qd,hcode,Option.bind_some,Qd,o1,Option.bind_some,AcY _ _ (by omega),Option.bind_some]
   refine .chk (by omega) ?_
   rw [Int.toNat_natCast,hg,Option.bind_some,MD (by omega)]
   refine .cnt ⟨⟨k + 1,rfl,hlt,by simpa using hxl,fun q hq=>?_⟩,by simp only; omega⟩
   by_cases e : q = k
   ·subst e
    rw [List.getElem?_set_self (by omega),AcI hlt]
   ·rw [List.getElem?_set_ne (fun h=>e h.symm)]
    exact hx q (by omega)
  ·have hkn : k = f.Code.length:=by
    have : ¬ k < f.Code.length:=fun h=>hge (Int.ofNat_lt.2 h)
    omega
   subst hkn
   apply List.ext_getElem?
   intro q
   by_cases hq : q < f.Code.length
   ·exact hx q hq
   ·rw [List.getElem?_eq_none (by omega),List.getElem?_eq_none (by simp [RZ]; omega)]
 obtain ⟨r,h1,rfl⟩:=this
 exact h1
def Aat (f : LW) (x : Int) : Int:=((f.Slots[x.toNat]?).map Mv.Size).getD 0
def Aay (f : LW) (row : List Int) : Int:=row.foldl (fun s x=>IntKind.i64.wrap (s + Aat f x)) 0
def Wt (f : LW) (ins : List (List Int)) : Int:=ins.foldl (fun m row=>WH m (Aay f row)) 0
theorem Aau {f : LW} {x : Int} (h : 0 ≤ x ∧ x < f.Slots.length) : ∃ s : Mv,ixO f.Slots x = some s ∧ s.Size = Aat f x:=by
 have hg : f.Slots[x.toNat]? = some (f.Slots[x.toNat]'(by omega)):=List.getElem?_eq_getElem _
 exact ⟨_,by rw [RI _ h.1]; exact hg,by simp [Aat,hg]⟩
theorem AcM {f : LW} (hf : MH f) {l : Mg} (hl : MQ f l.Out) : Nq f l = some (Wt f (RZ f l.Out)):=by
 have hlen':=hf.len'
 have hins:=ZG hf hl
 have : Hs (Nq f l) fun r=>r = Wt f (RZ f l.Out):=by
  unfold Nq
  rw [AaL hf hl,Option.bind_some]
  generalize RZ f l.Out = ins at hins
  have hil:=hins.1
  refine Hs.loop (fun s=>∃ k : Nat,s.1 = (k : Int) ∧ k ≤ ins.length ∧ s.2 = Wt f (ins.take k)) (fun s=>ins.length - s.1.toNat) ⟨0,rfl,Nat.zero_le _,rfl⟩ ?_
  rintro ⟨_,m⟩ ⟨k,rfl,hk,hm⟩
  simp only at hm
  subst hm
  unfold OC
  dsimp only
  refine .dec (fun hlt=>?_) fun hge=>.lft (.pure ?_)
  ·have hlt : k < ins.length:=Int.ofNat_lt.1 hlt
   have hg : ins[k]? = some ins[k]:=List.getElem?_eq_getElem hlt
   generalize ins[k] = row at hg
   have hrow:=hins.2 row (List.mem_of_getElem? hg)
   have hrl:=hrow.1.length_le
   refine .chk (by omega) ?_
   rw [Int.toNat_natCast,hg,Option.bind_some]
   refine Hs.loop (fun s=>∃ i : Nat,s.1 = (i : Int) ∧ i ≤ row.length ∧ s.2 = Aay f (row.take i)) (fun s=>row.length - s.1.toNat) ⟨0,rfl,Nat.zero_le _,rfl⟩ ?_
   rintro ⟨_,s⟩ ⟨i,rfl,hi,hs⟩
   simp only at hs
   subst hs
   unfold OD
   dsimp only
   refine .dec (fun hlt2=>?_) fun hge2=>.lft ?_
   ·have hlt2 : i < row.length:=Int.ofNat_lt.1 hlt2
    have hg2 : row[i]? = some row[i]:=List.getElem?_eq_getElem hlt2
    have hxm:=List.getElem_mem hlt2
    generalize row[i] = x at hg2 hxm
    obtain ⟨sl,e1,e2⟩:=Aau (f:=f) ⟨(hrow.1.2 x hxm).1,hrow.2 x hxm⟩
    rw [Qd,hg2,Option.bind_some,e1,Option.bind_some,MD (by omega),e2]
    refine .cnt ⟨⟨i + 1,rfl,hlt2,?_⟩,by simp only; omega⟩
    rw [List.take_add_one,hg2]
    simp [Aay,List.foldl_append]
   ·have hil2 : i = row.length:=by
     have : ¬ i < row.length:=fun h=>hge2 (Int.ofNat_lt.2 h)
     omega
    subst hil2
    rw [MD (by omega),List.take_length]
    refine .cnt ⟨⟨k + 1,rfl,hlt,?_⟩,by simp only; omega⟩
    rw [List.take_add_one,hg]
    simp [Wt,List.foldl_append]
  ·have hkn : k = ins.length:=by
    have : ¬ k < ins.length:=fun h=>hge (Int.ofNat_lt.2 h)
    omega
   subst hkn
   rw [List.take_length]
   exact rfl
 obtain ⟨r,h1,rfl⟩:=this
 exact h1
theorem AcQ {f : LW} (hf : MH f) {l : Mg} (hl : MQ f l.Out) : Oa f l = some (Wt f (RZ f l.Out)):=by
 have hlen':=hf.len'
 have hins:=ZG hf hl
 have : Hs (Oa f l) fun r=>r = Wt f (RZ f l.Out):=by
  unfold Oa
  rw [AaM hf hl,Option.bind_some]
  generalize RZ f l.Out = ins at hins
  have hil:=hins.1
  refine Hs.loop (fun s=>∃ k : Nat,s.2 = (k : Int) ∧ k ≤ ins.length ∧ s.1 = Wt f (ins.take k)) (fun s=>ins.length - s.2.toNat) ⟨0,rfl,Nat.zero_le _,rfl⟩ ?_
  rintro ⟨m,_⟩ ⟨k,rfl,hk,hm⟩
  simp only at hm
  subst hm
  unfold PU
  dsimp only
  refine .dec (fun hlt=>?_) fun hge=>.lft (.pure ?_)
  ·have hlt : k < ins.length:=Int.ofNat_lt.1 hlt
   have hg : ins[k]? = some ins[k]:=List.getElem?_eq_getElem hlt
   generalize ins[k] = row at hg
   have hrow:=hins.2 row (List.mem_of_getElem? hg)
   have hrl:=hrow.1.length_le
   refine Hs.loop (fun s=>∃ i : Nat,s.2 = (i : Int) ∧ i ≤ row.length ∧ s.1 = Aay f (row.take i)) (fun s=>row.length - s.2.toNat) ⟨0,rfl,Nat.zero_le _,rfl⟩ ?_
   rintro ⟨s,_⟩ ⟨i,rfl,hi,hs⟩
   simp only at hs
   subst hs
   unfold PV
   dsimp only
   refine .chk (by omega) ?_
   rw [Int.toNat_natCast,hg,Option.bind_some]
   refine .dec (fun hlt2=>?_) fun hge2=>.lft ?_
   ·have hlt2 : i < row.length:=Int.ofNat_lt.1 hlt2
    have hg2 : row[i]? = some row[i]:=List.getElem?_eq_getElem hlt2
    have hxm:=List.getElem_mem hlt2
    generalize row[i] = x at hg2 hxm
    obtain ⟨sl,e1,e2⟩:=Aau (f:=f) ⟨(hrow.1.2 x hxm).1,hrow.2 x hxm⟩
    refine .chk (by omega) ?_
    rw [Option.bind_some,Qd,hg2,Option.bind_some,e1,Option.bind_some,MD (by omega),e2]
    refine .cnt ⟨⟨i + 1,rfl,hlt2,?_⟩,by simp only; omega⟩
    rw [List.take_add_one,hg2]
    simp [Aay,List.foldl_append]
   ·have hil2 : i = row.length:=by
     have : ¬ i < row.length:=fun h=>hge2 (Int.ofNat_lt.2 h)
     omega
    subst hil2
    unfold PW
    rw [MD (by omega),List.take_length]
    refine .cnt ⟨⟨k + 1,rfl,hlt,?_⟩,by simp only; omega⟩
    rw [List.take_add_one,hg]
    simp [Wt,List.foldl_append]
  ·have hkn : k = ins.length:=by
    have : ¬ k < ins.length:=fun h=>hge (Int.ofNat_lt.2 h)
    omega
   subst hkn
   rw [List.take_length]
   exact rfl
 obtain ⟨r,h1,rfl⟩:=this
 exact h1
theorem WE (codes : List Int) (hc : qL (Oi .u8) codes) : Hs (Nt codes) fun b=>b = true:=by
 unfold Nt
 rw [Adh]
 simp only [Option.bind_some,Bool.not_true,cond_false]
 refine (Abg codes hc).bind fun p ⟨_,⟨ps,i,hfo⟩,hacc⟩=>?_
 have hf:=hfo.AfH (by omega)
 have hl:=hacc.1
 obtain ⟨z1,z2⟩:=(ZG hf hl).Adc hf
 obtain ⟨y1,y2⟩:=(Zq hf hl).Adc hf
 have est : Pv p.1 p.2.1 = some ⟨MU p.1 p.2.1.Out⟩:=step_eq hf hl
 rw [AaL hf hl,AaM hf hl,AcN hf hl,est,AcM hf hl,AcQ hf hl]
 simp only [Option.bind_some]
 rw [XI _ _ z1 z2,AcR ⟨MU p.1 p.2.1.Out⟩ ⟨MU p.1 p.2.1.Out⟩ y1 y2]
 simp only [Option.bind_some,decide_true,cond_true,beq_self_eq_true]
 exact .pure rfl
theorem VK (codes : List Int) (hc : qL (Oi .u8) codes) : Nt codes = some true:=by
 obtain ⟨r,h,rfl⟩:=WE codes hc
 exact h
end Go.Proofs.YtcelninhkmhjkaaDoor
