/-
  Plain laws about the typed programs.
-/
import Derived.Test.YtfpgidpffhmadaaDoorDc
import Derived.Test.YtfpgidpffhmadaaDoorDxP
namespace Go.Dw
section
variable {ι R α : Type} {body : ι → Option (ι ⊕ R)} {v : R}
theorem OW {α β : Type} (s : List α) (mk : β → Int → ι) (I : β → Nat → Prop) (F : β → List α → Option R)
  (hnil : ∀ acc,I acc s.length → ∃ v,body (mk acc s.length) = some (.inr v) ∧ F acc [] = some v)
  (hcons : ∀ acc (i : Nat) x r,I acc i → s.drop i = x :: r → i < s.length → s[i]? = some x →
   (∃ acc',I acc' (i + 1) ∧ body (mk acc i) = some (.inl (mk acc' ((i + 1 : Nat) : Int))) ∧ F acc (x :: r) = F acc' r) ∨ (∃ v,body (mk acc i) = some (.inr v) ∧ F acc (x :: r) = some v))
  (acc : β) (h0 : I acc 0) : ME body (mk acc 0) = F acc s:=by
 have : ∀ k i acc,i + k = s.length → I acc i → ME body (mk acc (i : Nat)) = F acc (s.drop i):=by
  intro k
  induction k with
  | zero =>
   intro i acc hi hI
   simp only [Nat.add_zero] at hi
   subst hi
   obtain ⟨v,h1,h2⟩:=hnil acc hI
   rw [Aar,h1,List.drop_length,h2]
  | succ k ih =>
   intro i acc hi hI
   have hl : i < s.length:=by omega
   have hd:=List.drop_eq_getElem_cons hl
   rw [hd]
   rcases hcons acc i _ _ hI hd hl (List.getElem?_eq_getElem hl) with ⟨acc',h1,h2,h3⟩ | ⟨v,h1,h2⟩
   ·rw [Aar,h2,h3]
    exact ih (i + 1) acc' (by omega) h1
   ·rw [Aar,h1,h2]
 have:=this s.length 0 acc (by omega) h0
 simpa using this
@[simp] theorem Pj (l : List α) (i : Nat) : ixO l (i : Int) = l[i]?:=by
 unfold ixO
 rw [if_neg (by omega)]
 simp
theorem Vk (l : List α) {i : Int} (h : 0 ≤ i) : ixO l i = l[i.toNat]?:=by
 unfold ixO
 rw [if_neg (by omega)]
@[simp] theorem Akv (l : List α) (i : Nat) : ixO l ((i : Int) + 1) = l[i + 1]?:=by
 have:=Pj l (i + 1)
 simpa using this
@[simp] theorem AgF (l : List α) : ixO l 0 = l[0]?:=Vk l (Int.le_refl 0)
theorem wrap64 {n : Int} (h0 : -9223372036854775808 ≤ n) (h1 : n ≤ 9223372036854775807) : IntKind.i64.wrap n = n:=Aht h0 h1
@[simp] theorem AkC : IntKind.i64.wrap 0 = 0:=by decide
@[simp] theorem AkD : IntKind.i64.wrap 1 = 1:=by decide
@[simp] theorem AkE : IntKind.i64.wrap 2 = 2:=by decide
@[simp] theorem AkF : IntKind.i64.wrap 3 = 3:=by decide
theorem My {i : Nat} (h : i < 9223372036854775807) : IntKind.i64.wrap ((i : Int) + 1) = ((i + 1 : Nat) : Int):=by
 rw [wrap64 (by omega) (by omega)]; rfl
@[simp] theorem Akx (r : R) : (lft (some r) : Option (ι ⊕ R)) = some (.inr r):=rfl
@[simp] theorem Akw : (lft none : Option (ι ⊕ R)) = none:=rfl
@[simp] theorem Ahc (s : ι) : (cnt s : Option (ι ⊕ R)) = some (.inl s):=rfl
theorem Ahe (a b : Int) : VF a b = min a b:=by unfold VF; split <;> omega
end
end Go.Dw
namespace Go.Dw
open Go
def Hs {α : Type} (m : Option α) (P : α → Prop) : Prop:=∃ r,m = some r ∧ P r
section
variable {α β ι R : Type}
theorem Hs.pure {a : α} {P : α → Prop} (h : P a) : Hs (some a) P:=⟨a,rfl,h⟩
theorem Hs.bind {m : Option α} {f : α → Option β} {P : α → Prop} {Q : β → Prop} (h : Hs m P) (hf : ∀ r,P r → Hs (f r) Q) : Hs (m.bind f) Q:=by
 obtain ⟨r,rfl,hr⟩:=h
 exact hf r hr
theorem Hs.mono {m : Option α} {P Q : α → Prop} (h : Hs m P) (hf : ∀ r,P r → Q r) : Hs m Q:=by
 obtain ⟨r,h1,hr⟩:=h
 exact ⟨r,h1,hf r hr⟩
theorem Hs.chk {p : Prop} [Decidable p] {m : Option α} {P : α → Prop} (hp : p) (h : Hs m P) : Hs (chk p m) P:=by
 rw [Nf hp]; exact h
theorem Hs.cond {b : Bool} {x y : Option α} {P : α → Prop} (h1 : b = true → Hs x P) (h2 : b = false → Hs y P) : Hs (bif b then x else y) P:=by
 cases b
 ·exact h2 rfl
 ·exact h1 rfl
theorem Hs.dec {p : Prop} [Decidable p] {x y : Option α} {P : α → Prop} (h1 : p → Hs x P) (h2 : ¬ p → Hs y P) : Hs (bif decide p then x else y) P :=
 Hs.cond (fun h=>h1 (of_decide_eq_true h)) (fun h=>h2 (of_decide_eq_false h))
theorem Hs.beq {a b : Int} {x y : Option α} {P : α → Prop} (h1 : a = b → Hs x P) (h2 : a ≠ b → Hs y P) : Hs (bif a == b then x else y) P :=
 Hs.cond (fun h=>h1 (by simpa using h)) (fun h=>h2 (by simpa using h))
theorem Hs.bne {a b : Int} {x y : Option α} {P : α → Prop} (h1 : a ≠ b → Hs x P) (h2 : a = b → Hs y P) : Hs (bif a != b then x else y) P :=
 Hs.cond (fun h=>h1 (by simpa using h)) (fun h=>h2 (by simpa using h))
theorem Hs.cnt {s : ι} {P : ι ⊕ R → Prop} (h : P (.inl s)) : Hs (Go.Dw.cnt s) P:=⟨_,rfl,h⟩
theorem Hs.lft {m : Option R} {P : ι ⊕ R → Prop} (h : Hs m fun r=>P (.inr r)) : Hs (Go.Dw.lft m) P:=by
 obtain ⟨r,rfl,h⟩:=h
 exact ⟨_,rfl,h⟩
def Rnd (I : ι → Prop) (μ : ι → Nat) (s : ι) (Q : R → Prop) : ι ⊕ R → Prop
 | .inl s'=>I s' ∧ μ s' < μ s
 | .inr r=>Q r
theorem Hs.loop {body : ι → Option (ι ⊕ R)} {s : ι} {Q : R → Prop} (I : ι → Prop) (μ : ι → Nat) (h0 : I s) (hb : ∀ s,I s → Hs (body s) (Rnd I μ s Q)) : Hs (ME body s) Q:=by
 refine AeG I Q μ h0 fun s hs=>?_
 obtain ⟨z,hz,hq⟩:=hb s hs
 cases z with
 | inl s'=>exact .inl ⟨s',hz,hq⟩
 | inr r=>exact .inr ⟨r,hz,hq⟩
theorem Hs.get {l : List α} {i : Int} {P : α → Prop} (h0 : 0 ≤ i) (h1 : i < l.length) (h : ∀ x,l[i.toNat]? = some x → P x) : Hs (l[i.toNat]?) P:=by
 have : l[i.toNat]? = some (l[i.toNat]'(by omega)):=List.getElem?_eq_getElem _
 exact ⟨_,this,h _ this⟩
theorem Hs.ix {l : List α} {i : Int} {P : α → Prop} (h0 : 0 ≤ i) (h1 : i < l.length) (h : ∀ x,l[i.toNat]? = some x → P x) : Hs (ixO l i) P:=by
 rw [Vk _ h0]; exact Hs.get h0 h1 h
end
theorem AbO (n : Int) : 0 ≤ IntKind.u64.wrap n ∧ IntKind.u64.wrap n < 18446744073709551616:=by
 simp [IntKind.wrap,IntKind.signed,IntKind.bits]; omega
end Go.Dw
namespace Go.Proofs.YtfpgidpffhmadaaDoor
open Go Go.Dw Go.Proofs
attribute [local simp] Nf Bool.cond_eq_ite
theorem AcQ (n : Int) : Qf n = some (decide (0 ≤ n ∧ n < 512)):=by
 unfold Qf
 by_cases h : 0 ≤ n <;> simp [h]
theorem Abm {n : Int} (h : 0 ≤ n ∧ n < 512) : Qf n = some true:=by rw [AcQ,decide_eq_true h]
theorem AeD {n : Int} (h : ¬ (0 ≤ n ∧ n < 512)) : Qf n = some false:=by rw [AcQ,decide_eq_false h]
theorem AeT (s : List Int) (n : Int) (hs : s.length ≤ 9223372036854775807) : Vn s n = some (decide (n ∈ s)):=by
 unfold Vn
 refine OW s (fun (_ : Unit) i=>i) (fun _ _=>True) (fun _ l=>some (decide (n ∈ l))) (fun _ _=>⟨_,by simp [RH],rfl⟩) (fun _ i x r _ hd hi hx=>?_) () trivial
 have w:=My (show i < 9223372036854775807 by omega)
 by_cases h : x = n
 ·exact .inr ⟨true,by simp [RH,hi,(List.getElem?_eq_some_iff.1 hx).2,h],by simp [h]⟩
 ·refine .inl ⟨(),trivial,?_,?_⟩
  ·obtain ⟨_,rfl⟩:=List.getElem?_eq_some_iff.1 hx
   simp [RH,hi,h,w]
  ·have : n ≠ x:=fun e=>h e.symm
   simp [this]
def QL (n : Int) : List Int → List Int
 | []=>[n]
 | x :: r=>if x < n then x :: QL n r else if x = n then x :: r else n :: x :: r
theorem Acf (n : Int) : ∀ s,(QL n s).length ≤ s.length + 1
 | []=>by simp [QL]
 | x :: r=>by
  have:=Acf n r
  simp only [QL]
  split
  ·simp; omega
  ·split <;> simp
def OK (n : Int) (s : List Int) : List Int:=if 0 ≤ n ∧ n < 512 then QL n s else s
theorem add_eq (s : List Int) (n : Int) (hs : s.length ≤ 1000000) : Qi s n = some (OK n s):=by
 unfold Qi OK
 rw [AcQ]
 simp only [Option.bind_some]
 have key : ∀ d : Bool,ME (fun s_1 : List Int × Bool × Int=>NV s n s_1.1 s_1.2.1 s_1.2.2) ([],d,0) = some (if d then s else QL n s):=by
  intro d
  have:=OW (body:=fun s_1 : List Int × Bool × Int=>NV s n s_1.1 s_1.2.1 s_1.2.2) s (fun (p : List Int × Bool) i=>(p.1,p.2,i)) (fun p i=>p.1.length ≤ i + (if p.2 then 1 else 0)) (fun p l=>some (p.1 ++ (if p.2 then l else QL n l)))
   (fun p hp=>by
    obtain ⟨out,done⟩:=p
    cases done <;> simp only [if_true,Bool.false_eq_true,if_false] at hp
    ·exact ⟨out ++ [n],by simp [NV,show out.length ≤ 16777215 by omega],by simp [QL]⟩
    ·exact ⟨out,by simp [NV],by simp⟩)
   (fun p i x r hp hd hi hx=>by
    obtain ⟨out,done⟩:=p
    have w:=My (show i < 9223372036854775807 by omega)
    obtain ⟨_,rfl⟩:=List.getElem?_eq_some_iff.1 hx
    left
    cases done <;> simp only [if_true,Bool.false_eq_true,if_false] at hp
    ·by_cases h1 : n ≤ s[i]
     ·by_cases h2 : n < s[i]
      ·refine ⟨(out ++ [n] ++ [s[i]],true),by simp; omega,?_,?_⟩
       ·simp [NV,Px,OP,hi,h1,h2,w,show out.length ≤ 16777215 by omega,show out.length ≤ 16777214 by omega]
       ·simp [QL,show ¬ s[i] < n by omega,show ¬ s[i] = n by omega]
      ·refine ⟨(out ++ [s[i]],true),by simp; omega,?_,?_⟩
       ·simp [NV,Px,OP,hi,h1,h2,w,show out.length ≤ 16777215 by omega]
       ·simp [QL,show ¬ s[i] < n by omega,show s[i] = n by omega]
     ·refine ⟨(out ++ [s[i]],false),by simp; omega,?_,?_⟩
      ·simp [NV,Px,OP,hi,h1,w,show out.length ≤ 16777215 by omega]
      ·simp [QL,show s[i] < n by omega]
    ·refine ⟨(out ++ [s[i]],true),by simp; omega,?_,?_⟩
     ·simp [NV,Px,OP,hi,w,show out.length ≤ 16777215 by omega]
     ·simp)
   ([],d) (by simp)
  simpa using this
 rw [key]
 by_cases h : 0 ≤ n ∧ n < 512 <;> simp [h]
def Qr : Option Int → List Int → Bool
 | _,[]=>true
 | p,x :: r=>decide (0 ≤ x ∧ x < 512) && (match p with | none=>true | some y=>decide (y < x)) && Qr (some x) r
theorem Afn (s : List Int) (hs : s.length ≤ 9223372036854775807) : Sz s = some (Qr none s):=by
 unfold Sz
 refine OW s (fun (_ : Option Int) i=>i) (fun p i=>match i with | 0=>p = none | k + 1=>s[k]? = p ∧ p ≠ none) (fun p l=>some (Qr p l)) (fun _ _=>⟨true,by simp [OC],by simp [Qr]⟩) (fun p i x r hp hd hi hx=>?_) none rfl
 have w:=My (show i < 9223372036854775807 by omega)
 obtain ⟨_,rfl⟩:=List.getElem?_eq_some_iff.1 hx
 by_cases hg : 0 ≤ s[i] ∧ s[i] < 512
 ·cases i with
  | zero =>
   simp only at hp
   subst hp
   exact .inl ⟨some s[0],⟨hx,by simp⟩,by simp [OC,hi,Abm hg],by simp [Qr,hg]⟩
  | succ k =>
   obtain ⟨hp,hpn⟩:=hp
   have hk : k < s.length:=by omega
   rw [List.getElem?_eq_getElem hk] at hp
   subst hp
   have w : IntKind.i64.wrap ((k : Int) + 1 + 1) = (k : Int) + 1 + 1:=wrap64 (by omega) (by omega)
   have wp : IntKind.i64.wrap (k : Int) = k:=wrap64 (by omega) (by omega)
   have e0 : (k : Int) + 1 - 1 = k:=by omega
   by_cases hlt : s[k] < s[k + 1]
   ·exact .inl ⟨some s[k + 1],⟨hx,by simp⟩,by simp [OC,hi,Abm hg,w,wp,e0,hk,show ¬ s[k + 1] ≤ s[k] by omega,show (0 : Int) < k + 1 by omega,show (k : Int) + 1 < s.length by omega],by simp [Qr,hg,hlt]⟩
   ·exact .inr ⟨false,by simp [OC,hi,Abm hg,w,wp,e0,hk,show s[k + 1] ≤ s[k] by omega,show (0 : Int) < k + 1 by omega,show (k : Int) + 1 < s.length by omega],by simp [Qr,hlt]⟩
 ·exact .inr ⟨false,by simp [OC,hi,AeD hg],by simp [Qr,hg]⟩
def ML (s : List Int) : Prop:=s.Pairwise (· < ·) ∧ ∀ x ∈ s,0 ≤ x ∧ x < 512
theorem AdF : ∀ (p : Option Int) (s : List Int),Qr p s = true ↔ ML s ∧ ∀ y,p = some y → ∀ x ∈ s,y < x
 | p,[]=>by simp [Qr,ML]
 | p,x :: r=>by
  simp only [Qr,Bool.and_eq_true,AdF (some x) r,decide_eq_true_eq,ML,List.pairwise_cons,List.mem_cons,forall_eq_or_imp,Option.some.injEq]
  constructor
  ·rintro ⟨⟨h1,h2⟩,⟨h3,h4⟩,h5⟩
   have h5':=h5 x rfl
   refine ⟨⟨⟨h5',h3⟩,h1,h4⟩,fun y hy=>?_⟩
   subst hy
   simp only [decide_eq_true_eq] at h2
   exact ⟨h2,fun z hz=>Int.lt_trans h2 (h5' z hz)⟩
  ·rintro ⟨⟨⟨h1,h2⟩,h3,h4⟩,h5⟩
   refine ⟨⟨h3,?_⟩,⟨h2,h4⟩,fun y hy z hz=>by subst hy; exact h1 z hz⟩
   cases p with
   | none=>rfl
   | some y=>simpa using (h5 y rfl).1
theorem AbK (s : List Int) : Qr none s = true ↔ ML s:=by
 rw [AdF]; simp
theorem ML.length_le {s : List Int} (h : ML s) : s.length ≤ 512:=by
 have : ∀ (s : List Int) (a : Int),s.Pairwise (· < ·) → (∀ x ∈ s,a ≤ x ∧ x < 512) → a ≤ 512 → (s.length : Int) ≤ 512 - a:=by
  intro s
  induction s with
  | nil=>intro a _ _ ha; simp; omega
  | cons x r ih =>
   intro a hp hb ha
   rw [List.pairwise_cons] at hp
   have hx:=hb x (by simp)
   have:=ih (x + 1) hp.2 (fun y hy=>⟨by have:=hp.1 y hy; omega,(hb y (by simp [hy])).2⟩) (by omega)
   simp only [List.length_cons]
   omega
 have:=this s 0 h.1 h.2 (by omega)
 omega
theorem Ww (n m : Int) : ∀ s,m ∈ QL n s ↔ m = n ∨ m ∈ s
 | []=>by simp [QL]
 | x :: r=>by
  simp only [QL]
  split
  ·simp only [List.mem_cons,Ww n m r]
   constructor
   ·rintro (h | h | h) <;> simp [h]
   ·rintro (h | h | h) <;> simp [h]
  ·split
   ·rename_i h; subst h; simp
   ·simp
theorem ML.QL {n : Int} {s : List Int} (h : ML s) (hn : 0 ≤ n ∧ n < 512) : ML (Proofs.YtfpgidpffhmadaaDoor.QL n s):=by
 refine ⟨?_,fun x hx=>?_⟩
 ·replace h:=h.1
  clear hn
  induction s with
  | nil=>simp [Proofs.YtfpgidpffhmadaaDoor.QL]
  | cons x r ih =>
   rw [List.pairwise_cons] at h
   simp only [Proofs.YtfpgidpffhmadaaDoor.QL]
   split
   ·rw [List.pairwise_cons]
    refine ⟨fun y hy=>?_,ih h.2⟩
    rw [Ww] at hy
    rcases hy with rfl | hy
    ·assumption
    ·exact h.1 y hy
   ·split
    ·rw [List.pairwise_cons]; exact h
    ·rw [List.pairwise_cons,List.pairwise_cons]
     refine ⟨fun y hy=>?_,h⟩
     rcases List.mem_cons.1 hy with rfl | hy
     ·omega
     ·have:=h.1 y hy; omega
 ·rw [Ww] at hx
  rcases hx with rfl | hx
  ·exact hn
  ·exact h.2 x hx
theorem ML.nil : ML []:=⟨List.Pairwise.nil,fun x hx=>by cases hx⟩
end Go.Proofs.YtfpgidpffhmadaaDoor
namespace Go.Proofs.YtfpgidpffhmadaaDoor
open Go Go.Dw Go.Proofs
attribute [local simp] Nf Bool.cond_eq_ite
theorem AbH (n : Int) : Nw n = some (decide (0 ≤ n ∧ n < 512)):=by
 unfold Nw
 by_cases h : 0 ≤ n <;> simp [h]
theorem ZP {n : Int} (h : 0 ≤ n ∧ n < 512) : Nw n = some true:=by rw [AbH,decide_eq_true h]
theorem Aek {n : Int} (h : ¬ (0 ≤ n ∧ n < 512)) : Nw n = some false:=by rw [AbH,decide_eq_false h]
theorem AeN (s : List Int) (hs : s.length ≤ 9223372036854775807) : Rx s = some (Qr none s):=by
 unfold Rx
 refine OW s (fun (_ : Option Int) i=>i) (fun p i=>match i with | 0=>p = none | k + 1=>s[k]? = p ∧ p ≠ none) (fun p l=>some (Qr p l)) (fun _ _=>⟨true,by simp [Oe],by simp [Qr]⟩) (fun p i x r hp hd hi hx=>?_) none rfl
 have w:=My (show i < 9223372036854775807 by omega)
 obtain ⟨_,rfl⟩:=List.getElem?_eq_some_iff.1 hx
 by_cases hg : 0 ≤ s[i] ∧ s[i] < 512
 ·cases i with
  | zero =>
   simp only at hp
   subst hp
   exact .inl ⟨some s[0],⟨hx,by simp⟩,by simp [Oe,hi,ZP hg],by simp [Qr,hg]⟩
  | succ k =>
   obtain ⟨hp,hpn⟩:=hp
   have hk : k < s.length:=by omega
   rw [List.getElem?_eq_getElem hk] at hp
   subst hp
   have w : IntKind.i64.wrap ((k : Int) + 1 + 1) = (k : Int) + 1 + 1:=wrap64 (by omega) (by omega)
   have wp : IntKind.i64.wrap (k : Int) = k:=wrap64 (by omega) (by omega)
   have e0 : (k : Int) + 1 - 1 = k:=by omega
   by_cases hlt : s[k] < s[k + 1]
   ·exact .inl ⟨some s[k + 1],⟨hx,by simp⟩,by simp [Oe,hi,ZP hg,w,wp,e0,hk,show ¬ s[k + 1] ≤ s[k] by omega,show (0 : Int) < k + 1 by omega,show (k : Int) + 1 < s.length by omega],by simp [Qr,hg,hlt]⟩
   ·exact .inr ⟨false,by simp [Oe,hi,ZP hg,w,wp,e0,hk,show s[k + 1] ≤ s[k] by omega,show (0 : Int) < k + 1 by omega,show (k : Int) + 1 < s.length by omega],by simp [Qr,hlt]⟩
 ·exact .inr ⟨false,by simp [Oe,hi,Aek hg],by simp [Qr,hg]⟩
end Go.Proofs.YtfpgidpffhmadaaDoor
namespace Go.Proofs.YtfpgidpffhmadaaDoor
open Go Go.Dw Go.Proofs
attribute [local simp] Nf Bool.cond_eq_ite
theorem Ahj (a b : List Int) (h : a.length ≤ 9223372036854775807) : TP a b = some (decide (a = b)):=by
 unfold TP
 by_cases hl : a.length = b.length
 ·have:=OW (body:=fun i : Int=>PR a b i) a (fun (_ : List Int) i=>i) (fun acc i=>b.drop i = acc) (fun acc l=>some (decide (l = acc)))
   (fun acc hacc=>⟨true,by simp [PR],by rw [hl] at hacc; simp at hacc; simp [← hacc]⟩) (fun acc i x r hacc hd hi hx=>by
    have w:=My (show i < 9223372036854775807 by omega)
    obtain ⟨_,rfl⟩:=List.getElem?_eq_some_iff.1 hx
    have hib : i < b.length:=by omega
    have hdb:=List.drop_eq_getElem_cons hib
    by_cases e : a[i] = b[i]
    ·exact .inl ⟨b.drop (i + 1),rfl,by simp [PR,hi,hib,e,w],by rw [← hacc,hdb]; simp only [List.cons.injEq,e,true_and]⟩
    ·exact .inr ⟨false,by simp [PR,hi,hib,e],by rw [← hacc,hdb]; simp only [List.cons.injEq,e,false_and,decide_false]⟩)
   b (by simp)
  simpa [hl] using this
 ·have : ¬ a = b:=fun e=>hl (by rw [e])
  simp [this,show ¬ (a.length : Int) = b.length by omega]
end Go.Proofs.YtfpgidpffhmadaaDoor
namespace Go.Proofs.YtfpgidpffhmadaaDoor
open Go Go.Dw Go.Proofs
attribute [local simp] Nf Bool.cond_eq_ite
theorem AeF (a b : List (List Int)) (h : a.length ≤ 9223372036854775807) (hr : ∀ s ∈ a,s.length ≤ 9223372036854775807) : QP a b = some (decide (a = b)):=by
 unfold QP
 by_cases hl : a.length = b.length
 ·have:=OW (body:=fun i : Int=>Ou a b i) a (fun (_ : List (List Int)) i=>i) (fun acc i=>b.drop i = acc) (fun acc l=>some (decide (l = acc)))
   (fun acc hacc=>⟨true,by simp [Ou],by rw [hl] at hacc; simp at hacc; simp [← hacc]⟩) (fun acc i x r hacc hd hi hx=>by
    have w:=My (show i < 9223372036854775807 by omega)
    obtain ⟨_,rfl⟩:=List.getElem?_eq_some_iff.1 hx
    have hib : i < b.length:=by omega
    have hdb:=List.drop_eq_getElem_cons hib
    have hs:=Ahj a[i] b[i] (hr _ (List.getElem_mem _))
    by_cases e : a[i] = b[i]
    ·refine .inl ⟨b.drop (i + 1),rfl,?_,by rw [← hacc,hdb]; simp only [List.cons.injEq,e,true_and]⟩
     rw [decide_eq_true e] at hs
     simp [Ou,hi,hib,hs,w]
    ·refine .inr ⟨false,?_,by rw [← hacc,hdb]; simp only [List.cons.injEq,e,false_and,decide_false]⟩
     rw [decide_eq_false e] at hs
     simp [Ou,hi,hib,hs])
   b (by simp)
  simpa [hl] using this
 ·have : ¬ a = b:=fun e=>hl (by rw [e])
  simp [this,show ¬ (a.length : Int) = b.length by omega]
end Go.Proofs.YtfpgidpffhmadaaDoor
namespace Go.Proofs.YtfpgidpffhmadaaDoor
open Go Go.Dw Go.Proofs
attribute [local simp] Nf Bool.cond_eq_ite
theorem Afa (s : List Int) (n : Int) (hs : s.length ≤ 16777215) : RI s n = some (s.filter (· != n)):=by
 unfold RI
 have:=OW (body:=fun p : List Int × Int=>OQ s n p.1 p.2) s (fun (out : List Int) i=>(out,i)) (fun out i=>out.length ≤ i) (fun out l=>some (out ++ l.filter (· != n)))
  (fun out _=>⟨out,by simp [OQ],by simp⟩) (fun out i x r ho hd hi hx=>by
   have w:=My (show i < 9223372036854775807 by omega)
   obtain ⟨_,rfl⟩:=List.getElem?_eq_some_iff.1 hx
   left
   by_cases h : s[i] = n
   ·exact ⟨out,by omega,by simp [OQ,hi,h,w],by simp [h]⟩
   ·exact ⟨out ++ [s[i]],by simp; omega,by simp [OQ,hi,h,w,show out.length ≤ 16777215 by omega],by simp [h]⟩)
  [] (by simp)
 simpa using this
def NK (a b : List Int) : List Int:=b.foldl (fun o x=>OK x o) a
theorem Ael (n : Int) (s : List Int) : (OK n s).length ≤ s.length + 1:=by
 unfold OK
 split
 ·exact Acf n s
 ·omega
theorem union_eq (a b : List Int) (h : a.length + b.length ≤ 1000000) : Pt a b = some (NK a b):=by
 unfold Pt NK
 rw [Nf (by simp; omega)]
 have:=OW (body:=fun p : List Int × Int=>Qn b p.1 p.2) b (fun (out : List Int) i=>(out,i)) (fun out i=>out.length ≤ a.length + i) (fun out l=>some (l.foldl (fun o x=>OK x o) out))
  (fun out _=>⟨out,by simp [Qn],by simp⟩) (fun out i x r ho hd hi hx=>by
   have w:=My (show i < 9223372036854775807 by omega)
   obtain ⟨_,rfl⟩:=List.getElem?_eq_some_iff.1 hx
   have hl:=Ael b[i] out
   left
   exact ⟨OK b[i] out,by omega,by simp [Qn,hi,add_eq out b[i] (by omega),w],by simp⟩)
  a (by simp)
 simpa using this
theorem AcN : ∀ {a b : List Int},a.Pairwise (· < ·) → b.Pairwise (· < ·) → (∀ v ∈ a,v ∈ b) → a.Sublist b
 | [],_,_,_,_=>List.nil_sublist _
 | x :: a,[],_,_,h=>by have:=h x (List.mem_cons_self ..); cases this
 | x :: a,y :: b,ha,hb,h=>by
  rw [List.pairwise_cons] at ha hb
  by_cases e : x = y
  ·subst e
   refine (AcN ha.2 hb.2 fun v hv=>?_).cons_cons x
   rcases List.mem_cons.1 (h v (List.mem_cons_of_mem _ hv)) with h1 | h1
   ·have:=ha.1 v hv; omega
   ·exact h1
  ·have hx : x ∈ b:=by
    rcases List.mem_cons.1 (h x (List.mem_cons_self ..)) with h1 | h1
    ·exact (e h1).elim
    ·exact h1
   have hyx:=hb.1 x hx
   refine (AcN (List.pairwise_cons.2 ha) hb.2 fun v hv=>?_).cons y
   rcases List.mem_cons.1 (h v hv) with h1 | h1
   ·subst h1
    rcases List.mem_cons.1 hv with h2 | h2
    ·omega
    ·have:=ha.1 v h2; omega
   ·exact h1
theorem ML.sub {a b : List Int} (ha : ML a) (hb : ML b) (h : ∀ v ∈ a,v ∈ b) : a.Sublist b:=AcN ha.1 hb.1 h
theorem ML.ext {a b : List Int} (ha : ML a) (hb : ML b) (h : ∀ v,v ∈ a ↔ v ∈ b) : a = b :=
 (ha.sub hb fun v hv=>(h v).1 hv).eq_of_length_le (hb.sub ha fun v hv=>(h v).2 hv).length_le
theorem ML.filter {a : List Int} (ha : ML a) (p : Int → Bool) : ML (a.filter p) :=
 ⟨ha.1.sublist List.filter_sublist,fun x hx=>ha.2 x ((List.mem_filter.1 hx).1)⟩
theorem MH.AeB {n m : Int} {s : List Int} (h : ML s ∧ ∀ x ∈ s,x < n) (hm : 0 ≤ m ∧ m < n) (hn : n ≤ 512) : ML (OK m s) ∧ (∀ x ∈ OK m s,x < n) ∧ ∀ v,v ∈ OK m s ↔ v = m ∨ v ∈ s:=by
 unfold OK
 rw [if_pos (by omega)]
 refine ⟨h.1.QL (by omega),fun x hx=>?_,fun v=>Ww _ _ _⟩
 rw [Ww] at hx
 rcases hx with rfl | hx
 ·exact hm.2
 ·exact h.2 x hx
theorem Sp {n : Int} (hn : n ≤ 512) : ∀ {b a : List Int},(ML a ∧ ∀ x ∈ a,x < n) → (∀ x ∈ b,0 ≤ x ∧ x < n) → (ML (NK a b) ∧ ∀ x ∈ NK a b,x < n) ∧ ∀ v,v ∈ NK a b ↔ v ∈ a ∨ v ∈ b
 | [],a,ha,_=>⟨ha,fun v=>by simp [NK]⟩
 | x :: b,a,ha,hb=>by
  obtain ⟨h1,h2,h3⟩:=MH.AeB ha (hb x (List.mem_cons_self ..)) hn
  obtain ⟨h4,h5⟩:=Sp hn ⟨h1,h2⟩ fun y hy=>hb y (List.mem_cons_of_mem _ hy)
  refine ⟨h4,fun v=>?_⟩
  show v ∈ NK (OK x a) b ↔ _
  rw [h5,h3,List.mem_cons]
  constructor
  ·rintro ((h | h) | h)
   ·exact .inr (.inl h)
   ·exact .inl h
   ·exact .inr (.inr h)
  ·rintro (h | h | h)
   ·exact .inl (.inr h)
   ·exact .inl (.inl h)
   ·exact .inr h
end Go.Proofs.YtfpgidpffhmadaaDoor
namespace Go.Proofs.YtfpgidpffhmadaaDoor
open Go Go.Dw Go.Proofs
attribute [local simp] Nf Bool.cond_eq_ite
def Qb (l : List Int) (p : Int → Prop) : Prop:=ML l ∧ ∀ v,v ∈ l ↔ (0 ≤ v ∧ v < 512) ∧ p v
theorem Qb.eq {l m : List Int} {p q : Int → Prop} (h : Qb l p) (k : Qb m q) (e : ∀ v,0 ≤ v → v < 512 → (p v ↔ q v)) : l = m :=
 h.1.ext k.1 fun v=>by
  rw [h.2,k.2]
  exact ⟨fun ⟨a,b⟩=>⟨a,(e v a.1 a.2).1 b⟩,fun ⟨a,b⟩=>⟨a,(e v a.1 a.2).2 b⟩⟩
theorem Qb.AcC {l : List Int} (h : ML l) : Qb l (· ∈ l):=⟨h,fun v=>⟨fun k=>⟨h.2 v k,k⟩,fun k=>k.2⟩⟩
theorem Qb.mono {l : List Int} {p q : Int → Prop} (h : Qb l p) (e : ∀ v,0 ≤ v → v < 512 → (p v ↔ q v)) : Qb l q :=
 ⟨h.1,fun v=>by rw [h.2]; exact ⟨fun ⟨a,b⟩=>⟨a,(e v a.1 a.2).1 b⟩,fun ⟨a,b⟩=>⟨a,(e v a.1 a.2).2 b⟩⟩⟩
abbrev BS:=LW
def On (t : BS) : Prop:=∀ w ∈ t.toList,WW w
theorem BS.len (t : BS) : t.toList.length = 8:=rfl
def Rh (t : BS) (i : Nat) : Int:=(t.toList[i]?).getD 0
def hasB (t : BS) (v : Int) : Bool:=Wl (Rh t (v.toNat / 64)) (v.toNat % 64)
theorem Vp {t : BS} {i : Nat} (h : i < 8) : t.toList[i]? = some (Rh t i):=by
 have : t.toList[i]? = some (t.toList[i]'(show i < 8 from h)):=List.getElem?_eq_getElem _
 simp [Rh,this]
theorem On.word {t : BS} (h : On t) {i : Nat} (hi : i < 8) : WW (Rh t i):=h _ (List.mem_of_getElem? (Vp hi))
theorem Adn {t : BS} {i j : Nat} {w : Int} (hi : i < 8) : Rh (t.set i w) j = if i = j then w else Rh t j:=by
 unfold Rh
 rw [Ob,List.getElem?_set]
 by_cases h : i = j
 ·subst h
  simp [show i < (LW.toList t).length from hi]
 ·simp [h]
theorem On.set {t : BS} (h : On t) {i : Nat} {w : Int} (hw : WW w) : On (t.set i w):=by
 intro x hx
 rw [Ob] at hx
 rcases List.mem_or_eq_of_mem_set hx with h1 | rfl
 ·exact h x h1
 ·exact hw
theorem On.zero : On ⟨0,0,0,0,0,0,0,0⟩:=by
 intro w hw
 simp [LW.toList] at hw
 subst hw
 exact ⟨by omega,by omega⟩
theorem AeS (v : Int) : hasB ⟨0,0,0,0,0,0,0,0⟩ v = false:=by
 have : Rh ⟨0,0,0,0,0,0,0,0⟩ (v.toNat / 64) = 0:=by
  unfold Rh
  have hl : ∀ i : Nat,(([0,0,0,0,0,0,0,0] : List Int)[i]?).getD 0 = 0:=by
   intro i
   match i with
   | 0 | 1 | 2 | 3 | 4 | 5 | 6 | 7=>rfl
   | n + 8=>rfl
  exact hl _
 unfold hasB
 rw [this]
 simp [Wl]
theorem AgW (n : Int) : 0 ≤ (IntKind.u64.wrap n).tmod 64 ∧ (0 ≤ n → n < 512 → ((IntKind.u64.wrap n).tmod 64).toNat = n.toNat % 64):=by
 obtain ⟨h0,h1⟩:=AbO n
 rw [Int.tmod_eq_emod_of_nonneg h0]
 refine ⟨by omega,fun ha hb=>?_⟩
 rw [Afg ⟨ha,by omega⟩]
 omega
theorem AgV {n : Int} (h0 : 0 ≤ n) (h1 : n < 512) : IntKind.i64.wrap (n.tdiv 64) = ((n.toNat / 64 : Nat) : Int):=by
 rw [Int.tdiv_eq_ediv_of_nonneg h0,wrap64 (by omega) (by omega)]
 omega
theorem Ahx {n : Int} (h0 : 0 ≤ n) (h1 : n < 512) : IntKind.u64.wrap (1 * 2 ^ (Nat.min ((IntKind.u64.wrap n).tmod 64).toNat IntKind.u64.bits)) = ((2 ^ (n.toNat % 64) : Nat) : Int):=by
 rw [(AgW n).2 h0 h1]
 have e : Nat.min (n.toNat % 64) IntKind.u64.bits = n.toNat % 64:=Nat.min_eq_left (by show n.toNat % 64 ≤ 64; omega)
 rw [e,Int.one_mul]
 have hp : 2 ^ (n.toNat % 64) < 18446744073709551616:=by
  have:=Nat.pow_lt_pow_right (a:=2) (by decide) (show n.toNat % 64 < 64 by omega)
  simpa using this
 have:=Yh hp
 rw [Int.natCast_pow] at this ⊢
 exact this
theorem Aeb (j : Nat) (h : j < 64) : 2 ^ j < 18446744073709551616:=by
 have:=Nat.pow_lt_pow_right (a:=2) (by decide) h
 simpa using this
theorem AjW {n v : Int} (h0 : 0 ≤ n) (h0' : 0 ≤ v) (hne : v ≠ n) (h : n.toNat / 64 = v.toNat / 64) : v.toNat % 64 ≠ n.toNat % 64:=by omega
theorem AeY {t : BS} (ht : On t) (n : Int) (b : Bool) : Hs (NS t n b) fun r=>On r ∧ ∀ v,0 ≤ v → v < 512 → hasB r v = if v = n then b else hasB t v:=by
 unfold NS
 refine .chk (AgW n).1 ?_
 rw [AbH,Option.bind_some]
 by_cases h : 0 ≤ n ∧ n < 512
 ·rw [decide_eq_true h]
  obtain ⟨h0,h1⟩:=h
  have hi : n.toNat / 64 < 8:=by omega
  have hb:=Ahx h0 h1
  have hw:=ht.word hi
  have hp : WW ((2 ^ (n.toNat % 64) : Nat) : Int):=WW.nat (Aeb _ (by omega))
  have fin : ∀ (x : Nat),x < 18446744073709551616 → (∀ j,j < 64 → x.testBit j = if j = n.toNat % 64 then b else (Rh t (n.toNat / 64)).toNat.testBit j) →
    On (t.set (n.toNat / 64) (x : Int)) ∧ ∀ v,0 ≤ v → v < 512 → hasB (t.set (n.toNat / 64) (x : Int)) v = if v = n then b else hasB t v:=by
   intro x hx hbit
   refine ⟨ht.set (WW.nat hx),fun v hv0 hv1=>?_⟩
   unfold hasB
   rw [Adn hi]
   by_cases he : v = n
   ·subst he
    rw [if_pos rfl,if_pos rfl]
    show (x : Int).toNat.testBit _ = b
    rw [Int.toNat_natCast,hbit _ (by omega),if_pos rfl]
   ·rw [if_neg he]
    by_cases hq : n.toNat / 64 = v.toNat / 64
    ·rw [if_pos hq]
     show (x : Int).toNat.testBit _ = _
     rw [Int.toNat_natCast,hbit _ (by omega),if_neg (AjW h0 hv0 he hq),hq]
     rfl
    ·rw [if_neg hq]
  cases b with
  | true =>
   simp only [Bool.not_true,cond_false,cond_true]
   rw [AgV h0 h1]
   refine .chk (by omega) ?_
   rw [Int.toNat_natCast,Vp hi,Option.bind_some]
   refine .chk (by omega) ?_
   rw [Option.bind_some]
   refine .pure ?_
   rw [hb,AjY hw hp,Int.toNat_natCast]
   refine fin _ (AeW hw.toNat_lt (Aeb _ (by omega))) fun j hj=>?_
   rw [Nat.testBit_or,Nat.testBit_two_pow]
   by_cases e : j = n.toNat % 64
   ·simp [e]
   ·rw [if_neg e]
    simp [show ¬ n.toNat % 64 = j from fun h=>e h.symm]
  | false =>
   simp only [Bool.not_true,cond_false]
   rw [AgV h0 h1]
   refine .chk (by omega) ?_
   rw [Int.toNat_natCast,Vp hi,Option.bind_some]
   refine .chk (by omega) ?_
   rw [Option.bind_some]
   refine .pure ?_
   rw [hb,AdE hw hp,Int.toNat_natCast]
   refine fin _ (AcM hw.toNat_lt) fun j hj=>?_
   rw [AdL hw.toNat_lt (Aeb _ (by omega)),Nat.testBit_two_pow]
   by_cases e : j = n.toNat % 64
   ·simp [e]
   ·rw [if_neg e]
    simp [show ¬ n.toNat % 64 = j from fun h=>e h.symm]
 ·rw [decide_eq_false h]
  simp only [Bool.not_false,cond_true]
  exact .pure ⟨ht,fun v h0 h1=>by rw [if_neg (fun e=>h (by omega))]⟩
theorem AbL (l : List Int) (hl : l.length ≤ 9000000000000000000) : Hs (NC l) fun r=>On r ∧ ∀ v,0 ≤ v → v < 512 → hasB r v = decide (v ∈ l):=by
 unfold NC
 refine Hs.loop (fun s=>On s.1 ∧ ∃ k : Nat,s.2 = (k : Int) ∧ k ≤ l.length ∧ ∀ v,0 ≤ v → v < 512 → hasB s.1 v = decide (v ∈ l.take k)) (fun s=>l.length - s.2.toNat) ⟨On.zero,0,rfl,Nat.zero_le _,fun v _ _=>by simp [AeS]⟩ ?_
 rintro ⟨t,k'⟩ ⟨ht,k,hk',hk,hall⟩
 simp only at ht hk' hall
 subst hk'
 unfold RW
 refine .dec (fun hlt=>?_) fun hge=>?_
 ·have hlt : k < l.length:=by omega
  refine Hs.bind (P:=fun x=>l[k]? = some x) ⟨l[k],by simp [hlt],by simp [hlt]⟩ fun x hx=>(AeY ht x true).bind fun r hr=>.cnt ?_
  rw [My (by omega)]
  refine ⟨⟨hr.1,k + 1,rfl,hlt,fun v h0 h1=>?_⟩,by simp only; omega⟩
  simp only
  rw [hr.2 v h0 h1,hall v h0 h1,List.take_add_one,hx]
  by_cases e : v = x
  ·simp [e]
  ·simp [e]
 ·have : k = l.length:=by omega
  subst this
  exact .lft (.pure ⟨ht,fun v h0 h1=>by rw [hall v h0 h1,List.take_length]⟩)
theorem ML.snoc {l : List Int} (h : ML l) {z : Int} (h0 : 0 ≤ z ∧ z < 512) (hz : ∀ x ∈ l,x < z) : ML (l ++ [z]):=by
 refine ⟨List.pairwise_append.2 ⟨h.1,List.pairwise_singleton _ _,fun a ha b hb=>?_⟩,fun x hx=>?_⟩
 ·simp only [List.mem_singleton] at hb; subst hb; exact hz a ha
 ·simp only [List.mem_append,List.mem_singleton] at hx
  rcases hx with h1 | rfl
  ·exact h.2 x h1
  ·exact h0
theorem Ye {t : BS} (ht : On t) : Hs (Na t) fun r=>r.2 = t ∧ Qb r.1 (fun v=>hasB t v = true):=by
 unfold Na
 refine Hs.loop (fun s=>∃ i : Nat,s.2 = (i : Int) ∧ i ≤ 8 ∧ Qb s.1 (fun v=>v < 64 * i ∧ hasB t v = true)) (fun s=>8 - s.2.toNat) ⟨0,rfl,by omega,⟨ML.nil,fun v=>by simp; omega⟩⟩ ?_
 rintro ⟨l,i'⟩ ⟨i,hi',hi,hs⟩
 simp only at hi' hs
 subst hi'
 unfold Po
 refine .dec (fun hlt=>?_) fun hge=>?_
 ·have hlt : i < 8:=by omega
  refine .chk (by omega) ?_
  rw [Int.toNat_natCast,Vp hlt,Option.bind_some]
  have hw:=ht.word hlt
  refine Hs.loop (fun s=>WW s.2 ∧ ∃ c : Nat,c ≤ 64 ∧ Qb s.1 (fun v=>v < 64 * i + c ∧ hasB t v = true) ∧ ∀ j,j < 64 → Wl s.2 j = (decide (c ≤ j) && Wl (Rh t i) j)) (fun s=>s.2.toNat) ⟨hw,0,by omega,by simpa using hs,fun j _=>by simp⟩ ?_
  rintro ⟨m,x⟩ ⟨hx,c,hc,hm,hb⟩
  simp only at hx hm hb
  unfold Pp
  refine .bne (fun hne=>?_) fun he=>?_
  ·have hx0 : 0 < x.toNat:=by have:=hx.1; omega
   obtain ⟨k1,k2,k3,k4⟩:=AgI hx0 hx.toNat_lt
   generalize hk : Lib.ctz 64 x.toNat = k at k1 k2 k3 k4
   have ek : AaA x = some (k : Int):=by
    unfold AaA
    rw [Nf (show 0 ≤ x ∧ x < 18446744073709551616 from hx),hk]
   rw [ek,Option.bind_some]
   have hck : c ≤ k:=by
    have:=hb k k1
    unfold Wl at this
    rw [k2] at this
    simp at this
    exact this.1
   have hwk : Wl (Rh t i) k = true:=by
    have:=hb k k1
    unfold Wl at this
    rw [k2] at this
    simp at this
    exact this.2
   have e1 : IntKind.i64.wrap (IntKind.i64.wrap (64 * (i : Int)) + (k : Int)) = ((64 * i + k : Nat) : Int):=by
    rw [wrap64 (n:=64 * (i : Int)) (by omega) (by omega),wrap64 (by omega) (by omega)]; omega
   have e2 : IntKind.u64.wrap (x - 1) = x - 1:=Afg ⟨by omega,by have:=hx.2; omega⟩
   have e3 : (x - 1).toNat = x.toNat - 1:=by omega
   have hz : ∀ v ∈ m,v < ((64 * i + k : Nat) : Int):=fun v hv=>by
    have:=((hm.2 v).1 hv).2.1
    omega
   have hlen:=hm.1.length_le
   refine .chk (by simp; omega) (.cnt ?_)
   rw [e1,e2,Akc hx ⟨by omega,by have:=hx.2; omega⟩,e3]
   refine ⟨⟨WW.nat (AcM hx.toNat_lt),k + 1,by omega,⟨hm.1.snoc (by omega) hz,fun v=>?_⟩,fun j hj=>?_⟩,?_⟩
   ·simp only [List.mem_append,List.mem_singleton,hm.2]
    constructor
    ·rintro (⟨a,b,d⟩ | rfl)
     ·exact ⟨a,by omega,d⟩
     ·refine ⟨by omega,by omega,?_⟩
      unfold hasB
      have q1 : (((64 * i + k : Nat) : Int).toNat) / 64 = i:=by omega
      have q2 : (((64 * i + k : Nat) : Int).toNat) % 64 = k:=by omega
      rw [q1,q2]
      exact hwk
    ·rintro ⟨a,b,d⟩
     by_cases e : v = ((64 * i + k : Nat) : Int)
     ·exact .inr e
     ·refine .inl ⟨a,?_,d⟩
      refine Int.not_le.1 fun hle=>?_
      have q1 : v.toNat / 64 = i:=by omega
      have q3 : v.toNat % 64 < k:=by omega
      have q4 : c ≤ v.toNat % 64:=by omega
      have q5:=hb (v.toNat % 64) (by omega)
      unfold Wl at q5
      rw [k3 _ q3] at q5
      unfold hasB at d
      rw [q1] at d
      unfold Wl at d
      rw [d] at q5
      simp [q4] at q5
   ·simp only
    unfold Wl
    rw [Int.toNat_natCast,k4]
    have q:=hb j hj
    unfold Wl at q
    by_cases h1 : j < k
    ·rw [k3 _ h1]
     simp [show ¬ k + 1 ≤ j by omega]
    ·by_cases h2 : j = k
     ·subst h2
      simp [show ¬ j + 1 ≤ j by omega]
     ·rw [q]
      simp [h2,show c ≤ j by omega,show k + 1 ≤ j by omega]
   ·simp only [Int.toNat_natCast]
    have : x.toNat &&& (x.toNat - 1) ≤ x.toNat - 1:=Nat.and_le_right
    omega
  ·have he : x = 0:=he
   subst he
   refine .lft (.cnt ?_)
   rw [My (by omega)]
   refine ⟨⟨i + 1,rfl,hlt,hm.mono fun v h0 h1=>⟨fun ⟨a,b⟩=>⟨by omega,b⟩,fun ⟨a,b⟩=>⟨?_,b⟩⟩⟩,by simp only; omega⟩
   refine Int.not_le.1 fun hle=>?_
   have q1 : v.toNat / 64 = i:=by omega
   have q4 : c ≤ v.toNat % 64:=by omega
   have q5:=hb (v.toNat % 64) (by omega)
   unfold hasB at b
   rw [q1] at b
   rw [b] at q5
   simp [q4,Wl] at q5
 ·have : i = 8:=by omega
  subst this
  exact .lft (.pure ⟨rfl,hs.mono fun v h0 h1=>⟨fun h=>h.2,fun h=>⟨by omega,h⟩⟩⟩)
theorem Afi {x y : Int} (hx : WW x) (hy : WW y) : Ql x y = some ((x.toNat ||| y.toNat : Nat) : Int):=by
 unfold Ql; rw [AjY hx hy]
theorem AeV {x y : Int} (hx : WW x) (hy : WW y) : Qk x y = some ((AdK x.toNat y.toNat : Nat) : Int):=by
 unfold Qk; rw [AdE hx hy]
theorem Aex {s t : BS} (hs : On s) (ht : On t) (g : Nat → Nat → Nat) (hg : ∀ x y,x < 18446744073709551616 → y < 18446744073709551616 → g x y < 18446744073709551616) (p : Bool → Bool → Bool)
  (hp : ∀ x y j,x < 18446744073709551616 → y < 18446744073709551616 → j < 64 → (g x y).testBit j = p (x.testBit j) (y.testBit j))
  {body : BS × Int → Option ((BS × Int) ⊕ (BS × BS × BS))} (hend : ∀ x,body (x,8) = some (.inr (x,s,t)))
  (hstep : ∀ x (i : Nat),i < 8 → body (x,(i : Int)) = some (.inl (x.set i ((g (Rh s i).toNat (Rh t i).toNat : Nat) : Int),((i + 1 : Nat) : Int)))) :
  Hs (ME body (⟨0,0,0,0,0,0,0,0⟩,0)) fun r=>On r.1 ∧ ∀ v,0 ≤ v → v < 512 → hasB r.1 v = p (hasB s v) (hasB t v):=by
 refine Hs.loop (fun q=>On q.1 ∧ ∃ i : Nat,q.2 = (i : Int) ∧ i ≤ 8 ∧ ∀ j,j < i → Rh q.1 j = ((g (Rh s j).toNat (Rh t j).toNat : Nat) : Int)) (fun q=>8 - q.2.toNat) ⟨On.zero,0,rfl,by omega,fun j hj=>by omega⟩ ?_
 rintro ⟨x,i'⟩ ⟨hx,i,hi',hi,hall⟩
 simp only at hx hi' hall
 subst hi'
 by_cases hlt : i < 8
 ·refine ⟨_,hstep x i hlt,⟨hx.set (WW.nat (hg _ _ (hs.word hlt).toNat_lt (ht.word hlt).toNat_lt)),i + 1,rfl,hlt,fun j hj=>?_⟩,by simp only; omega⟩
  simp only
  rw [Adn hlt]
  by_cases e : i = j
  ·subst e; rw [if_pos rfl]
  ·rw [if_neg e]; exact hall j (by omega)
 ·obtain rfl : i = 8:=by omega
  refine ⟨_,hend x,hx,fun v h0 h1=>?_⟩
  have hv : v.toNat / 64 < 8:=by omega
  unfold hasB
  simp only
  rw [hall _ hv]
  unfold Wl
  rw [Int.toNat_natCast,hp _ _ _ (hs.word hv).toNat_lt (ht.word hv).toNat_lt (by omega)]
theorem Adv {s t : BS} (hs : On s) (ht : On t) : Hs (Nd s t) fun r=>On r.1 ∧ ∀ v,0 ≤ v → v < 512 → hasB r.1 v = (hasB s v || hasB t v):=by
 unfold Nd
 refine Aex hs ht (· ||| ·) (fun x y=>AeW) (· || ·) (fun x y j _ _ _=>Nat.testBit_or ..) (fun x=>by simp [Nj]) fun x i hi=>?_
 have w:=My (show i < 9223372036854775807 by omega)
 simp [Nj,Vp hi,Afi (hs.word hi) (ht.word hi),w,show (i : Int) < 8 by omega]
theorem Adu {s t : BS} (hs : On s) (ht : On t) : Hs (Nc s t) fun r=>On r.1 ∧ ∀ v,0 ≤ v → v < 512 → hasB r.1 v = (hasB s v && !hasB t v):=by
 unfold Nc
 refine Aex hs ht AdK (fun x y hx _=>AcM hx) (fun a b=>a && !b) (fun x y j hx hy _=>AdL hx hy) (fun x=>by simp [Ni]) fun x i hi=>?_
 have w:=My (show i < 9223372036854775807 by omega)
 simp [Ni,Vp hi,AeV (hs.word hi) (ht.word hi),w,show (i : Int) < 8 by omega]
theorem Afm (l : List Int) (hl : l.length ≤ 9000000000000000000) : Hs (RT l) fun r=>Qb r (· ∈ l):=by
 unfold RT
 exact (AbL l hl).bind fun r hr=>(Ye hr.1).bind fun q hq=>.pure (hq.2.mono fun v h0 h1=>by rw [hr.2 v h0 h1]; simp)
theorem AdI (l : List Int) (n : Int) (hl : l.length ≤ 9000000000000000000) : Hs (PQ l n) fun r=>Qb r (fun v=>v ∈ l ∧ v ≠ n):=by
 unfold PQ
 refine (AbL l hl).bind fun r hr=>(AeY hr.1 n false).bind fun u hu=>(Ye hu.1).bind fun q hq=>.pure (hq.2.mono fun v h0 h1=>?_)
 rw [hu.2 v h0 h1,hr.2 v h0 h1]
 by_cases e : v = n <;> simp [e]
theorem Aeo (a b : List Int) (ha : a.length ≤ 9000000000000000000) (hb : b.length ≤ 9000000000000000000) : Hs (OL a b) fun r=>Qb r (fun v=>v ∈ a ∨ v ∈ b):=by
 unfold OL
 refine (AbL a ha).bind fun r hr=>(AbL b hb).bind fun u hu=>(Adv hr.1 hu.1).bind fun x hx=>(Ye hx.1).bind fun q hq=>.pure (hq.2.mono fun v h0 h1=>?_)
 rw [hx.2 v h0 h1,hr.2 v h0 h1,hu.2 v h0 h1]; simp
theorem Aen (a b : List Int) (ha : a.length ≤ 9000000000000000000) (hb : b.length ≤ 9000000000000000000) : Hs (Qs a b) fun r=>Qb r (fun v=>v ∈ a ∧ v ∉ b):=by
 unfold Qs
 refine (AbL a ha).bind fun r hr=>(AbL b hb).bind fun u hu=>(Adu hr.1 hu.1).bind fun x hx=>(Ye hx.1).bind fun q hq=>.pure (hq.2.mono fun v h0 h1=>?_)
 rw [hx.2 v h0 h1,hr.2 v h0 h1,hu.2 v h0 h1]; simp
theorem AdH {s : List Int} (hs : ML s) (n : Int) : PQ s n = some (s.filter (· != n)):=by
 obtain ⟨r,h1,h2⟩:=AdI s n (by have:=hs.length_le; omega)
 rw [h1,h2.eq (Qb.AcC (hs.filter (· != n))) fun v _ _=>by simp [List.mem_filter]]
theorem ZE {a b : List Int} (ha : ML a) (hb : ∀ x ∈ b,0 ≤ x ∧ x < 512) (hl : b.length ≤ 1000) : OL a b = some (NK a b):=by
 obtain ⟨r,h1,h2⟩:=Aeo a b (by have:=ha.length_le; omega) (by omega)
 obtain ⟨h3,h4⟩:=Sp (n:=512) (by omega) (b:=b) ⟨ha,fun x hx=>(ha.2 x hx).2⟩ hb
 rw [h1,h2.eq (Qb.AcC h3.1) fun v _ _=>by rw [h4]]
theorem Afl {b : List Int} (hb : ∀ x ∈ b,0 ≤ x ∧ x < 512) (hl : b.length ≤ 1000) : RT b = some (NK [] b):=by
 obtain ⟨r,h1,h2⟩:=Afm b (by omega)
 obtain ⟨h3,h4⟩:=Sp (n:=512) (by omega) (b:=b) ⟨ML.nil,fun x hx=>by cases hx⟩ hb
 rw [h1,h2.eq (Qb.AcC h3.1) fun v _ _=>by rw [h4]; simp]
end Go.Proofs.YtfpgidpffhmadaaDoor
namespace Go.Proofs.YtfpgidpffhmadaaDoor
open Go Go.Dw Go.Proofs
attribute [local simp] Nf Bool.cond_eq_ite
def okC (c : LU) : Prop:=0 ≤ c.at_ ∧ c.at_ ≤ c.list.length ∧ c.list.length ≤ 1000 ∧ ∀ v ∈ c.list,0 ≤ v ∧ v ≤ 255
theorem AjX (l : List Int) (n : Int) (hl : qL (Pk .u8) l) (h0 : 0 ≤ n) (h1 : n ≤ 1000) : ∃ c,Ws l n = some c ∧ okC c:=by
 unfold Ws
 have e : VF (l.length : Int) n = min (l.length : Int) n:=Ahe _ _
 rw [e]
 refine ⟨_,by rw [Nf (by omega)],by simp,?_,?_,?_⟩
 ·simp
 ·simp only [List.length_take]; omega
 ·intro v hv
  have:=hl.2 v (List.mem_of_mem_take hv)
  simpa [Pk,IntKind.min,IntKind.max,IntKind.signed,IntKind.bits] using this
theorem Ahh (c : LU) (h : okC c) (n : Int) (h1 : n ≤ 1099511627776) : ∃ r c',Mh c n = some (r,c') ∧ okC c' ∧ 0 ≤ r ∧ (r < n ∨ r = 0):=by
 obtain ⟨ha,hb,hc,hd⟩:=h
 unfold Mh QY
 by_cases hl : c.at_ < c.list.length
 ·by_cases hn : n < 1
  ·exact ⟨0,c,by simp [hl,hn],⟨ha,hb,hc,hd⟩,by omega,.inr rfl⟩
  ·have hx : c.list[c.at_.toNat]? = some (c.list[c.at_.toNat]'(by omega)):=List.getElem?_eq_getElem _
   have hv:=hd _ (List.getElem_mem (show c.at_.toNat < c.list.length by omega))
   generalize hq : c.list[c.at_.toNat]'(by omega) = v at hx hv
   have e1 : IntKind.i64.wrap v = v:=wrap64 (by omega) (by omega)
   have hm0 : 0 ≤ v * n:=Int.mul_nonneg hv.1 (by omega)
   have hm1 : v * n ≤ 255 * n:=Int.mul_le_mul_of_nonneg_right hv.2 (by omega)
   have e2 : IntKind.i64.wrap (v * n) = v * n:=wrap64 (by omega) (by omega)
   have e3 : (v * n).tdiv 256 = v * n / 256:=Int.tdiv_eq_ediv_of_nonneg hm0
   have e4 : IntKind.i64.wrap (v * n / 256) = v * n / 256:=wrap64 (by omega) (by omega)
   have e5 : IntKind.i64.wrap (c.at_ + 1) = c.at_ + 1:=wrap64 (by omega) (by omega)
   refine ⟨v * n / 256,⟨c.list,c.at_ + 1⟩,?_,⟨by simp only; omega,by simp only; omega,hc,hd⟩,by omega,.inl (by omega)⟩
   simp [hl,hn,Ra,Vk _ ha,hx,e1,e2,e3,e4,e5]
 ·exact ⟨0,c,by simp [hl],⟨ha,hb,hc,hd⟩,by omega,.inr rfl⟩
end Go.Proofs.YtfpgidpffhmadaaDoor
namespace Go.Proofs.YtfpgidpffhmadaaDoor
open Go Go.Dw Go.Proofs
theorem Ahf {c : LU} (h : okC c) {n : Int} (h1 : n ≤ 1099511627776) : Hs (Mh c n) fun p=>okC p.2 ∧ 0 ≤ p.1 ∧ (p.1 < n ∨ p.1 = 0):=by
 obtain ⟨r,c',e,h2,h3,h4⟩:=Ahh c h n h1
 exact ⟨(r,c'),e,h2,h3,h4⟩
theorem MG {c : LU} (h : okC c) {n : Int} (h0 : 1 ≤ n) (h1 : n ≤ 1099511627776) : Hs (Mh c n) fun p=>okC p.2 ∧ 0 ≤ p.1 ∧ p.1 < n :=
 (Ahf h h1).mono fun r hr=>⟨hr.1,hr.2.1,by omega⟩
def ZR (s : Mq) : Prop:=s.Size ∈ ([8,4,8,1,2,16,8] : List Int) ∧ s.Align ∈ ([8,4,1,8,16,2,32,64] : List Int)
def W64 (w : Int) : Prop:=0 ≤ w ∧ w < 18446744073709551616
def Reg (a : Int) : Prop:=0 ≤ a ∧ a < 4
theorem Ahk {c : LU} (h : okC c) : Hs (PC c) fun p=>okC p.2 ∧ ZR p.1:=by
 unfold PC
 refine (MG h (by omega) (by omega)).bind fun r hr=>.chk (by simp; omega) ?_
 refine (Hs.get hr.2.1 (by simp; omega) fun x hx=>List.mem_of_getElem? hx).bind fun x hx=>?_
 refine (MG hr.1 (by omega) (by omega)).bind fun r' hr'=>.chk (by simp; omega) ?_
 refine (Hs.get hr'.2.1 (by simp; omega) fun x hx=>List.mem_of_getElem? hx).bind fun y hy=>?_
 exact .pure ⟨hr'.1,hx,hy⟩
theorem AgL {c : LU} (h : okC c) {m : Int} (hm : 0 ≤ m) (hm' : m ≤ 1000) : Hs (Ph c m) fun p=>okC p.2 ∧ (p.1.length : Int) ≤ m ∧ ∀ s ∈ p.1,ZR s:=by
 unfold Ph
 have w : IntKind.i64.wrap (m + 1) = m + 1:=wrap64 (by omega) (by omega)
 rw [w]
 refine (MG h (by omega) (by omega)).bind fun r hr=>?_
 refine Hs.loop (fun s=>okC ⟨s.1,s.2.1⟩ ∧ (s.2.2.1.length : Int) + s.2.2.2 ≤ m ∧ (∀ x ∈ s.2.2.1,ZR x) ∧ 0 ≤ s.2.2.2) (fun s=>s.2.2.2.toNat) ⟨hr.1,by simp; omega,by simp,hr.2.1⟩ ?_
 rintro ⟨l,a,sl,n⟩ ⟨hc,hl,hs,hn⟩
 simp only at hc hl hs hn
 unfold QD
 refine .dec (fun hlt=>?_) fun hlt=>?_
 ·have hlt : 0 < n:=hlt
  have w : IntKind.i64.wrap (n - 1) = n - 1:=wrap64 (by omega) (by omega)
  refine (Ahk hc).bind fun x hx=>.chk (by simp; omega) (.cnt ⟨⟨hx.1,?_,?_,?_⟩,?_⟩)
  ·simp only [w,List.length_append,List.length_singleton]; omega
  ·intro y hy
   rcases List.mem_append.1 hy with h1 | h1
   ·exact hs y h1
   ·rw [List.mem_singleton] at h1; subst h1; exact hx.2
  ·simp only [w]; omega
  ·simp only [w]; omega
 ·exact .lft (.pure ⟨hc,by simp only; omega,hs⟩)
theorem Aey {c : LU} (h : okC c) : Hs (ON c) fun p=>okC p.2 ∧ W64 p.1:=by
 unfold ON
 refine (MG h (by omega) (by omega)).bind fun r hr=>.beq (fun _=>?_) fun _=>.beq (fun _=>?_) fun _=>.beq (fun _=>?_) fun _=>?_
 ·exact (MG hr.1 (by omega) (by omega)).bind fun r' hr'=>.pure ⟨hr'.1,AbO _⟩
 ·exact (MG hr.1 (by omega) (by omega)).bind fun r' hr'=>.chk hr'.2.1 (.pure ⟨hr'.1,AbO _⟩)
 ·exact .pure ⟨hr.1,by simp only; unfold W64; omega⟩
 ·exact (MG hr.1 (by omega) (by omega)).bind fun r' hr'=>.pure ⟨hr'.1,AbO _⟩
def Afk (sl : List Mq) (a b : Int) : Prop:=0 ≤ a ∧ a < sl.length ∧ ∃ x y,sl[a.toNat]? = some x ∧ sl[b.toNat]? = some y ∧ x.Size = y.Size
theorem Ahd {c : LU} (h : okC c) {f : LX} {s : Int} (h0 : 0 ≤ s) (h1 : s < f.Slots.length) (hl : f.Slots.length ≤ 1000) : Hs (PE c f s) fun p=>okC p.2 ∧ Afk f.Slots p.1 s:=by
 unfold PE
 refine Hs.loop (fun st=>0 ≤ st.2 ∧ st.2 ≤ f.Slots.length ∧ (st.1.length : Int) ≤ st.2 ∧ (∀ v ∈ st.1,Afk f.Slots v s) ∧ (s < st.2 → 0 < st.1.length)) (fun st=>f.Slots.length - st.2.toNat) ⟨by simp,by simp,by simp,by simp,fun h=>by simp at h; omega⟩ ?_
 rintro ⟨l,k⟩ ⟨hk0,hk1,hll,hv,hne⟩
 simp only at hk0 hk1 hll hv hne
 unfold Rc
 refine .dec (fun hlt=>?_) fun hlt=>.lft ?_
 ·have w : IntKind.i64.wrap (k + 1) = k + 1:=wrap64 (by omega) (by omega)
  refine (Hs.ix hk0 hlt fun x hx=>hx).bind fun x hx=>(Hs.ix h0 h1 fun x hx=>hx).bind fun y hy=>.beq (fun he=>?_) fun he=>?_
  ·refine .chk (by simp; omega) (.cnt ⟨⟨by simp only [w]; omega,by simp only [w]; omega,by simp only [w,List.length_append,List.length_singleton]; omega,?_,by simp⟩,by simp only [w]; omega⟩)
   intro v hv'
   rcases List.mem_append.1 hv' with h2 | h2
   ·exact hv v h2
   ·rw [List.mem_singleton] at h2; subst h2
    exact ⟨hk0,hlt,x,y,hx,hy,he⟩
  ·refine .cnt ⟨⟨by simp only [w]; omega,by simp only [w]; omega,by simp only [w]; omega,hv,fun h3=>?_⟩,by simp only [w]; omega⟩
   simp only [w] at h3
   by_cases e : s = k
   ·subst e; rw [hx] at hy; cases hy; exact (he rfl).elim
   ·exact hne (by omega)
 ·have hlt : ¬ k < f.Slots.length:=hlt
  have hl1:=hne (by omega)
  refine (MG h (n:=(l.length : Int)) (by omega) (by omega)).bind fun r hr=>.chk ⟨hr.2.1,hr.2.2⟩ ?_
  exact (Hs.get hr.2.1 hr.2.2 fun x hx=>hv x (List.mem_of_getElem? hx)).bind fun x hx=>.pure ⟨hr.1,hx⟩
inductive MZ (sl : List Mq) (np i : Int) (ps : List Int) (T : Int → Prop) : LS → Prop
 | store (a b : Int) : 0 ≤ a → a < sl.length → Reg b → MZ sl np i ps T ⟨16,a,b,0,0⟩
 | load (a b : Int) : Reg a → 0 ≤ b → b < sl.length → MZ sl np i ps T ⟨15,a,b,0,0⟩
 | move (a b : Int) : Afk sl a b → 0 ≤ b → b < sl.length → MZ sl np i ps T ⟨17,a,b,0,0⟩
 | const (a w : Int) : Reg a → W64 w → MZ sl np i ps T ⟨0,a,0,0,w⟩
 | bin (op a b c : Int) : 2 ≤ op → op < 12 → Reg a → Reg b → 0 ≤ c → c < 8 → MZ sl np i ps T ⟨op,a,b,c,0⟩
 | out (a : Int) : Reg a → MZ sl np i ps T ⟨14,a,0,0,0⟩
 | un (op a : Int) : (op = 13 ∨ op = 12 ∨ op = 1) → Reg a → MZ sl np i ps T ⟨op,a,0,0,0⟩
 | param (a b : Int) : Reg a → 0 ≤ b → b < np → MZ sl np i ps T ⟨19,a,b,0,0⟩
 | arg (a b : Int) : 0 ≤ a → a < 4 → Reg b → MZ sl np i ps T ⟨18,a,b,0,0⟩
 | call (j : Int) : i < j → j < ps.length → MZ sl np i ps T ⟨22,j,0,0,0⟩
 | jump (t : Int) : T t → MZ sl np i ps T ⟨20,t,0,0,0⟩
 | branch (a t : Int) : Reg a → T t → MZ sl np i ps T ⟨21,a,t,0,0⟩
def Adw (ps : List Int) : Prop:=(∀ v ∈ ps,0 ≤ v ∧ v < 4) ∧ ps.length ≤ 1000
theorem Ahb {c : LU} (h : okC c) {f : LX} {i : Int} {ps : List Int} (T : Int → Prop) (hf : f.Slots.length ≤ 1000) (hp : f.Params < 4) (hi : 0 ≤ i) (hi' : i < ps.length) (hps : Adw ps) :
  Hs (PD c f i ps) fun p=>okC p.2 ∧ p.1.length ≤ 4 ∧ ∀ x ∈ p.1,MZ f.Slots f.Params i ps T x:=by
 unfold PD
 refine (MG h (by omega) (by omega)).bind fun r hr=>(MG hr.1 (by omega) (by omega)).bind fun k hk=>?_
 have hreg : Reg r.1:=hr.2
 have one : ∀ {x : LS} {c' : LU},okC c' → MZ f.Slots f.Params i ps T x → Hs (some (([x] : List LS),c')) fun p=>okC p.2 ∧ p.1.length ≤ 4 ∧ ∀ x ∈ p.1,MZ f.Slots f.Params i ps T x:=fun hc hx=>.pure ⟨hc,by simp,by simpa using hx⟩
 have j6 : ∀ b,(b = true → i + 1 < ps.length) → Hs (OA k ps i r b) fun p=>okC p.2 ∧ p.1.length ≤ 4 ∧ ∀ x ∈ p.1,MZ f.Slots f.Params i ps T x:=by
  intro b hb
  unfold OA
  refine .cond (fun hb'=>?_) fun _=>one hk.1 (.out _ hreg)
  have hil:=hb hb'
  have hlen:=hps.2
  have w1 : IntKind.i64.wrap ((ps.length : Int) - i) = (ps.length : Int) - i:=wrap64 (by omega) (by omega)
  have w2 : IntKind.i64.wrap ((ps.length : Int) - i - 1) = (ps.length : Int) - i - 1:=wrap64 (by omega) (by omega)
  have w3 : IntKind.i64.wrap (i + 1) = i + 1:=wrap64 (by omega) (by omega)
  rw [w1,w2]
  refine (MG hk.1 (by omega) (by omega)).bind fun q hq=>?_
  have w4 : IntKind.i64.wrap (i + 1 + q.1) = i + 1 + q.1:=wrap64 (by omega) (by omega)
  refine Hs.loop (fun s=>okC ⟨s.1,s.2.1⟩ ∧ (s.2.2.1.length : Int) ≤ s.2.2.2 ∧ 0 ≤ s.2.2.2 ∧ s.2.2.2 ≤ 3 ∧ ∀ x ∈ s.2.2.1,MZ f.Slots f.Params i ps T x) (fun s=>(3 - s.2.2.2).toNat) ⟨hq.1,by simp,by simp,by simp,by simp⟩ ?_
  rintro ⟨l,a,out,n⟩ ⟨hc,ho,hn0,hn3,hall⟩
  simp only at hc ho hn0 hn3 hall
  unfold Rb
  simp only [w3,w4]
  refine (Hs.ix (by omega) (by omega) fun x hx=>hps.1 x (List.mem_of_getElem? hx)).bind fun x hx=>.dec (fun hlt=>?_) fun hlt=>.lft ?_
  ·have w5 : IntKind.i64.wrap (n + 1) = n + 1:=wrap64 (by omega) (by omega)
   refine (MG hc (by omega) (by omega)).bind fun u hu=>.dec (fun _=>?_) fun _=>?_
   ·refine (MG hu.1 (by omega) (by omega)).bind fun v hv=>.chk (by simp; omega) (.cnt ⟨⟨hv.1,by simp only [w5,List.length_append,List.length_singleton]; omega,by simp only [w5]; omega,by simp only [w5]; omega,?_⟩,by simp only [w5]; omega⟩)
    intro y hy
    rcases List.mem_append.1 hy with h2 | h2
    ·exact hall y h2
    ·rw [List.mem_singleton] at h2; subst h2
     exact .arg _ _ hn0 (by omega) hv.2
   ·exact .cnt ⟨⟨hu.1,by simp only [w5]; omega,by simp only [w5]; omega,by simp only [w5]; omega,hall⟩,by simp only [w5]; omega⟩
  ·refine .chk (by simp; omega) (.pure ⟨hc,by simp only [List.length_append,List.length_singleton]; omega,?_⟩)
   intro y hy
   rcases List.mem_append.1 hy with h2 | h2
   ·exact hall y h2
   ·rw [List.mem_singleton] at h2; subst h2
    exact .call _ (by omega) (by omega)
 have j5 : ∀ b,(b = true → 0 < f.Params) → Hs (Oz k f r ps i b) fun p=>okC p.2 ∧ p.1.length ≤ 4 ∧ ∀ x ∈ p.1,MZ f.Slots f.Params i ps T x:=by
  intro b hb
  unfold Oz
  refine .cond (fun hb'=>?_) fun _=>.dec (fun _=>j6 _ fun hd=>?_) fun _=>j6 _ fun hd=>(by cases hd)
  ·have:=hb hb'
   exact (MG hk.1 (by omega) (by omega)).bind fun u hu=>one hu.1 (.param _ _ hreg hu.2.1 hu.2.2)
  ·have hlen:=hps.2
   have:=of_decide_eq_true hd
   rw [wrap64 (by omega) (by omega)] at this
   exact this
 have j4 : ∀ b,(b = true → 0 < f.Slots.length) → Hs (Oy k f r ps i b) fun p=>okC p.2 ∧ p.1.length ≤ 4 ∧ ∀ x ∈ p.1,MZ f.Slots f.Params i ps T x:=by
  intro b hb
  unfold Oy
  refine .cond (fun hb'=>?_) fun _=>.dec (fun _=>?_) fun _=>.dec (fun _=>?_) fun _=>.dec (fun _=>one hk.1 (.out _ hreg)) fun _=>.beq (fun _=>?_) fun _=>.beq (fun _=>j5 _ fun hd=>of_decide_eq_true hd) fun _=>j5 _ fun hd=>(by cases hd)
  ·have:=hb hb'
   exact (MG hk.1 (by omega) (by omega)).bind fun u hu=>(Ahd hu.1 hu.2.1 hu.2.2 hf).bind fun v hv=>one hv.1 (.move _ _ hv.2 hu.2.1 hu.2.2)
  ·exact (Aey hk.1).bind fun u hu=>one hu.1 (.const _ _ hreg hu.2)
  ·refine (MG hk.1 (by omega) (by omega)).bind fun u hu=>(MG hu.1 (by omega) (by omega)).bind fun v hv=>(MG hv.1 (by omega) (by omega)).bind fun z hz=>one hz.1 ?_
   rw [wrap64 (by omega) (by omega)]
   exact .bin _ _ _ _ (by omega) (by omega) hreg hv.2 hz.2.1 hz.2.2
  ·refine (MG hk.1 (by omega) (by omega)).bind fun u hu=>.chk (by simp; omega) ?_
   refine (Hs.get hu.2.1 (by simp; omega) fun x hx=>List.mem_of_getElem? hx).bind fun x hx=>one hu.1 (.un _ _ (by simpa using hx) hreg)
 have j3 : ∀ b,(b = true → 0 < f.Slots.length) → Hs (Ox k f r ps i b) fun p=>okC p.2 ∧ p.1.length ≤ 4 ∧ ∀ x ∈ p.1,MZ f.Slots f.Params i ps T x:=by
  intro b hb
  unfold Ox
  refine .cond (fun hb'=>?_) fun _=>.dec (fun _=>j4 _ fun hd=>by have:=of_decide_eq_true hd; omega) fun _=>j4 _ fun hd=>(by cases hd)
  have:=hb hb'
  exact (MG hk.1 (by omega) (by omega)).bind fun u hu=>one hu.1 (.load _ _ hreg hu.2.1 hu.2.2)
 have j2 : ∀ b,(b = true → 0 < f.Slots.length) → Hs (Ow k f r ps i b) fun p=>okC p.2 ∧ p.1.length ≤ 4 ∧ ∀ x ∈ p.1,MZ f.Slots f.Params i ps T x:=by
  intro b hb
  unfold Ow
  refine .cond (fun hb'=>?_) fun _=>.dec (fun _=>j3 _ fun hd=>by have:=of_decide_eq_true hd; omega) fun _=>j3 _ fun hd=>(by cases hd)
  have:=hb hb'
  exact (MG hk.1 (by omega) (by omega)).bind fun u hu=>one hu.1 (.store _ _ hu.2.1 hu.2.2 hreg)
 exact .dec (fun _=>j2 _ fun hd=>by have:=of_decide_eq_true hd; omega) fun _=>j2 _ fun hd=>(by cases hd)
theorem MZ.mono {sl : List Mq} {np i : Int} {ps : List Int} {T T' : Int → Prop} {x : LS} (h : MZ sl np i ps T x) (hT : ∀ t,T t → T' t) : MZ sl np i ps T' x:=by
 cases h with
 | store a b h1 h2 h3=>exact .store a b h1 h2 h3
 | load a b h1 h2 h3=>exact .load a b h1 h2 h3
 | move a b h1 h2 h3=>exact .move a b h1 h2 h3
 | const a w h1 h2=>exact .const a w h1 h2
 | bin op a b c h1 h2 h3 h4 h5 h6=>exact .bin op a b c h1 h2 h3 h4 h5 h6
 | out a h1=>exact .out a h1
 | un op a h1 h2=>exact .un op a h1 h2
 | param a b h1 h2 h3=>exact .param a b h1 h2 h3
 | arg a b h1 h2 h3=>exact .arg a b h1 h2 h3
 | call j h1 h2=>exact .call j h1 h2
 | jump t h1=>exact .jump t (hT t h1)
 | branch a t h1 h2=>exact .branch a t h1 (hT t h2)
def Aap (x : LS) : Prop:=x = ⟨23,0,0,0,0⟩ ∨ ∃ w,W64 w ∧ x = ⟨24,0,0,0,w⟩
def Wu (x : LS) (t : Int) : LS :=
 if x.Op = 20 ∧ x.A < 0 then ⟨x.Op,t,x.B,x.C,x.Imm⟩ else if x.Op = 21 ∧ x.B < 0 then ⟨x.Op,x.A,t,x.C,x.Imm⟩ else x
theorem Aap.fix {x : LS} (h : Aap x) (t : Int) : Wu x t = x:=by
 rcases h with rfl | ⟨w,_,rfl⟩ <;> simp [Wu]
theorem MZ.fix {sl : List Mq} {np i : Int} {ps : List Int} {T : Int → Prop} {x : LS} (h : MZ sl np i ps (· = -1) x) {t : Int} (ht : T t) : MZ sl np i ps T (Wu x t):=by
 cases h with
 | store a b h1 h2 h3=>exact .store a b h1 h2 h3
 | load a b h1 h2 h3=>exact .load a b h1 h2 h3
 | move a b h1 h2 h3=>exact .move a b h1 h2 h3
 | const a w h1 h2=>exact .const a w h1 h2
 | bin op a b c h1 h2 h3 h4 h5 h6 =>
  have : Wu ⟨op,a,b,c,0⟩ t = ⟨op,a,b,c,0⟩:=by simp [Wu,show op ≠ 20 by omega,show op ≠ 21 by omega]
  rw [this]
  exact .bin op a b c h1 h2 h3 h4 h5 h6
 | out a h1=>exact .out a h1
 | un op a h1 h2 =>
  have : Wu ⟨op,a,0,0,0⟩ t = ⟨op,a,0,0,0⟩:=by simp [Wu,show op ≠ 20 by omega,show op ≠ 21 by omega]
  rw [this]
  exact .un op a h1 h2
 | param a b h1 h2 h3=>exact .param a b h1 h2 h3
 | arg a b h1 h2 h3=>exact .arg a b h1 h2 h3
 | call j h1 h2=>exact .call j h1 h2
 | jump q h1=>subst h1; exact .jump t ht
 | branch a q h1 h2=>subst h2; exact .branch a t h1 ht
theorem Akp {code : List LS} {k : Nat} {x : LS} (h : code[k]? = some x) (r : Int × LU) (t : Int) : MX (k : Int) code r t = some (.inl (r.2.list,r.2.at_,code.set k (Wu x t),IntKind.i64.wrap ((k : Int) + 1))):=by
 obtain ⟨hl,hx⟩:=List.getElem?_eq_some_iff.1 h
 have hset : code.set k x = code:=by rw [← hx]; exact List.set_getElem_self hl
 obtain ⟨op,a,b,c,w⟩:=x
 unfold MX Ok
 by_cases h20 : op = 20
 ·subst h20
  by_cases ha : a < 0
  ·simp [Nf,hl,hx,Wu,ha]
  ·simp [Nf,hl,hx,Wu,ha,hset]
 ·by_cases h21 : op = 21
  ·subst h21
   by_cases hb : b < 0
   ·simp [Nf,hl,hx,Wu,hb]
   ·simp [Nf,hl,hx,Wu,hb,hset]
  ·have e20 : (op == 20) = false:=by simpa using h20
   have e21 : (op == 21) = false:=by simpa using h21
   simp [Nf,hl,hx,Wu,e20,e21,h20,h21,hset]
structure Uw (ps : List Int) (i most : Int) (f : LX) : Prop where
 par : ps[i.toNat]? = some f.Params
 slots : f.Slots.length ≤ 6
 slot : ∀ s ∈ f.Slots,ZR s
 len : 1 ≤ f.Code.length
 len' : (f.Code.length : Int) ≤ 7 + 5 * most
 body : ∀ (k : Nat) x,f.Code[k]? = some x → k + 1 < f.Code.length → MZ f.Slots f.Params i ps (fun t=>0 ≤ t ∧ t < f.Code.length) x
 last : ∀ x,f.Code[f.Code.length - 1]? = some x → Aap x
theorem AjV {l : List Int} {a : Int} (h : okC ⟨l,a⟩) {sl : List Mq} {np i : Int} {ps : List Int} {most : Int} {code : List LS} (hpar : ps[i.toNat]? = some np) (hsl : sl.length ≤ 6) (hsl' : ∀ s ∈ sl,ZR s)
  (hlen : 1 ≤ code.length) (hlen' : (code.length : Int) ≤ 7 + 5 * most) (hm : most ≤ 1000) (hb : ∀ (k : Nat) x,code[k]? = some x → k + 1 < code.length → MZ sl np i ps (· = -1) x) (he : ∀ x,code[code.length - 1]? = some x → Aap x) :
  Hs (ME (fun s : List Int × Int × List LS × Int=>Oj np sl s.1 s.2.1 s.2.2.1 s.2.2.2) (l,a,code,0)) fun p=>okC p.2 ∧ Uw ps i most p.1:=by
 refine Hs.loop (fun s=>okC ⟨s.1,s.2.1⟩ ∧ s.2.2.1.length = code.length ∧ ∃ k : Nat,s.2.2.2 = (k : Int) ∧ k ≤ code.length ∧ (∀ x,s.2.2.1[code.length - 1]? = some x → Aap x) ∧
  ∀ (j : Nat) x,s.2.2.1[j]? = some x → j + 1 < code.length → MZ sl np i ps (fun t=>if j < k then 0 ≤ t ∧ t < code.length else t = -1) x) (fun s=>code.length - s.2.2.2.toNat) ⟨h,rfl,0,rfl,Nat.zero_le _,he,fun j x hj hj'=>(hb j x hj hj').mono fun t ht=>by simpa using ht⟩ ?_
 rintro ⟨l,a,code',k⟩ ⟨hc,hl,k,rfl,hk,he',hall⟩
 simp only at hc hl he' hall
 unfold Oj
 refine .dec (fun hlt=>?_) fun hlt=>?_
 ·have hlt : k < code.length:=by rw [← hl]; exact Int.ofNat_lt.1 hlt
  have w:=My (show k < 9223372036854775807 by omega)
  have hx : code'[k]? = some (code'[k]'(by omega)):=List.getElem?_eq_getElem _
  generalize code'[k]'(by omega) = x at hx
  have step : ∀ (r : Int × LU) (t : Int),okC r.2 → 0 ≤ t → t < code.length → Hs (MX (k : Int) code' r t) (Rnd (fun s : List Int × Int × List LS × Int=>okC ⟨s.1,s.2.1⟩ ∧ s.2.2.1.length = code.length ∧ ∃ k : Nat,s.2.2.2 = (k : Int) ∧ k ≤ code.length ∧ (∀ x,s.2.2.1[code.length - 1]? = some x → Aap x) ∧
    ∀ (j : Nat) x,s.2.2.1[j]? = some x → j + 1 < code.length → MZ sl np i ps (fun t=>if j < k then 0 ≤ t ∧ t < code.length else t = -1) x) (fun s=>code.length - s.2.2.2.toNat) (l,a,code',(k : Int)) (fun p : LX × LU=>okC p.2 ∧ Uw ps i most p.1)):=by
   intro r t hr ht0 ht1
   rw [Akp hx]
   refine .pure ⟨⟨hr,by simp [hl],k + 1,w,hlt,?_,?_⟩,by simp only [w]; omega⟩
   ·intro y hy
    simp only at hy
    by_cases e : k = code.length - 1
    ·rw [← e,List.getElem?_set_self (by omega)] at hy
     obtain rfl:=Option.some.inj hy
     have hex:=he' x (by rw [← e]; exact hx)
     rw [hex.fix]; exact hex
    ·rw [List.getElem?_set_ne e] at hy
     exact he' y hy
   ·intro j y hy hj
    simp only at hy
    by_cases e : k = j
    ·subst e
     rw [List.getElem?_set_self (by omega)] at hy
     obtain rfl:=Option.some.inj hy
     exact ((hall k x hx hj).mono fun t ht=>by simpa using ht).fix (by rw [if_pos (by omega)]; exact ⟨ht0,ht1⟩)
    ·rw [List.getElem?_set_ne e] at hy
     refine (hall j y hy hj).mono fun t ht=>?_
     by_cases e2 : j < k
     ·rw [if_pos e2] at ht; rw [if_pos (by omega)]; exact ht
     ·rw [if_neg e2] at ht; rw [if_neg (by omega)]; exact ht
  refine (MG hc (by omega) (by omega)).bind fun r hr=>?_
  have w1 : IntKind.i64.wrap ((k : Int) + r.1) = (k : Int) + r.1:=wrap64 (by omega) (by omega)
  have w2 : IntKind.i64.wrap ((k : Int) + r.1 - 2) = (k : Int) + r.1 - 2:=wrap64 (by omega) (by omega)
  have w3 : IntKind.i64.wrap ((code'.length : Int) - 1) = (code'.length : Int) - 1:=wrap64 (by omega) (by omega)
  simp only [w1,w2,w3]
  exact .dec (fun _=>step r _ hr.1 (by omega) (by omega)) fun _=>.dec (fun _=>step r _ hr.1 (by omega) (by omega)) fun _=>step r _ hr.1 (by omega) (by omega)
 ·have hlt : ¬ k < code'.length:=fun h=>hlt (Int.ofNat_lt.2 h)
  have hkl : k = code.length:=by omega
  refine .lft (.pure ⟨hc,hpar,hsl,hsl',by simp only; omega,by simp only; omega,?_,?_⟩)
  ·intro j x hj hj'
   simp only at hj hj' ⊢
   rw [hl] at hj' ⊢
   refine (hall j x hj hj').mono fun t ht=>?_
   rw [if_pos (by omega)] at ht
   exact ht
  ·intro x hx
   simp only at hx
   rw [hl] at hx
   exact he' x hx
theorem AgU {l : List Int} {a : Int} (h : okC ⟨l,a⟩) {sl : List Mq} {np i : Int} {ps : List Int} {most : Int} {code : List LS} (hpar : ps[i.toNat]? = some np) (hsl : sl.length ≤ 6) (hsl' : ∀ s ∈ sl,ZR s)
  (hlen : (code.length : Int) ≤ 6 + 5 * most) (hm : most ≤ 1000) (hb : ∀ x ∈ code,MZ sl np i ps (· = -1) x) {e1 e2 : Int} (he : Aap ⟨e1,0,0,0,e2⟩) :
  Hs (ND code np sl l a e1 e2) fun p=>okC p.2 ∧ Uw ps i most p.1:=by
 unfold ND
 refine .chk (by simp; omega) (AjV h hpar hsl hsl' (by simp) (by simp; omega) hm ?_ ?_)
 ·intro k x hx hk
  simp only [List.length_append,List.length_singleton] at hk
  rw [List.getElem?_append_left (by omega)] at hx
  exact hb x (List.mem_of_getElem? hx)
 ·intro x hx
  simp at hx
  subst hx
  exact he
theorem Aer {c : LU} (h : okC c) {i : Int} {ps : List Int} {most : Int} (hi : 0 ≤ i) (hi' : i < ps.length) (hps : Adw ps) (hm0 : 0 ≤ most) (hm : most ≤ 1000) :
  Hs (Og c i ps most) fun p=>okC p.2 ∧ Uw ps i most p.1:=by
 unfold Og
 refine (Hs.ix hi hi' fun x hx=>hx).bind fun np hnp=>(AgL h (by omega) (by omega)).bind fun sl hsl=>?_
 obtain ⟨hc0,hsl1,hsl2⟩:=hsl
 have hnp4:=hps.1 np (List.mem_of_getElem? hnp)
 refine Hs.loop (fun s=>okC ⟨s.1,s.2.1⟩ ∧ 0 ≤ s.2.2.2 ∧ s.2.2.2 ≤ sl.1.length ∧ (s.2.2.1.length : Int) ≤ s.2.2.2 ∧ ∀ x ∈ s.2.2.1,MZ sl.1 np i ps (· = -1) x) (fun s=>sl.1.length - s.2.2.2.toNat) ⟨hc0,by simp,by simp,by simp,by simp⟩ ?_
 rintro ⟨l,a,code,s⟩ ⟨hc,hs0,hs1,hcl,hall⟩
 simp only at hc hs0 hs1 hcl hall
 unfold Pr
 refine .dec (fun hlt=>?_) fun hlt=>?_
 ·have hlt : s < sl.1.length:=hlt
  have w : IntKind.i64.wrap (s + 1) = s + 1:=wrap64 (by omega) (by omega)
  refine (MG hc (by omega) (by omega)).bind fun r hr=>.dec (fun _=>?_) fun _=>?_
  ·refine (MG hr.1 (by omega) (by omega)).bind fun q hq=>.chk (by simp; omega) (.cnt ⟨⟨hq.1,by simp only [w]; omega,by simp only [w]; omega,by simp only [w,List.length_append,List.length_singleton]; omega,?_⟩,by simp only [w]; omega⟩)
   intro y hy
   rcases List.mem_append.1 hy with h2 | h2
   ·exact hall y h2
   ·rw [List.mem_singleton] at h2; subst h2
    exact .store _ _ hs0 hlt hq.2
  ·exact .cnt ⟨⟨hr.1,by simp only [w]; omega,by simp only [w]; omega,by simp only [w]; omega,hall⟩,by simp only [w]; omega⟩
 ·have w : IntKind.i64.wrap (most + 1) = most + 1:=wrap64 (by omega) (by omega)
  rw [w]
  refine .lft ((MG hc (by omega) (by omega)).bind fun r hr=>?_)
  refine Hs.loop (fun s=>okC ⟨s.1,s.2.1⟩ ∧ s.2.2.2.1 = sl.1 ∧ 0 ≤ s.2.2.2.2 ∧ s.2.2.2.2 ≤ most ∧ (s.2.2.1.length : Int) ≤ 6 + 5 * (most - s.2.2.2.2) ∧ ∀ x ∈ s.2.2.1,MZ sl.1 np i ps (· = -1) x) (fun s=>s.2.2.2.2.toNat) ⟨hr.1,rfl,hr.2.1,by simp only; omega,by simp only; omega,hall⟩ ?_
  rintro ⟨l,a,code,sl',n⟩ ⟨hc,rfl,hn0,hn1,hcl,hall⟩
  simp only at hc hn0 hn1 hcl hall
  unfold Ps
  refine .dec (fun hlt=>?_) fun hlt=>.lft ?_
  ·have hlt : 0 < n:=hlt
   have w : IntKind.i64.wrap (n - 1) = n - 1:=wrap64 (by omega) (by omega)
   refine (Ahb hc (· = -1) (by simp only; omega) hnp4.2 hi hi' hps).bind fun b hb=>.chk (by simp; omega) ?_
   have hall2 : ∀ x ∈ code ++ b.1,MZ sl.1 np i ps (· = -1) x:=by
    intro y hy
    rcases List.mem_append.1 hy with h2 | h2
    ·exact hall y h2
    ·exact hb.2.2 y h2
   have hall3 : ∀ x,MZ sl.1 np i ps (· = -1) x → ∀ y ∈ (code ++ b.1) ++ [x],MZ sl.1 np i ps (· = -1) y:=by
    intro x hx y hy
    rcases List.mem_append.1 hy with h2 | h2
    ·exact hall2 y h2
    ·rw [List.mem_singleton] at h2; subst h2; exact hx
   have hbl:=hb.2.1
   refine (MG hb.1 (by omega) (by omega)).bind fun r hr=>.beq (fun _=>?_) fun _=>.beq (fun _=>?_) fun _=>?_
   ·refine (MG hr.1 (by omega) (by omega)).bind fun q hq=>.chk (by simp; omega) (.cnt ⟨⟨hq.1,rfl,by simp only [w]; omega,by simp only [w]; omega,by simp only [w,List.length_append,List.length_singleton]; omega,hall3 _ (.branch _ _ hq.2 rfl)⟩,by simp only [w]; omega⟩)
   ·refine (MG hr.1 (by omega) (by omega)).bind fun q hq=>.beq (fun _=>?_) fun _=>?_
    ·exact .chk (by simp; omega) (.cnt ⟨⟨hq.1,rfl,by simp only [w]; omega,by simp only [w]; omega,by simp only [w,List.length_append,List.length_singleton]; omega,hall3 _ (.jump _ rfl)⟩,by simp only [w]; omega⟩)
    ·exact .cnt ⟨⟨hq.1,rfl,by simp only [w]; omega,by simp only [w]; omega,by simp only [w,List.length_append]; omega,hall2⟩,by simp only [w]; omega⟩
   ·exact .cnt ⟨⟨hr.1,rfl,by simp only [w]; omega,by simp only [w]; omega,by simp only [w,List.length_append]; omega,hall2⟩,by simp only [w]; omega⟩
  ·refine (MG hc (by omega) (by omega)).bind fun r hr=>.beq (fun _=>?_) fun _=>?_
   ·exact (Aey hr.1).bind fun q hq=>AgU hq.1 hnp (by omega) hsl2 (by omega) hm hall (.inr ⟨_,hq.2,rfl⟩)
   ·exact AgU hr.1 hnp (by omega) hsl2 (by omega) hm hall (.inl rfl)
def Ahv (funcs most : Int) (p : PO) : Prop :=
 ∃ ps,Adw ps ∧ ps[0]? = some 0 ∧ 1 ≤ ps.length ∧ (ps.length : Int) ≤ funcs ∧ p.Funcs.length = ps.length ∧ ∀ (j : Nat) f,p.Funcs[j]? = some f → Uw ps j most f
theorem AeE {c : LU} (h : okC c) {funcs most : Int} (hf : 1 ≤ funcs) (hf' : funcs ≤ 1000) (hm0 : 0 ≤ most) (hm : most ≤ 1000) :
  Hs (Ov c funcs most) fun p=>okC p.2 ∧ Ahv funcs most p.1:=by
 unfold Ov
 refine (MG h hf (by omega)).bind fun r hr=>?_
 refine Hs.loop (fun s=>okC ⟨s.1,s.2.1⟩ ∧ (∀ v ∈ s.2.2.1,0 ≤ v ∧ v < 4) ∧ s.2.2.1[0]? = some 0 ∧ 0 ≤ s.2.2.2 ∧ (s.2.2.1.length : Int) + s.2.2.2 ≤ funcs) (fun s=>s.2.2.2.toNat) ⟨hr.1,by simp,by simp,hr.2.1,by simp; omega⟩ ?_
 rintro ⟨l,a,ps,n⟩ ⟨hc,hv,hz,hn0,hn1⟩
 simp only at hc hv hz hn0 hn1
 have hp1 : 1 ≤ ps.length:=by have:=(List.getElem?_eq_some_iff.1 hz).1; omega
 unfold Pz
 refine .dec (fun hlt=>?_) fun hlt=>.lft ?_
 ·have hlt : 0 < n:=hlt
  have w : IntKind.i64.wrap (n - 1) = n - 1:=wrap64 (by omega) (by omega)
  refine (MG hc (by omega) (by omega)).bind fun q hq=>.chk (by simp; omega) (.cnt ⟨⟨hq.1,?_,by simp only; rw [List.getElem?_append_left (by omega)]; exact hz,by simp only [w]; omega,by simp only [w,List.length_append,List.length_singleton]; omega⟩,by simp only [w]; omega⟩)
  intro y hy
  rcases List.mem_append.1 hy with h2 | h2
  ·exact hv y h2
  ·rw [List.mem_singleton] at h2; subst h2; exact hq.2
 ·have hps : Adw ps:=⟨hv,by omega⟩
  refine Hs.loop (fun s=>okC ⟨s.1,s.2.1⟩ ∧ s.2.2.2.2 = ps ∧ ∃ i : Nat,s.2.2.2.1 = (i : Int) ∧ i ≤ ps.length ∧ s.2.2.1.length = i ∧ ∀ (j : Nat) f,s.2.2.1[j]? = some f → Uw ps j most f) (fun s=>ps.length - s.2.2.2.1.toNat) ⟨hc,rfl,0,rfl,Nat.zero_le _,rfl,fun j f hj=>by simp at hj⟩ ?_
  rintro ⟨l,a,fs,i',ps'⟩ ⟨hc,hpe,i,hie,hi,hfl,hall⟩
  simp only at hc hpe hie hi hfl hall
  subst hpe hie
  unfold PA
  refine .dec (fun hlt=>?_) fun hlt=>.lft (.pure ⟨hc,ps',hps,hz,hp1,by omega,?_,hall⟩)
  ·have hlt : i < ps'.length:=Int.ofNat_lt.1 hlt
   have w:=My (show i < 9223372036854775807 by have:=hps.2; omega)
   have hpl:=hps.2
   refine .chk (by simp; omega) ((Aer hc (i:=(i : Int)) (ps:=ps') (by omega) (by omega) hps hm0 hm).bind fun f hf=>.chk (by simp; omega) (.cnt ⟨⟨hf.1,rfl,i + 1,w,hlt,by simp; omega,?_⟩,by simp only [w]; omega⟩))
   intro j g hg
   simp only [List.nil_append] at hg
   by_cases e : j < fs.length
   ·rw [List.getElem?_append_left e] at hg; exact hall j g hg
   ·have hj : j = i:=by
     have:=(List.getElem?_eq_some_iff.1 hg).1
     simp at this; omega
    subst hj
    rw [List.getElem?_append_right (by omega),hfl] at hg
    simp at hg
    subst hg
    exact hf.2
  ·have hlt : ¬ i < ps'.length:=fun h=>hlt (Int.ofNat_lt.2 h)
   simp only; omega
end Go.Proofs.YtfpgidpffhmadaaDoor
namespace Go.Proofs.YtfpgidpffhmadaaDoor
open Go Go.Dw Go.Proofs
attribute [local simp] Nf Bool.cond_eq_ite
def Nx (x : LS) (k : Int) : List Int :=
 if x.Op = 20 then [x.A] else if x.Op = 23 ∨ x.Op = 24 then [] else
 if x.Op = 21 then (if x.B < k + 1 then [x.B,k + 1] else if k + 1 < x.B then [k + 1,x.B] else [k + 1]) else [k + 1]
theorem Aed {f : LX} {k : Nat} {x : LS} (h : f.Code[k]? = some x) (hk : k < 9223372036854775807) : Si f (k : Int) = some (Nx x k):=by
 obtain ⟨hl,hx⟩:=List.getElem?_eq_some_iff.1 h
 have hnl : ¬ f.Code.length ≤ k:=by omega
 have w : IntKind.i64.wrap ((k : Int) + 1) = (k : Int) + 1:=wrap64 (by omega) (by omega)
 unfold Si UF Nx
 obtain ⟨op,a,b,c,i⟩:=x
 by_cases h20 : op = 20
 ·subst h20; simp [hx,hl,hnl,show ¬ (k : Int) < 0 by omega]
 ·have e20 : (op == 20) = false:=by simpa using h20
  by_cases h23 : op = 23
  ·subst h23; simp [hx,hl,hnl,show ¬ (k : Int) < 0 by omega,NY]
  ·have e23 : (op == 23) = false:=by simpa using h23
   by_cases h24 : op = 24
   ·subst h24; simp [hx,hl,hnl,show ¬ (k : Int) < 0 by omega,NY]
   ·have e24 : (op == 24) = false:=by simpa using h24
    by_cases h21 : op = 21
    ·subst h21
     by_cases hb : b < (k : Int) + 1
     ·simp [hx,hl,hnl,show ¬ (k : Int) < 0 by omega,NY,w,hb]
     ·by_cases hb' : (k : Int) + 1 < b
      ·simp [hx,hl,hnl,show ¬ (k : Int) < 0 by omega,NY,w,hb,hb']
      ·simp [hx,hl,hnl,show ¬ (k : Int) < 0 by omega,NY,w,hb,hb']
    ·have e21 : (op == 21) = false:=by simpa using h21
     simp [hx,hl,hnl,show ¬ (k : Int) < 0 by omega,NY,w,h20,h23,h24,h21]
def NL (x : LS) : List Int:=if x.Op = 15 ∨ x.Op = 17 then [x.B] else []
structure MM (f : LX) : Prop where
 len : 1 ≤ f.Code.length
 len' : f.Code.length ≤ 10000
 slots : f.Slots.length ≤ 500
 next : ∀ (k : Nat) x,f.Code[k]? = some x → ∀ j ∈ Nx x k,0 ≤ j ∧ j < f.Code.length
 uses : ∀ x ∈ f.Code,∀ v ∈ NL x,0 ≤ v ∧ v < f.Slots.length
theorem Uw.Aku {ps : List Int} {i most : Int} {f : LX} (h : Uw ps i most f) (hm : most ≤ 1000) : MM f:=by
 have hl:=h.len
 have hl':=h.len'
 have hs:=h.slots
 refine ⟨hl,by omega,by omega,fun k x hx j hj=>?_,fun x hx v hv=>?_⟩
 ·have hkl:=(List.getElem?_eq_some_iff.1 hx).1
  by_cases hk : k + 1 < f.Code.length
  ·have hins:=h.body k x hx hk
   cases hins with
   | jump t h1=>simp [Nx] at hj; subst hj; exact h1
   | branch a t h0 h1 =>
    simp [Nx] at hj
    have : j = t ∨ j = (k : Int) + 1:=by
     split at hj
     ·simpa using hj
     ·split at hj
      ·simp at hj; omega
      ·simp at hj; omega
    rcases this with rfl | rfl <;> omega
   | bin op a b c h1 h2 h3 h4 h5 h6 =>
    simp [Nx,show op ≠ 20 by omega,show op ≠ 23 by omega,show op ≠ 24 by omega,show op ≠ 21 by omega] at hj
    subst hj; omega
   | un op a h1 h2 =>
    simp [Nx,show op ≠ 20 by omega,show op ≠ 23 by omega,show op ≠ 24 by omega,show op ≠ 21 by omega] at hj
    subst hj; omega
   | _=>simp [Nx] at hj; subst hj; omega
  ·have he:=h.last x (by rw [show f.Code.length - 1 = k by omega]; exact hx)
   rcases he with rfl | ⟨w,_,rfl⟩ <;> simp [Nx] at hj
 ·obtain ⟨k,hk⟩:=List.getElem?_of_mem hx
  have hkl:=(List.getElem?_eq_some_iff.1 hk).1
  by_cases hk1 : k + 1 < f.Code.length
  ·have hins:=h.body k x hk hk1
   cases hins with
   | load a b h0 h1 h2=>simp [NL] at hv; subst hv; exact ⟨h1,h2⟩
   | move a b h0 h1 h2=>simp [NL] at hv; subst hv; exact ⟨h1,h2⟩
   | bin op a b c h1 h2 h3 h4 h5 h6=>simp [NL,show op ≠ 15 by omega,show op ≠ 17 by omega] at hv
   | un op a h1 h2=>simp [NL,show op ≠ 15 by omega,show op ≠ 17 by omega] at hv
   | _=>simp [NL] at hv
  ·have he:=h.last x (by rw [show f.Code.length - 1 = k by omega]; exact hk)
   rcases he with rfl | ⟨w,_,rfl⟩ <;> simp [NL] at hv
end Go.Proofs.YtfpgidpffhmadaaDoor
namespace Go.Proofs.YtfpgidpffhmadaaDoor
open Go Go.Dw Go.Proofs
attribute [local simp] Nf Bool.cond_eq_ite
def MH (n : Int) (s : List Int) : Prop:=ML s ∧ ∀ x ∈ s,x < n
theorem MH.nil (n : Int) : MH n []:=⟨ML.nil,fun x hx=>by cases hx⟩
theorem MH.add {n m : Int} {s : List Int} (h : MH n s) (hm : 0 ≤ m ∧ m < n) (hn : n ≤ 512) : MH n (OK m s) ∧ Qi s m = some (OK m s):=by
 have hl:=h.1.length_le
 refine ⟨?_,add_eq s m (by omega)⟩
 unfold OK
 rw [if_pos (by omega)]
 refine ⟨h.1.QL (by omega),fun x hx=>?_⟩
 rw [Ww] at hx
 rcases hx with rfl | hx
 ·exact hm.2
 ·exact h.2 x hx
def RowsIn (n : Int) (g : List (List Int)) : Prop:=∀ s ∈ g,MH n s
theorem RowsIn.set {n : Int} {g : List (List Int)} (h : RowsIn n g) {i : Nat} {s : List Int} (hs : MH n s) : RowsIn n (g.set i s):=by
 intro x hx
 rcases List.mem_or_eq_of_mem_set hx with h1 | rfl
 ·exact h x h1
 ·exact hs
end Go.Proofs.YtfpgidpffhmadaaDoor
namespace Go.Proofs.YtfpgidpffhmadaaDoor
open Go Go.Dw Go.Proofs
attribute [local simp] Nf Bool.cond_eq_ite
def inN (x : LS) (s : List Int) : List Int:=NK (if x.Op = 16 ∨ x.Op = 17 then s.filter (· != x.A) else s) (NL x)
theorem AgT (x : LS) (s : List Int) (h : s.length ≤ 900000) : UW x s = some (inN x s):=by
 obtain ⟨op,a,b,c,i⟩:=x
 have hu : Sj ⟨op,a,b,c,i⟩ = some (NL ⟨op,a,b,c,i⟩):=by
  unfold Sj NL
  by_cases h15 : op = 15
  ·simp [h15]
  ·have e15 : (op == 15) = false:=by simpa using h15
   by_cases h17 : op = 17
   ·simp [h17]
   ·have e17 : (op == 17) = false:=by simpa using h17
    simp [h15,e15,h17,e17]
 have hul : (NL ⟨op,a,b,c,i⟩).length ≤ 1:=by unfold NL; split <;> simp
 have hfl : (s.filter (· != a)).length ≤ s.length:=List.length_filter_le ..
 have hr:=Afa s a (by omega)
 have hu1:=union_eq (s.filter (· != a)) (NL ⟨op,a,b,c,i⟩) (by omega)
 have hu2:=union_eq s (NL ⟨op,a,b,c,i⟩) (by omega)
 unfold UW OX PJ inN
 by_cases h16 : op = 16
 ·subst h16; simp [hr,hu,hu1]
 ·have e16 : (op == 16) = false:=by simpa using h16
  by_cases h17 : op = 17
  ·subst h17; simp [hr,hu,hu1]
  ·have e17 : (op == 17) = false:=by simpa using h17
   simp [h16,e16,h17,e17,hu,hu2]
theorem TM {f : LX} (hf : MM f) {x : LS} (hx : x ∈ f.Code) {s : List Int} (hs : MH f.Slots.length s) :
  MH f.Slots.length (inN x s) ∧ ∀ v,v ∈ inN x s ↔ (v ∈ s ∧ ¬ ((x.Op = 16 ∨ x.Op = 17) ∧ x.A = v)) ∨ v ∈ NL x:=by
 have hsl:=hf.slots
 have h0 : MH f.Slots.length (if x.Op = 16 ∨ x.Op = 17 then s.filter (· != x.A) else s):=by
  split
  ·exact ⟨hs.1.filter _,fun v hv=>hs.2 v (List.mem_filter.1 hv).1⟩
  ·exact hs
 obtain ⟨h1,h2⟩:=Sp (n:=f.Slots.length) (by omega) (b:=NL x) h0 (hf.uses x hx)
 refine ⟨h1,fun v=>?_⟩
 unfold inN
 rw [h2]
 by_cases hd : x.Op = 16 ∨ x.Op = 17
 ·simp only [hd,if_true,List.mem_filter,true_and]
  constructor
  ·rintro (⟨h3,h4⟩ | h3)
   ·exact .inl ⟨h3,fun e=>by simp [e] at h4⟩
   ·exact .inr h3
  ·rintro (⟨h3,h4⟩ | h3)
   ·exact .inl ⟨h3,by simpa using fun e : v = x.A=>h4 e.symm⟩
   ·exact .inr h3
 ·simp [hd]
def Mc (f : LX) (j : Int) : LS:=(f.Code[j.toNat]?).getD default
def Mm (l : List (List Int)) (j : Int) : List Int:=(l[j.toNat]?).getD []
def SG (f : LX) (l : List (List Int)) (k : Int) : List Int:=(Nx (Mc f k) k).foldl (fun o j=>NK o (inN (Mc f j) (Mm l j))) []
def OT (f : LX) (l : List (List Int)) : List (List Int):=(List.range f.Code.length).map fun k=>SG f l (k : Nat)
def Oh (f : LX) (l : List (List Int)) : Prop:=l.length = f.Code.length ∧ ∀ s ∈ l,MH f.Slots.length s
theorem AdS {f : LX} (hf : MM f) {l : List (List Int)} (hl : Oh f l) : ∀ {js : List Int} {o : List Int},(∀ j ∈ js,0 ≤ j ∧ j < f.Code.length) → MH f.Slots.length o →
  MH f.Slots.length (js.foldl (fun o j=>NK o (inN (Mc f j) (Mm l j))) o) ∧ ∀ v,v ∈ js.foldl (fun o j=>NK o (inN (Mc f j) (Mm l j))) o ↔ v ∈ o ∨ ∃ j ∈ js,v ∈ inN (Mc f j) (Mm l j)
 | [],o,_,ho=>⟨ho,fun v=>by simp⟩
 | j :: js,o,hj,ho=>by
  have hsl:=hf.slots
  have h0:=hj j (List.mem_cons_self ..)
  have hc : Mc f j ∈ f.Code:=by
   unfold Mc
   rw [List.getElem?_eq_getElem (show j.toNat < f.Code.length by omega)]
   exact List.getElem_mem _
  have ho' : MH f.Slots.length (Mm l j):=by
   unfold Mm
   rw [List.getElem?_eq_getElem (show j.toNat < l.length by have:=hl.1; omega)]
   exact hl.2 _ (List.getElem_mem _)
  obtain ⟨h1,h2⟩:=TM hf hc ho'
  obtain ⟨h3,h4⟩:=Sp (n:=f.Slots.length) (by omega) (b:=inN (Mc f j) (Mm l j)) ho fun x hx=>⟨(h1.1.2 x hx).1,h1.2 x hx⟩
  obtain ⟨h5,h6⟩:=AdS hf hl (fun q hq=>hj q (List.mem_cons_of_mem _ hq)) h3
  refine ⟨h5,fun v=>?_⟩
  simp only [List.foldl_cons]
  rw [h6,h4]
  simp only [List.mem_cons,exists_eq_or_imp,or_assoc]
theorem UA {f : LX} (hf : MM f) {l : List (List Int)} (hl : Oh f l) {k : Nat} (hk : k < f.Code.length) :
  MH f.Slots.length (SG f l k) ∧ ∀ v,v ∈ SG f l k ↔ ∃ j ∈ Nx (Mc f k) k,v ∈ inN (Mc f j) (Mm l j):=by
 have hx : f.Code[k]? = some (Mc f k):=by simp [Mc,hk]
 obtain ⟨h1,h2⟩:=AdS hf hl (js:=Nx (Mc f k) k) (hf.next k _ hx) (MH.nil _)
 exact ⟨h1,fun v=>by unfold SG; rw [h2]; simp⟩
theorem Aei {f : LX} (hf : MM f) {l : List (List Int)} (hl : Oh f l) : Oh f (OT f l):=by
 refine ⟨by simp [OT],fun s hs=>?_⟩
 obtain ⟨k,hk,rfl⟩:=List.mem_map.1 hs
 exact (UA hf hl (List.mem_range.1 hk)).1
theorem step_eq {f : LX} (hf : MM f) {l : List (List Int)} (hl : Oh f l) : TS f ⟨l⟩ = some ⟨OT f l⟩:=by
 have hlen:=hf.len'
 unfold TS
 rw [Nf (by omega)]
 have key : Hs (ME (fun s : List (List Int) × Int=>QQ f ⟨l⟩ s.1 s.2) (List.replicate (f.Code.length : Int).toNat ([] : List Int),0)) fun r=>r = ⟨OT f l⟩:=by
  refine Hs.loop (fun s=>s.1.length = f.Code.length ∧ ∃ k : Nat,s.2 = (k : Int) ∧ k ≤ f.Code.length ∧ ∀ (j : Nat) r,s.1[j]? = some r → r = if j < k then SG f l j else []) (fun s=>f.Code.length - s.2.toNat) ⟨by simp,0,rfl,Nat.zero_le _,fun j r hj=>?_⟩ ?_
  ·have:=List.mem_of_getElem? hj
   rw [List.mem_replicate] at this
   simp [this.2]
  rintro ⟨x,k'⟩ ⟨hxl,k,hke,hk,hall⟩
  simp only at hxl hke hall
  subst hke
  by_cases hlt : k < f.Code.length
  ·have w:=My (show k < 9223372036854775807 by omega)
   have hx : f.Code[k]? = some (Mc f k):=by simp [Mc,hlt]
   have hxk : x[k]? = some []:=by
    have h1 : x[k]? = some (x[k]'(by omega)):=List.getElem?_eq_getElem _
    have:=hall k _ h1
    rw [h1,this,if_neg (by omega)]
   have hset : x.set k [] = x:=by
    obtain ⟨h1,h2⟩:=List.getElem?_eq_some_iff.1 hxk
    rw [← h2]; exact List.set_getElem_self h1
   have inner:=OW (body:=fun s : List (List Int) × Int=>QS (Nx (Mc f k) k) k f ⟨l⟩ s.1 s.2) (Nx (Mc f k) k) (fun (o : List Int) i=>(x.set k o,i)) (fun o _=>MH f.Slots.length o)
    (fun o js=>some (.inl (x.set k (js.foldl (fun o j=>NK o (inN (Mc f j) (Mm l j))) o),((k + 1 : Nat) : Int))))
    (fun o _=>⟨_,by simp [QS,UG,w]; rfl,by simp⟩) (fun o i j r ho hd hi hj=>by
     left
     have wi:=My (show i < 9223372036854775807 by
      have : (Nx (Mc f k) k).length ≤ 2:=by unfold Nx; (repeat' split) <;> simp
      omega)
     have hjm:=hf.next k _ hx j (List.mem_of_getElem? hj)
     have hjc : f.Code[j.toNat]? = some (Mc f j):=by simp [Mc,show j.toNat < f.Code.length by omega]
     have hjl : j.toNat < l.length:=by have:=hl.1; omega
     have hjo : l[j.toNat]? = some (Mm l j):=by simp [Mm,hjl]
     have hos : MH f.Slots.length (Mm l j):=hl.2 _ (List.mem_of_getElem? hjo)
     have hsl:=hf.slots
     obtain ⟨g1,g2⟩:=TM hf (List.mem_of_getElem? hjc) hos
     obtain ⟨g3,g4⟩:=Sp (n:=f.Slots.length) (by omega) (b:=inN (Mc f j) (Mm l j)) ho fun x hx=>⟨(g1.1.2 x hx).1,g1.2 x hx⟩
     have e1:=AgT (Mc f j) (Mm l j) (by have:=hos.1.length_le; omega)
     have e2:=union_eq o (inN (Mc f j) (Mm l j)) (by have:=ho.1.length_le; have:=g1.1.length_le; omega)
     obtain ⟨_,hje⟩:=List.getElem?_eq_some_iff.1 hj
     refine ⟨NK o (inN (Mc f j) (Mm l j)),g3,?_,by simp⟩
     simp [QS,hi,hje,hxl,hlt,Vk _ hjm.1,hjc,hjo,e1,e2,wi]) [] (MH.nil _)
   simp only [hset] at inner
   refine ⟨.inl (x.set k (SG f l k),((k + 1 : Nat) : Int)),?_,⟨by simpa using hxl,k + 1,rfl,hlt,fun j r hj=>?_⟩,by simp only; omega⟩
   ·simp only [QQ,decide_eq_true (Int.ofNat_lt.2 hlt),cond_true,Aed hx (by omega),Option.bind_some]
    exact inner
   ·simp only at hj
    by_cases e : k = j
    ·subst e
     rw [List.getElem?_set_self (by omega)] at hj
     obtain rfl:=Option.some.inj hj
     rw [if_pos (by omega)]
    ·rw [List.getElem?_set_ne e] at hj
     rw [hall j r hj]
     by_cases e2 : j < k
     ·rw [if_pos e2,if_pos (by omega)]
     ·rw [if_neg e2,if_neg (by omega)]
  ·refine ⟨.inr ⟨x⟩,by simp [QQ,hlt],?_⟩
   show Me.mk x = ⟨OT f l⟩
   congr 1
   refine List.ext_getElem (by simp [OT,hxl]) fun j h1 h2=>?_
   have:=hall j _ (List.getElem?_eq_getElem h1)
   rw [this,if_pos (by omega)]
   simp [OT]
 obtain ⟨r,h1,rfl⟩:=key
 exact h1
def LE (a b : List (List Int)) : Prop:=∀ (k : Nat) s t,a[k]? = some s → b[k]? = some t → ∀ v ∈ s,v ∈ t
theorem LE.trans {a b c : List (List Int)} (h1 : LE a b) (h2 : LE b c) (hl : a.length = b.length) : LE a c:=by
 intro k s t hs ht v hv
 have hk:=(List.getElem?_eq_some_iff.1 hs).1
 have hb : b[k]? = some (b[k]'(by omega)):=List.getElem?_eq_getElem _
 exact h2 k _ t hb ht v (h1 k s _ hs hb v hv)
theorem Afe : ∀ {a b : List (List Int)},a.length = b.length → (∀ s ∈ a,ML s) → (∀ s ∈ b,ML s) → LE a b → (a.map List.length).sum ≤ (b.map List.length).sum ∧ ((a.map List.length).sum = (b.map List.length).sum → a = b)
 | [],[],_,_,_,_=>⟨Nat.le_refl _,fun _=>rfl⟩
 | [],y :: b,h,_,_,_=>by simp at h
 | x :: a,[],h,_,_,_=>by simp at h
 | x :: a,y :: b,h,ha,hb,hle=>by
  have hsub:=(ha x (List.mem_cons_self ..)).sub (hb y (List.mem_cons_self ..)) (hle 0 x y rfl rfl)
  obtain ⟨h1,h2⟩:=Afe (a:=a) (b:=b) (by simpa using h) (fun s hs=>ha s (List.mem_cons_of_mem _ hs)) (fun s hs=>hb s (List.mem_cons_of_mem _ hs)) fun k s t hs ht=>hle (k + 1) s t (by simpa using hs) (by simpa using ht)
  have hlen:=hsub.length_le
  simp only [List.map_cons,List.sum_cons]
  refine ⟨by omega,fun he=>?_⟩
  rw [h2 (by omega),hsub.eq_of_length (by omega)]
theorem Adm : ∀ {a : List (List Int)},(∀ s ∈ a,ML s) → (a.map List.length).sum ≤ 512 * a.length
 | [],_=>by simp
 | x :: a,ha=>by
  have h1:=(ha x (List.mem_cons_self ..)).length_le
  have h2:=Adm (a:=a) fun s hs=>ha s (List.mem_cons_of_mem _ hs)
  simp only [List.map_cons,List.sum_cons,List.length_cons]
  omega
theorem AgE {f : LX} (hf : MM f) {x : LS} (hx : x ∈ f.Code) {s t : List Int} (hs : MH f.Slots.length s) (ht : MH f.Slots.length t) (h : ∀ v ∈ s,v ∈ t) : ∀ v ∈ inN x s,v ∈ inN x t:=by
 intro v hv
 rw [(TM hf hx hs).2] at hv
 rw [(TM hf hx ht).2]
 rcases hv with ⟨h1,h2⟩ | h1
 ·exact .inl ⟨h v h1,h2⟩
 ·exact .inr h1
theorem Adl {f : LX} (hf : MM f) {a b : List (List Int)} (ha : Oh f a) (hb : Oh f b) (h : LE a b) : LE (OT f a) (OT f b):=by
 intro k s t hs ht v hv
 have hk : k < f.Code.length:=by have:=(List.getElem?_eq_some_iff.1 hs).1; simpa [OT] using this
 have e1 : s = SG f a k:=by simp [OT,hk] at hs; exact hs.symm
 have e2 : t = SG f b k:=by simp [OT,hk] at ht; exact ht.symm
 subst e1 e2
 rw [(UA hf ha hk).2] at hv
 rw [(UA hf hb hk).2]
 obtain ⟨j,hj,hv⟩:=hv
 have hx : f.Code[k]? = some (Mc f k):=by simp [Mc,hk]
 have hjm:=hf.next k _ hx j hj
 have hjc : f.Code[j.toNat]? = some (Mc f j):=by simp [Mc,show j.toNat < f.Code.length by omega]
 have hja : a[j.toNat]? = some (Mm a j):=by simp [Mm,show j.toNat < a.length by have:=ha.1; omega]
 have hjb : b[j.toNat]? = some (Mm b j):=by simp [Mm,show j.toNat < b.length by have:=hb.1; omega]
 exact ⟨j,hj,AgE hf (List.mem_of_getElem? hjc) (ha.2 _ (List.mem_of_getElem? hja)) (hb.2 _ (List.mem_of_getElem? hjb)) (h _ _ _ hja hjb) v hv⟩
structure AcK (f : LX) (l : List (List Int)) : Prop where
 ok : Oh f l
 fix : OT f l = l
 least : ∀ b,Oh f b → LE (OT f b) b → LE l b
theorem AgM {f : LX} (hf : MM f) : Hs (SB f) fun l=>AcK f l.Out:=by
 have hlen:=hf.len'
 unfold SB
 refine .chk (by omega) ?_
 refine Hs.loop (fun l=>Oh f l ∧ LE l (OT f l) ∧ ∀ b,Oh f b → LE (OT f b) b → LE l b) (fun l=>512 * f.Code.length - (l.map List.length).sum) ⟨⟨by simp,fun s hs=>?_⟩,fun k s t hs ht v hv=>?_,fun b _ _ k s t hs ht v hv=>?_⟩ ?_
 ·rw [List.mem_replicate] at hs; rw [hs.2]; exact MH.nil _
 ·have:=List.mem_of_getElem? hs; rw [List.mem_replicate] at this; rw [this.2] at hv; cases hv
 ·have:=List.mem_of_getElem? hs; rw [List.mem_replicate] at this; rw [this.2] at hv; cases hv
 ·rintro l ⟨hl,hle,hleast⟩
  have hl':=Aei hf hl
  have e1:=step_eq hf hl
  have e2 : TQ ⟨OT f l⟩ ⟨l⟩ = some (decide (OT f l = l)):=by
   unfold TQ
   rw [AeF _ _ (by have:=hl'.1; simp only; omega) (fun s hs=>by have:=(hl'.2 s hs).1.length_le; omega)]
   rfl
  obtain ⟨s1,s2⟩:=Afe (by rw [hl.1,hl'.1]) (fun s hs=>(hl.2 s hs).1) (fun s hs=>(hl'.2 s hs).1) hle
  have s3:=Adm fun s hs=>(hl'.2 s hs).1
  rw [hl'.1] at s3
  unfold TR
  rw [e1,Option.bind_some,e2,Option.bind_some]
  by_cases he : OT f l = l
  ·simp only [he,decide_true,cond_true]
   exact .lft (.pure ⟨hl,he,hleast⟩)
  ·simp only [he,decide_false,cond_false]
   refine .cnt ⟨⟨hl',Adl hf hl hl' hle,fun b hb hb'=>(Adl hf hl hb (hleast b hb hb')).trans hb' (by rw [hl'.1,(Aei hf hb).1])⟩,?_⟩
   have : (l.map List.length).sum ≠ ((OT f l).map List.length).sum:=fun e=>he (s2 e).symm
   simp only
   omega
end Go.Proofs.YtfpgidpffhmadaaDoor
namespace Go.Proofs.YtfpgidpffhmadaaDoor
open Go Go.Dw Go.Proofs
attribute [local simp] Nf Bool.cond_eq_ite
theorem AgB (x : LS) : Rm x = some (NL x):=by
 obtain ⟨op,a,b,c,i⟩:=x
 unfold Rm NL
 by_cases h15 : op = 15
 ·simp [h15]
 ·have e15 : (op == 15) = false:=by simpa using h15
  by_cases h17 : op = 17
  ·simp [h17]
  ·have e17 : (op == 17) = false:=by simpa using h17
   simp [h15,e15,h17,e17]
theorem AcO (x : LS) : OB x = some (if x.Op = 16 ∨ x.Op = 17 then (x.A,true) else (0,false)):=by
 obtain ⟨op,a,b,c,i⟩:=x
 unfold OB
 by_cases h16 : op = 16
 ·simp [h16]
 ·have e16 : (op == 16) = false:=by simpa using h16
  by_cases h17 : op = 17
  ·simp [h17]
  ·have e17 : (op == 17) = false:=by simpa using h17
   simp [h16,e16,h17,e17]
theorem Ahs (x : LS) : (NL x).length ≤ 1:=by unfold NL; split <;> simp
theorem Afj (x : LS) (hu : ∀ v ∈ NL x,0 ≤ v ∧ v < 512) : NK [] (NL x) = NL x:=by
 unfold NL at hu ⊢
 split
 ·rename_i h
  rw [if_pos h] at hu
  have:=hu x.B (by simp)
  simp [NK,OK,QL,this]
 ·rfl
theorem AjU {x : LS} {s : List Int} (hs : ML s) (hu : ∀ v ∈ NL x,0 ≤ v ∧ v < 512) : Vh x s = some (inN x s):=by
 have hl:=Ahs x
 have h1:=Afl hu (by omega)
 rw [Afj x hu] at h1
 have h2:=AdH hs x.A
 have h3:=ZE (hs.filter (· != x.A)) hu (by omega)
 have h4:=ZE hs hu (by omega)
 unfold Vh inN
 rw [AcO,Option.bind_some,AgB]
 by_cases h : x.Op = 16 ∨ x.Op = 17
 ·simp only [h,if_true,cond_true,Option.bind_some,h1,h2,h3]
 ·simp only [h,if_false,cond_false,Option.bind_some,h1,h4]
theorem Aem {a b : List Int} (ha : ML a) (hb : ML b) : Qs a b = some (a.filter fun v=>!decide (v ∈ b)):=by
 obtain ⟨r,h1,h2⟩:=Aen a b (by have:=ha.length_le; omega) (by have:=hb.length_le; omega)
 rw [h1,h2.eq (Qb.AcC (ha.filter fun v=>!decide (v ∈ b))) fun v _ _=>by simp [List.mem_filter]]
theorem Afd (a b : List Int) (ha : a.length ≤ 16777215) (hb : b.length ≤ 9223372036854775807) : SA a b = some (a.filter fun v=>!decide (v ∈ b)):=by
 unfold SA
 have:=OW (body:=fun p : List Int × Int=>Pl a b p.1 p.2) a (fun (out : List Int) i=>(out,i)) (fun out i=>out.length ≤ i) (fun out l=>some (out ++ l.filter fun v=>!decide (v ∈ b)))
  (fun out _=>⟨out,by simp [Pl],by simp⟩) (fun out i x r ho hd hi hx=>by
   have w:=My (show i < 9223372036854775807 by omega)
   obtain ⟨_,rfl⟩:=List.getElem?_eq_some_iff.1 hx
   left
   by_cases h : a[i] ∈ b
   ·exact ⟨out,by omega,by simp [Pl,hi,AeT b _ hb,h,w],by simp [h]⟩
   ·exact ⟨out ++ [a[i]],by simp; omega,by simp [Pl,hi,AeT b _ hb,h,w,show out.length ≤ 16777215 by omega],by simp [h]⟩)
  [] (by simp)
 simpa using this
end Go.Proofs.YtfpgidpffhmadaaDoor
namespace Go.Proofs.YtfpgidpffhmadaaDoor
open Go Go.Dw Go.Proofs
attribute [local simp] Nf Bool.cond_eq_ite
theorem AbW : Lib.compact ([] : List Int) = []:=by simp [Lib.compact,Lib.compactUpTo]
theorem AbX (a : Int) : Lib.compact [a] = [a]:=by simp [Lib.compact,Lib.compactUpTo,List.range_succ,Lib.keeps]
theorem ZF (a b : Int) : Lib.compact [a,b] = if a = b then [a] else [a,b]:=by
 by_cases h : a = b
 ·subst h; simp [Lib.compact,Lib.compactUpTo,List.range_succ,Lib.keeps]
 ·have h' : ¬ b = a:=fun e=>h e.symm
  simp [Lib.compact,Lib.compactUpTo,List.range_succ,Lib.keeps,h,h']
theorem Aeh (a : Int) : NI [a] = [a]:=by simp [NI]
theorem Aeg : NI [] = []:=by simp [NI]
theorem AgN (a b : Int) : NI [a,b] = if a ≤ b then [a,b] else [b,a]:=by
 unfold NI List.mergeSort
 by_cases h : a ≤ b <;> simp [List.MergeSort.Internal.splitInTwo,h]
theorem AgD {f : LX} {k : Nat} {x : LS} (h : f.Code[k]? = some x) (hk : k < 9223372036854775807) : Vi f (k : Int) = some (Nx x k):=by
 obtain ⟨hl,hx⟩:=List.getElem?_eq_some_iff.1 h
 have hnl : ¬ f.Code.length ≤ k:=by omega
 have w : IntKind.i64.wrap ((k : Int) + 1) = (k : Int) + 1:=wrap64 (by omega) (by omega)
 unfold Vi VC Tx Nx RL
 obtain ⟨op,a,b,c,i⟩:=x
 by_cases h20 : op = 20
 ·subst h20; simp [hx,hl,hnl,show ¬ (k : Int) < 0 by omega,Aeh,AbX]
 ·have e20 : (op == 20) = false:=by simpa using h20
  by_cases h23 : op = 23
  ·subst h23; simp [hx,hl,hnl,show ¬ (k : Int) < 0 by omega,Aeg,AbW]
  ·have e23 : (op == 23) = false:=by simpa using h23
   by_cases h24 : op = 24
   ·subst h24; simp [hx,hl,hnl,show ¬ (k : Int) < 0 by omega,Aeg,AbW]
   ·have e24 : (op == 24) = false:=by simpa using h24
    by_cases h21 : op = 21
    ·subst h21
     simp [hx,hl,hnl,show ¬ (k : Int) < 0 by omega,w,AgN]
     by_cases hb : b < (k : Int) + 1
     ·simp [hb,show ¬ (k : Int) + 1 ≤ b by omega,ZF,show ¬ b = (k : Int) + 1 by omega]
     ·by_cases hb' : (k : Int) + 1 < b
      ·simp [hb,hb',show (k : Int) + 1 ≤ b by omega,ZF,show ¬ (k : Int) + 1 = b by omega]
      ·simp [ZF,show (k : Int) + 1 = b by omega]
    ·have e21 : (op == 21) = false:=by simpa using h21
     simp [hx,hl,hnl,show ¬ (k : Int) < 0 by omega,w,e24,h20,h23,h24,h21,Aeh,AbX]
end Go.Proofs.YtfpgidpffhmadaaDoor
namespace Go.Proofs.YtfpgidpffhmadaaDoor
open Go Go.Dw Go.Proofs
attribute [local simp] Nf
theorem AdW {s : List Int} (hs : s.Pairwise (· < ·)) {n : Int} {h : s.length - 1 < s.length} (hl : s[s.length - 1] < n) : ∀ v ∈ s,v < n:=by
 intro v hv
 obtain ⟨i,hi,rfl⟩:=List.getElem_of_mem hv
 by_cases e : i = s.length - 1
 ·subst e; exact hl
 ·have:=List.pairwise_iff_getElem.1 hs i (s.length - 1) hi h (by omega)
  omega
theorem AgS (s : List Int) (f : LX) (hs : s.length ≤ maxLen) : Hs (NP s f) fun b=>(b = false ↔ MH f.Slots.length s):=by
 have hm : maxLen ≤ 9223372036854775807:=by decide
 unfold NP
 rw [AeN s (by omega),Option.bind_some]
 by_cases hc : Qr none s = true
 ·have hset:=(AbK s).1 hc
  rw [hc]
  simp only [Bool.not_true,cond_false]
  refine .dec (fun hp=>?_) fun hp=>?_
  ·have hp : 0 < s.length:=by omega
   have hi : s.length - 1 < s.length:=by omega
   have w : IntKind.i64.wrap ((s.length : Int) - 1) = ((s.length - 1 : Nat) : Int):=by rw [wrap64 (by omega) (by omega)]; omega
   rw [w,Pj,List.getElem?_eq_getElem hi,Option.bind_some]
   refine .pure ⟨fun h=>⟨hset,AdW hset.1 (h:=hi) (by simpa using h)⟩,fun h=>?_⟩
   have:=h.2 _ (List.getElem_mem hi)
   simp; omega
  ·have : s = []:=List.length_eq_zero_iff.1 (by omega)
   subst this
   exact .pure ⟨fun _=>MH.nil _,fun _=>rfl⟩
 ·have hc' : Qr none s = false:=by simpa using hc
  rw [hc']
  simp only [Bool.not_false,cond_true]
  exact .pure ⟨fun h=>(by cases h),fun h=>(hc ((AbK s).2 h.1)).elim⟩
theorem Adi (f : LX) (l : Me) (hl : l.Out.length ≤ maxLen) (hr : ∀ s ∈ l.Out,s.length ≤ maxLen) : Hs (Ot f l) fun b=>(b = true ↔ Oh f l.Out):=by
 have hm : maxLen ≤ 9223372036854775807:=by decide
 unfold Ot
 refine .beq (fun he=>?_) fun hne=>.pure ⟨fun h=>(by cases h),fun h=>(hne (by rw [h.1])).elim⟩
 have he : l.Out.length = f.Code.length:=by omega
 have key : Hs (MO l.Out f) fun i=>(0 ≤ i ↔ ¬ ∀ s ∈ l.Out,MH f.Slots.length s):=by
  unfold MO
  refine Hs.loop (fun i=>∃ k : Nat,i = (k : Int) ∧ k ≤ l.Out.length ∧ ∀ (j : Nat) s,j < k → l.Out[j]? = some s → MH f.Slots.length s) (fun i=>l.Out.length - i.toNat) ⟨0,rfl,Nat.zero_le _,fun j s h=>absurd h (Nat.not_lt_zero _)⟩ ?_
  rintro _ ⟨k,rfl,hk,hall⟩
  unfold Nm
  refine .dec (fun hlt=>?_) fun hge=>?_
  ·have hlt : k < l.Out.length:=by omega
   rw [Pj,List.getElem?_eq_getElem hlt,Option.bind_some]
   refine (AgS _ f (hr _ (List.getElem_mem hlt))).bind fun b hb=>.cond (fun h=>?_) fun h=>?_
   ·refine .lft (.pure ⟨fun _ hh=>?_,fun _=>by omega⟩)
    have:=hb.2 (hh _ (List.getElem_mem hlt))
    rw [h] at this; cases this
   ·rw [My (by omega)]
    refine .cnt ⟨⟨k + 1,rfl,hlt,fun j s hj hs=>?_⟩,by simp only; omega⟩
    by_cases e : j = k
    ·subst e
     rw [List.getElem?_eq_getElem hlt] at hs
     cases hs
     exact hb.1 h
    ·exact hall j s (by omega) hs
  ·refine .lft (.pure ⟨fun h=>by omega,fun h=>(h fun s hs=>?_).elim⟩)
   obtain ⟨j,hj⟩:=List.getElem?_of_mem hs
   exact hall j s (by have:=(List.getElem?_eq_some_iff.1 hj).1; omega) hj
 unfold MS
 refine Hs.bind (P:=fun b=>(b = true ↔ ¬ ∀ s ∈ l.Out,MH f.Slots.length s)) (key.bind fun i hi=>.pure (by simpa using hi)) fun b hb=>.pure ?_
 constructor
 ·intro h
  have hb' : b = false:=by simpa using h
  refine ⟨he,fun s hs=>?_⟩
  refine Classical.byContradiction fun hn=>?_
  have:=hb.2 fun hh=>hn (hh s hs)
  rw [hb'] at this; cases this
 ·intro h
  have : ¬ b = true:=fun hbt=>hb.1 hbt h.2
  simpa using this
theorem Aee (f : LX) (l : Me) (hl : l.Out.length ≤ maxLen) (hr : ∀ s ∈ l.Out,s.length ≤ maxLen) : Hs (Ro f l) fun b=>(b = true ↔ Oh f l.Out):=by
 have hm : maxLen ≤ 9223372036854775807:=by decide
 unfold Ro
 refine .bne (fun hne=>.pure ⟨fun h=>(by cases h),fun h=>(hne (by rw [h.1])).elim⟩) fun he=>?_
 have he : l.Out.length = f.Code.length:=by omega
 refine Hs.loop (fun i=>∃ k : Nat,i = (k : Int) ∧ k ≤ l.Out.length ∧ ∀ (j : Nat) s,j < k → l.Out[j]? = some s → MH f.Slots.length s) (fun i=>l.Out.length - i.toNat) ⟨0,rfl,Nat.zero_le _,fun j s h=>absurd h (Nat.not_lt_zero _)⟩ ?_
 rintro _ ⟨k,rfl,hk,hall⟩
 unfold TU
 refine .dec (fun hlt=>?_) fun hge=>?_
 ·have hlt : k < l.Out.length:=by omega
  have hg : l.Out[k]? = some l.Out[k]:=List.getElem?_eq_getElem hlt
  have hlen:=hr _ (List.getElem_mem hlt)
  rw [Pj,hg,Option.bind_some,Afn _ (by omega),Option.bind_some]
  have next : MH f.Slots.length l.Out[k] → Hs (cnt (R:=Bool) (IntKind.i64.wrap ((k : Int) + 1))) (Rnd (fun i : Int=>∃ k : Nat,i = (k : Int) ∧ k ≤ l.Out.length ∧ ∀ (j : Nat) s,j < k → l.Out[j]? = some s → MH f.Slots.length s) (fun i=>l.Out.length - i.toNat) (k : Int) fun b=>(b = true ↔ Oh f l.Out)):=by
   intro hset
   rw [My (by omega)]
   refine .cnt ⟨⟨k + 1,rfl,hlt,fun j s hj hs=>?_⟩,by simp only; omega⟩
   by_cases e : j = k
   ·subst e
    rw [hg] at hs
    cases hs
    exact hset
   ·exact hall j s (by omega) hs
  have stop : ¬ MH f.Slots.length l.Out[k] → ((false : Bool) = true ↔ Oh f l.Out):=fun hn=>⟨fun h=>(by cases h),fun h=>(hn (h.2 _ (List.getElem_mem hlt))).elim⟩
  by_cases hc : Qr none l.Out[k] = true
  ·have hset:=(AbK _).1 hc
   rw [hc]
   simp only [Bool.not_true,cond_false,Option.bind_some]
   refine .dec (fun hp=>?_) fun hp=>?_
   ·have hp : 0 < l.Out[k].length:=by omega
    have hi : l.Out[k].length - 1 < l.Out[k].length:=by omega
    have w : IntKind.i64.wrap ((l.Out[k].length : Int) - 1) = ((l.Out[k].length - 1 : Nat) : Int):=by rw [wrap64 (by omega) (by omega)]; omega
    rw [w,Pj,List.getElem?_eq_getElem hi,Option.bind_some]
    refine .dec (fun h=>.lft (.pure (stop fun hh=>?_))) fun h=>next ⟨hset,AdW hset.1 (h:=hi) (by omega)⟩
    have:=hh.2 _ (List.getElem_mem hi)
    omega
   ·have h0 : l.Out[k] = []:=List.length_eq_zero_iff.1 (by omega)
    exact next (by rw [h0]; exact MH.nil _)
  ·have hc' : Qr none l.Out[k] = false:=by simpa using hc
   rw [hc']
   simp only [Bool.not_false,cond_true]
   exact .lft (.pure (stop fun h=>hc ((AbK _).2 h.1)))
 ·refine .lft (.pure ⟨fun _=>⟨he,fun s hs=>?_⟩,fun _=>rfl⟩)
  obtain ⟨j,hj⟩:=List.getElem?_of_mem hs
  exact hall j s (by have:=(List.getElem?_eq_some_iff.1 hj).1; omega) hj
def Qe (f : LX) (l : List (List Int)) (k : Int) : List Int :=
 (Nx (Mc f k) k).foldl (fun o j=>NK o ((inN (Mc f j) (Mm l j)).filter fun v=>!decide (v ∈ Mm l k))) []
theorem Oh.at {f : LX} {l : List (List Int)} (h : Oh f l) {j : Int} (h0 : 0 ≤ j) (h1 : j < f.Code.length) : l[j.toNat]? = some (Mm l j) ∧ MH f.Slots.length (Mm l j):=by
 have hl : j.toNat < l.length:=by have:=h.1; omega
 have : l[j.toNat]? = some (Mm l j):=by simp [Mm,hl]
 exact ⟨this,h.2 _ (List.mem_of_getElem? this)⟩
theorem MM.at {f : LX} (_h : MM f) {j : Int} (h0 : 0 ≤ j) (h1 : j < f.Code.length) : f.Code[j.toNat]? = some (Mc f j) ∧ Mc f j ∈ f.Code:=by
 have : f.Code[j.toNat]? = some (Mc f j):=by simp [Mc,show j.toNat < f.Code.length by omega]
 exact ⟨this,List.mem_of_getElem? this⟩
theorem MM.Ahr {f : LX} (h : MM f) {x : LS} (hx : x ∈ f.Code) : ∀ v ∈ NL x,0 ≤ v ∧ v < 512:=fun v hv=>by have:=h.uses x hx v hv; have:=h.slots; omega
theorem Abr {f : LX} (hf : MM f) {l : List (List Int)} (hl : Oh f l) {k j : Int} (_hk : 0 ≤ k ∧ k < f.Code.length) (hj : 0 ≤ j ∧ j < f.Code.length) {o : List Int} (ho : MH f.Slots.length o) :
  MH f.Slots.length (NK o ((inN (Mc f j) (Mm l j)).filter fun v=>!decide (v ∈ Mm l k))) ∧ ∀ v,v ∈ NK o ((inN (Mc f j) (Mm l j)).filter fun v=>!decide (v ∈ Mm l k)) ↔ v ∈ o ∨ (v ∈ inN (Mc f j) (Mm l j) ∧ v ∉ Mm l k):=by
 have hsl:=hf.slots
 obtain ⟨g1,g2⟩:=TM hf (hf.at hj.1 hj.2).2 (hl.at hj.1 hj.2).2
 obtain ⟨g3,g4⟩:=Sp (n:=f.Slots.length) (by omega) (b:=(inN (Mc f j) (Mm l j)).filter fun v=>!decide (v ∈ Mm l k)) ho fun x hx=>⟨(g1.1.2 x (List.mem_filter.1 hx).1).1,g1.2 x (List.mem_filter.1 hx).1⟩
 exact ⟨g3,fun v=>by rw [g4]; simp [List.mem_filter]⟩
theorem Adk {f : LX} (hf : MM f) {l : List (List Int)} (hl : Oh f l) {k : Int} (hk : 0 ≤ k ∧ k < f.Code.length) : ∀ {js : List Int} {o : List Int},(∀ j ∈ js,0 ≤ j ∧ j < f.Code.length) → MH f.Slots.length o →
  MH f.Slots.length (js.foldl (fun o j=>NK o ((inN (Mc f j) (Mm l j)).filter fun v=>!decide (v ∈ Mm l k))) o) ∧ ∀ v,v ∈ js.foldl (fun o j=>NK o ((inN (Mc f j) (Mm l j)).filter fun v=>!decide (v ∈ Mm l k))) o ↔ v ∈ o ∨ ∃ j ∈ js,v ∈ inN (Mc f j) (Mm l j) ∧ v ∉ Mm l k
 | [],o,_,ho=>⟨ho,fun v=>by simp⟩
 | j :: js,o,hj,ho=>by
  obtain ⟨h1,h2⟩:=Abr hf hl hk (hj j (List.mem_cons_self ..)) ho
  obtain ⟨h5,h6⟩:=Adk hf hl hk (fun q hq=>hj q (List.mem_cons_of_mem _ hq)) h1
  refine ⟨h5,fun v=>?_⟩
  simp only [List.foldl_cons]
  rw [h6,h2]
  simp only [List.mem_cons,exists_eq_or_imp,or_assoc]
theorem Aax {f : LX} (hf : MM f) {l : List (List Int)} (hl : Oh f l) {k : Nat} (hk : k < f.Code.length) : MH f.Slots.length (Qe f l k) ∧ ∀ v,v ∈ Qe f l k ↔ ∃ j ∈ Nx (Mc f k) k,v ∈ inN (Mc f j) (Mm l j) ∧ v ∉ Mm l k:=by
 have hx : f.Code[k]? = some (Mc f k):=by simp [Mc,hk]
 obtain ⟨h1,h2⟩:=Adk hf hl (k:=(k : Int)) ⟨by omega,by omega⟩ (hf.next k _ hx) (MH.nil _)
 exact ⟨h1,fun v=>by unfold Qe; rw [h2]; simp⟩
theorem Aev (x : LS) (k : Int) : (Nx x k).length ≤ 2:=by unfold Nx; (repeat' split) <;> simp
theorem AeC {f : LX} (hf : MM f) {l : Me} (hl : Oh f l.Out) {k : Nat} (hk : k < f.Code.length) : MN f k l [] l k = some (true,Qe f l.Out k):=by
 have hlen:=hf.len'
 have hx : f.Code[k]? = some (Mc f k):=by simp [Mc,hk]
 have hn:=hf.next k _ hx
 have h2:=Aev (Mc f k) k
 obtain ⟨hk1,hk2⟩:=hl.at (j:=(k : Int)) (by omega) (by omega)
 simp only [Int.toNat_natCast] at hk1
 unfold MN
 rw [AgD hx (by omega),Option.bind_some]
 have:=OW (body:=fun s : List Int × Int=>MJ (Nx (Mc f k) k) f l l k s.1 s.2) (Nx (Mc f k) k) (fun (o : List Int) i=>(o,i)) (fun o _=>MH f.Slots.length o)
  (fun o js=>some (true,js.foldl (fun o j=>NK o ((inN (Mc f j) (Mm l.Out j)).filter fun v=>!decide (v ∈ Mm l.Out k))) o))
  (fun o _=>⟨_,by simp [MJ]; rfl,by simp⟩) (fun o i j r ho hd hi hj=>by
   left
   have wi:=My (show i < 9223372036854775807 by omega)
   have hjm:=hn j (List.mem_of_getElem? hj)
   obtain ⟨c1,c2⟩:=hf.at hjm.1 hjm.2
   obtain ⟨o1,o2⟩:=hl.at hjm.1 hjm.2
   obtain ⟨g1,g2⟩:=Abr hf hl (k:=(k : Int)) ⟨by omega,by omega⟩ hjm ho
   obtain ⟨s1,s2⟩:=TM hf c2 o2
   have hsl:=hf.slots
   have e1:=AjU o2.1 (hf.Ahr c2)
   have e2:=Aem s1.1 hk2.1
   have e3:=ZE ho.1 (b:=(inN (Mc f j) (Mm l.Out j)).filter fun v=>!decide (v ∈ Mm l.Out k)) (fun x hx=>by have:=s1.1.2 x (List.mem_filter.1 hx).1; exact this) (by have:=(s1.1.filter fun v=>!decide (v ∈ Mm l.Out k)).length_le; omega)
   obtain ⟨_,hje⟩:=List.getElem?_eq_some_iff.1 hj
   refine ⟨_,g1,?_,rfl⟩
   simp [MJ,Pd,NH,hi,hje,Vk _ hjm.1,c1,o1,e1,hk1,e2,e3,wi]) [] (MH.nil _)
 exact this
theorem Aet {f : LX} (hf : MM f) {l : Me} (hl : Oh f l.Out) {k : Nat} (hk : k < f.Code.length) : QT f l k = some (Qe f l.Out k):=by
 have hlen:=hf.len'
 have hx : f.Code[k]? = some (Mc f k):=by simp [Mc,hk]
 have hn:=hf.next k _ hx
 have h2:=Aev (Mc f k) k
 obtain ⟨hk1,hk2⟩:=hl.at (j:=(k : Int)) (by omega) (by omega)
 simp only [Int.toNat_natCast] at hk1
 unfold QT
 rw [Aed hx (by omega),Option.bind_some]
 have:=OW (body:=fun s : List Int × Int=>Pm (Nx (Mc f k) k) f l k s.1 s.2) (Nx (Mc f k) k) (fun (o : List Int) i=>(o,i)) (fun o _=>MH f.Slots.length o)
  (fun o js=>some (js.foldl (fun o j=>NK o ((inN (Mc f j) (Mm l.Out j)).filter fun v=>!decide (v ∈ Mm l.Out k))) o))
  (fun o _=>⟨_,by simp [Pm]; rfl,by simp⟩) (fun o i j r ho hd hi hj=>by
   left
   have wi:=My (show i < 9223372036854775807 by omega)
   have hjm:=hn j (List.mem_of_getElem? hj)
   obtain ⟨c1,c2⟩:=hf.at hjm.1 hjm.2
   obtain ⟨o1,o2⟩:=hl.at hjm.1 hjm.2
   obtain ⟨g1,g2⟩:=Abr hf hl (k:=(k : Int)) ⟨by omega,by omega⟩ hjm ho
   obtain ⟨s1,s2⟩:=TM hf c2 o2
   have hsl:=hf.slots
   have e1:=AgT (Mc f j) (Mm l.Out j) (by have:=o2.1.length_le; omega)
   have e2:=Afd (inN (Mc f j) (Mm l.Out j)) (Mm l.Out k) (by have:=s1.1.length_le; omega) (by have:=hk2.1.length_le; omega)
   have e3:=union_eq o ((inN (Mc f j) (Mm l.Out j)).filter fun v=>!decide (v ∈ Mm l.Out k)) (by have:=(s1.1.filter fun v=>!decide (v ∈ Mm l.Out k)).length_le; have:=ho.1.length_le; omega)
   obtain ⟨_,hje⟩:=List.getElem?_eq_some_iff.1 hj
   refine ⟨_,g1,?_,rfl⟩
   simp [Pm,hi,hje,Vk _ hjm.1,c1,o1,e1,hk1,e2,e3,wi]) [] (MH.nil _)
 exact this
def Acv (f : LX) (l : List (List Int)) (r : Int × Int × Bool) : Prop :=
 (Oh f l ∧ ∃ (k : Nat) (v : Int),k < f.Code.length ∧ (∀ j : Nat,j < k → Qe f l j = []) ∧ (Qe f l k)[0]? = some v ∧ r = ((k : Int),v,true)) ∨
 ((Oh f l → ∀ j : Nat,j < f.Code.length → Qe f l j = []) ∧ r = (0,0,false))
def Acc (f : LX) (l : List (List Int)) : Prop:=Oh f l ∧ ∀ j : Nat,j < f.Code.length → Qe f l j = []
theorem Acv.acc {f : LX} {l : List (List Int)} {r : Int × Int × Bool} (h : Acv f l r) (hl : Oh f l) : r.2.2 = false ↔ Acc f l:=by
 rcases h with ⟨h0,i,v,h1,h2,h3,rfl⟩ | ⟨h1,rfl⟩
 ·exact ⟨fun h=>(by cases h),fun h=>by rw [h.2 i h1] at h3; cases h3⟩
 ·exact ⟨fun _=>⟨hl,h1 hl⟩,fun _=>rfl⟩
def Zh (l : List (List Int)) : Prop:=l.length ≤ maxLen ∧ ∀ s ∈ l,s.length ≤ maxLen
theorem AgC {f : LX} (hf : MM f) {l : Me} (hl : Zh l.Out) : Hs (PG f l) (Acv f l.Out):=by
 have hlen:=hf.len'
 unfold PG
 refine (Adi f l hl.1 hl.2).bind fun b hb=>.cond (fun h=>?_) fun h=>?_
 ·have hb' : ¬ b = true:=by simpa using h
  exact .pure (.inr ⟨fun hh=>(hb' (hb.2 hh)).elim,rfl⟩)
 ·have hb' : b = true:=by simpa using h
  have hok:=hb.1 hb'
  refine Hs.loop (fun i=>∃ k : Nat,i = (k : Int) ∧ k ≤ f.Code.length ∧ ∀ j : Nat,j < k → Qe f l.Out j = []) (fun i=>f.Code.length - i.toNat) ⟨0,rfl,Nat.zero_le _,fun j h=>absurd h (Nat.not_lt_zero _)⟩ ?_
  rintro _ ⟨k,rfl,hk,hall⟩
  unfold Re
  refine .dec (fun hlt=>?_) fun hge=>?_
  ·have hlt : k < f.Code.length:=by omega
   rw [show RF l = some l from rfl,Option.bind_some,AeC hf hok hlt,Option.bind_some]
   refine .dec (fun hp=>?_) fun hp=>?_
   ·have hp : 0 < (Qe f l.Out k).length:=by simp only at hp; omega
    simp only [AgF]
    have hg : (Qe f l.Out k)[0]? = some ((Qe f l.Out k)[0]):=List.getElem?_eq_getElem hp
    rw [hg,Option.bind_some]
    exact .lft (.pure (.inl ⟨hok,k,_,hlt,hall,hg,rfl⟩))
   ·rw [My (by omega)]
    refine .cnt ⟨⟨k + 1,rfl,hlt,fun j hj=>?_⟩,by simp only; omega⟩
    by_cases e : j = k
    ·subst e; exact List.length_eq_zero_iff.1 (by simp only at hp; omega)
    ·exact hall j (by omega)
  ·exact .lft (.pure (.inr ⟨fun _ j hj=>hall j (by omega),rfl⟩))
theorem Afb {f : LX} (hf : MM f) {l : Me} (hl : Zh l.Out) : Hs (SD f l) (Acv f l.Out):=by
 have hlen:=hf.len'
 unfold SD
 refine (Aee f l hl.1 hl.2).bind fun b hb=>.cond (fun h=>?_) fun h=>?_
 ·have hb' : ¬ b = true:=by simpa using h
  exact .pure (.inr ⟨fun hh=>(hb' (hb.2 hh)).elim,rfl⟩)
 ·have hb' : b = true:=by simpa using h
  have hok:=hb.1 hb'
  refine Hs.loop (fun i=>∃ k : Nat,i = (k : Int) ∧ k ≤ f.Code.length ∧ ∀ j : Nat,j < k → Qe f l.Out j = []) (fun i=>f.Code.length - i.toNat) ⟨0,rfl,Nat.zero_le _,fun j h=>absurd h (Nat.not_lt_zero _)⟩ ?_
  rintro _ ⟨k,rfl,hk,hall⟩
  unfold TT
  refine .dec (fun hlt=>?_) fun hge=>?_
  ·have hlt : k < f.Code.length:=by omega
   rw [Aet hf hok hlt,Option.bind_some]
   refine .dec (fun hp=>?_) fun hp=>?_
   ·have hp : 0 < (Qe f l.Out k).length:=by omega
    refine .chk (by omega) ?_
    have hg : (Qe f l.Out k)[0]? = some ((Qe f l.Out k)[0]):=List.getElem?_eq_getElem hp
    rw [show (0 : Int).toNat = 0 from rfl,hg,Option.bind_some]
    exact .lft (.pure (.inl ⟨hok,k,_,hlt,hall,hg,rfl⟩))
   ·rw [My (by omega)]
    refine .cnt ⟨⟨k + 1,rfl,hlt,fun j hj=>?_⟩,by simp only; omega⟩
    by_cases e : j = k
    ·subst e; exact List.length_eq_zero_iff.1 (by omega)
    ·exact hall j (by omega)
  ·exact .lft (.pure (.inr ⟨fun _ j hj=>hall j (by omega),rfl⟩))
theorem AdJ {f : LX} (hf : MM f) {l : Me} (hl : Zh l.Out) : Hs (OO f l) fun e=>(e = 0 ∨ e = 11) ∧ (e = 0 ↔ Acc f l.Out):=by
 unfold OO
 refine (Adi f l hl.1 hl.2).bind fun b hb=>.cond (fun h=>?_) fun h=>?_
 ·have hb' : ¬ b = true:=by simpa using h
  exact .pure ⟨.inr rfl,fun h=>by omega,fun h=>(hb' (hb.2 h.1)).elim⟩
 ·have hb' : b = true:=by simpa using h
  refine (AgC hf hl).bind fun r hr=>.cond (fun h=>.pure ⟨.inr rfl,fun h=>by omega,fun h'=>?_⟩) fun h=>.pure ⟨.inl rfl,fun _=>(hr.acc (hb.1 hb')).1 h,fun _=>rfl⟩
  rw [(hr.acc h'.1).2 h'] at h; cases h
theorem AeZ {f : LX} (hf : MM f) {l : Me} (hl : Zh l.Out) : Hs (SC f l) fun e=>(e = 0 ∨ e = 11) ∧ (e = 0 ↔ Acc f l.Out):=by
 unfold SC
 refine (Afb hf hl).bind fun r hr=>.cond (fun h=>.pure ⟨.inr rfl,fun h=>by omega,fun h'=>?_⟩) fun h=>?_
 ·rw [(hr.acc h'.1).2 h'] at h; cases h
 ·refine (Aee f l hl.1 hl.2).bind fun b hb=>.cond (fun h=>?_) fun h2=>?_
  ·have hb' : ¬ b = true:=by simpa using h
   exact .pure ⟨.inr rfl,fun h=>by omega,fun h=>(hb' (hb.2 h.1)).elim⟩
  ·have hb' : b = true:=by simpa using h2
   exact .pure ⟨.inl rfl,fun _=>(hr.acc (hb.1 hb')).1 h,fun _=>rfl⟩
theorem Oh.len {f : LX} (hf : MM f) {l : List (List Int)} (h : Oh f l) : Zh l:=by
 have hm : (100000 : Nat) ≤ maxLen:=by decide
 have:=hf.len'; have:=h.1
 exact ⟨by omega,fun s hs=>by have:=(h.2 s hs).1.length_le; omega⟩
theorem AgY {f : LX} (hf : MM f) {l : List (List Int)} (hl : Oh f l) : Acc f l ↔ LE (OT f l) l:=by
 constructor
 ·rintro ⟨_,h⟩ k s t hs ht v hv
  have hk : k < f.Code.length:=by have:=(List.getElem?_eq_some_iff.1 ht).1; have:=hl.1; omega
  have e1 : s = SG f l k:=by simp [OT,hk] at hs; exact hs.symm
  have e2 : t = Mm l k:=by simp [Mm,ht]
  subst e1 e2
  rw [(UA hf hl hk).2] at hv
  obtain ⟨j,hj,hv⟩:=hv
  refine Classical.byContradiction fun hn=>?_
  have : v ∈ Qe f l k:=((Aax hf hl hk).2 v).2 ⟨j,hj,hv,hn⟩
  rw [h k hk] at this; cases this
 ·intro h
  refine ⟨hl,fun k hk=>?_⟩
  refine List.eq_nil_iff_forall_not_mem.2 fun v hv=>?_
  obtain ⟨j,hj,h1,h2⟩:=((Aax hf hl hk).2 v).1 hv
  refine h2 (h k (SG f l k) (Mm l k) (by simp [OT,hk]) ?_ v (((UA hf hl hk).2 v).2 ⟨j,hj,h1⟩))
  have:=(hl.at (j:=(k : Int)) (by omega) (by omega)).1
  simpa using this
theorem Acc.mem {f : LX} (hf : MM f) {l : List (List Int)} (h : Acc f l) {k : Nat} (hk : k < f.Code.length) {j v : Int} (hj : j ∈ Nx (Mc f k) k) (hv : v ∈ inN (Mc f j) (Mm l j)) : v ∈ Mm l k:=by
 refine Classical.byContradiction fun hn=>?_
 have : v ∈ Qe f l k:=((Aax hf h.1 hk).2 v).2 ⟨j,hj,hv,hn⟩
 rw [h.2 k hk] at this; cases this
theorem AcK.acc {f : LX} (hf : MM f) {l : List (List Int)} (h : AcK f l) : Acc f l:=by
 rw [AgY hf h.ok,h.fix]
 intro k s t hs ht v hv
 rw [hs] at ht; cases ht; exact hv
end Go.Proofs.YtfpgidpffhmadaaDoor
namespace Go.Proofs.YtfpgidpffhmadaaDoor
open Go Go.Dw Go.Proofs
def I64 (v : Int) : Prop:=-9223372036854775808 ≤ v ∧ v ≤ 9223372036854775807
def AeH (l : List (List Int)) : Prop:=∀ s ∈ l,s.length ≤ 512 ∧ ∀ v ∈ s,I64 v
def AdA (l : List (List Int)) : Prop:=∀ s ∈ l,ML s
theorem AdA.set {l : List (List Int)} (h : AdA l) {k : Nat} {s : List Int} (hs : ML s) : AdA (l.set k s):=by
 intro t ht
 rcases List.mem_or_eq_of_mem_set ht with h1 | rfl
 ·exact h t h1
 ·exact hs
theorem ML.add {s : List Int} (h : ML s) (n : Int) : ML (OK n s):=by
 unfold OK
 split
 ·exact h.QL (by assumption)
 ·exact h
end Go.Proofs.YtfpgidpffhmadaaDoor
namespace Go.Proofs.YtfpgidpffhmadaaDoor
open Go Go.Dw Go.Proofs
theorem AeH.len {f : LX} (hf : MM f) {l : List (List Int)} (h1 : l.length ≤ f.Code.length) (h2 : AeH l) : Zh l:=by
 have hm : (100000 : Nat) ≤ maxLen:=by decide
 have:=hf.len'
 exact ⟨by omega,fun s hs=>by have:=(h2 s hs).1; omega⟩
theorem Ahw {f : LX} (hf : MM f) {l : List (List Int)} (hl : Oh f l) (h : ∀ k : Nat,k < f.Code.length → ∀ j ∈ Nx (Mc f k) k,∀ v ∈ inN (Mc f j) (Mm l j),v ∈ Mm l k) : Acc f l:=by
 refine ⟨hl,fun k hk=>List.eq_nil_iff_forall_not_mem.2 fun v hv=>?_⟩
 obtain ⟨j,hj,h1,h2⟩:=((Aax hf hl hk).2 v).1 hv
 exact h2 (h k hk j hj v h1)
theorem Ahg {f : LX} (hf : MM f) {k : Nat} (hk : k < f.Code.length) {j : Int} (hj : j ∈ Nx (Mc f k) k) : 0 ≤ j ∧ j < f.Code.length :=
 hf.next k _ (by simp [Mc,hk]) j hj
theorem AeX {l : List (List Int)} {g : List Int → List Int} {j : Int} (h1 : j.toNat < l.length) : Mm (l.map g) j = g (Mm l j):=by
 simp [Mm,h1]
theorem AgX {f : LX} (hf : MM f) {l : List (List Int)} (h : Acc f l) {u : Int} (hu : 0 ≤ u ∧ u < f.Slots.length) : Acc f (l.map (OK u)):=by
 have hsl:=hf.slots
 have hl : Oh f (l.map (OK u)):=by
  refine ⟨by simpa using h.1.1,fun s hs=>?_⟩
  obtain ⟨t,ht,rfl⟩:=List.mem_map.1 hs
  exact (MH.add (h.1.2 t ht) hu (by omega)).1
 have mem : ∀ s,MH f.Slots.length s → ∀ v,v ∈ OK u s ↔ v = u ∨ v ∈ s:=fun s hs=>(MH.AeB (n:=f.Slots.length) hs hu (by omega)).2.2
 refine Ahw hf hl fun k hk j hj v hv=>?_
 have hjm:=Ahg hf hk hj
 have hll:=h.1.1
 obtain ⟨o1,o2⟩:=h.1.at hjm.1 hjm.2
 obtain ⟨q1,q2⟩:=h.1.at (j:=(k : Int)) (by omega) (by omega)
 obtain ⟨p1,p2⟩:=hl.at hjm.1 hjm.2
 rw [AeX (by omega)] at hv p2 ⊢
 rw [(TM hf (hf.at hjm.1 hjm.2).2 p2).2,mem _ o2] at hv
 rw [mem _ q2]
 by_cases e : v = u
 ·exact .inl e
 ·refine .inr (h.mem hf hk hj ?_)
  rw [(TM hf (hf.at hjm.1 hjm.2).2 o2).2]
  rcases hv with ⟨h1,h2⟩ | h1
  ·rcases h1 with h1 | h1
   ·exact (e h1).elim
   ·exact .inl ⟨h1,h2⟩
  ·exact .inr h1
def UD (u : Int) (l : List (List Int)) (k : Nat) : List (List Int):=(l.take k).map (OK u) ++ l.drop k
theorem AeA (u : Int) (l : List (List Int)) : UD u l 0 = l:=by simp [UD]
theorem AeI (u : Int) (l : List (List Int)) : UD u l l.length = l.map (OK u):=by simp [UD]
theorem AdC (u : Int) (l : List (List Int)) {k : Nat} (hk : k ≤ l.length) : (UD u l k).length = l.length:=by simp [UD]; omega
theorem AeJ {u : Int} {l : List (List Int)} {k : Nat} (hk : k < l.length) : (UD u l k)[k]? = some l[k]:=by
 unfold UD
 rw [List.getElem?_append_right (by simp; omega)]
 simp [show min k l.length = k by omega,hk]
theorem AeK {u : Int} {l : List (List Int)} {k : Nat} (hk : k < l.length) : (UD u l k).set k (OK u l[k]) = UD u l (k + 1):=by
 unfold UD
 rw [List.set_append_right _ _ (by simp; omega)]
 have e1 : k - ((l.take k).map (OK u)).length = 0:=by simp; omega
 rw [e1,List.drop_eq_getElem_cons hk,List.set_cons_zero,List.take_succ_eq_append_getElem hk,List.map_append,List.append_assoc]
 rfl
end Go.Proofs.YtfpgidpffhmadaaDoor
namespace Go.Proofs.YtfpgidpffhmadaaDoor
open Go Go.Dw Go.Proofs
def AdO (x : LS) : Int × Bool:=if x.Op = 16 ∨ x.Op = 17 then (x.A,true) else (0,false)
theorem Ahi (x : LS) : OX x = some (AdO x):=by
 obtain ⟨op,a,b,c,i⟩:=x
 unfold OX PJ AdO
 by_cases h16 : op = 16
 ·simp [h16]
 ·have e16 : (op == 16) = false:=by simpa using h16
  by_cases h17 : op = 17
  ·simp [h17]
  ·have e17 : (op == 17) = false:=by simpa using h17
   simp [h16,e16,h17,e17]
def AbI (f : LX) : Prop:=∀ x ∈ f.Code,(x.Op = 16 ∨ x.Op = 17) → 0 ≤ x.A ∧ x.A < f.Slots.length
theorem Uw.defs {ps : List Int} {i most : Int} {f : LX} (h : Uw ps i most f) : AbI f:=by
 intro x hx hop
 obtain ⟨k,hk⟩:=List.getElem?_of_mem hx
 have hkl:=(List.getElem?_eq_some_iff.1 hk).1
 by_cases hk1 : k + 1 < f.Code.length
 ·have hins:=h.body k x hk hk1
  cases hins with
  | store a b h0 h1 h2=>exact ⟨h0,h1⟩
  | move a b h0 h1 h2=>exact ⟨h0.1,h0.2.1⟩
  | bin op a b c h1 h2 h3 h4 h5 h6=>simp only at hop; omega
  | un op a h1 h2=>simp only at hop; omega
  | _=>simp at hop
 ·have he:=h.last x (by rw [show f.Code.length - 1 = k by omega]; exact hk)
  rcases he with rfl | ⟨w,_,rfl⟩ <;> simp at hop
def Sy (x : LS) (v : Int) : Bool:=x.Op == 17 && x.B == v
def Aea (_ : LS) (_ : Int) : Bool:=false
def Ady (mv : LS → Int → Bool) (f : LX) (l : List (List Int)) (k : Nat) (a v : Int) : Prop :=
 a = (Mc f k).A ∧ ((Mc f k).Op = 16 ∨ (Mc f k).Op = 17) ∧ ¬ ((Mc f k).Op = 17 ∧ (Mc f k).A = (Mc f k).B) ∧ v ∈ Mm l k ∧ v ≠ a ∧ mv (Mc f k) v = false
def Vq (mv : LS → Int → Bool) (f : LX) (l : List (List Int)) (k : Nat) (a v : Int) : Prop:=∃ j < k,Ady mv f l j a v
def Ed (mv : LS → Int → Bool) (f : LX) (l : List (List Int)) (a v : Int) : Prop:=Vq mv f l f.Code.length a v
def Xl (mv : LS → Int → Bool) (f : LX) (l : List (List Int)) (k i : Nat) (a v : Int) : Prop :=
 Vq mv f l k a v ∨ (a = (Mc f k).A ∧ v ∈ (Mm l k).take i ∧ v ≠ a ∧ mv (Mc f k) v = false)
theorem Adh {mv : LS → Int → Bool} {f : LX} {l : List (List Int)} {k : Nat} {a v : Int} : Vq mv f l (k + 1) a v ↔ Vq mv f l k a v ∨ Ady mv f l k a v:=by
 constructor
 ·rintro ⟨j,hj,h⟩
  by_cases e : j = k
  ·subst e; exact .inr h
  ·exact .inl ⟨j,by omega,h⟩
 ·rintro (⟨j,hj,h⟩ | h)
  ·exact ⟨j,by omega,h⟩
  ·exact ⟨k,by omega,h⟩
theorem Adg {mv : LS → Int → Bool} {f : LX} {l : List (List Int)} {k : Nat} {a v : Int} : Xl mv f l k 0 a v ↔ Vq mv f l k a v:=by simp [Xl]
theorem AdP {mv : LS → Int → Bool} {f : LX} {l : List (List Int)} {k : Nat} {a v : Int} (h1 : (Mc f k).Op = 16 ∨ (Mc f k).Op = 17) (h2 : ¬ ((Mc f k).Op = 17 ∧ (Mc f k).A = (Mc f k).B)) :
  Xl mv f l k (Mm l k).length a v ↔ Vq mv f l (k + 1) a v:=by
 rw [Adh]
 simp only [Xl,List.take_length,Ady]
 constructor
 ·rintro (h | ⟨h3,h4,h5,h6⟩)
  ·exact .inl h
  ·exact .inr ⟨h3,h1,h2,h4,h5,h6⟩
 ·rintro (h | ⟨h3,_,_,h4,h5,h6⟩)
  ·exact .inl h
  ·exact .inr ⟨h3,h4,h5,h6⟩
theorem Abj {mv : LS → Int → Bool} {f : LX} {l : List (List Int)} {k i : Nat} {x a v : Int} (hx : (Mm l k)[i]? = some x) :
  Xl mv f l k (i + 1) a v ↔ Xl mv f l k i a v ∨ (a = (Mc f k).A ∧ v = x ∧ x ≠ a ∧ mv (Mc f k) x = false):=by
 have ht : (Mm l k).take (i + 1) = (Mm l k).take i ++ [x]:=by rw [List.take_add_one,hx]; rfl
 simp only [Xl,ht,List.mem_append,List.mem_singleton]
 constructor
 ·rintro (h | ⟨h1,h2 | rfl,h3,h4⟩)
  ·exact .inl (.inl h)
  ·exact .inl (.inr ⟨h1,h2,h3,h4⟩)
  ·exact .inr ⟨h1,rfl,h3,h4⟩
 ·rintro ((h | ⟨h1,h2,h3,h4⟩) | ⟨h1,rfl,h3,h4⟩)
  ·exact .inl h
  ·exact .inr ⟨h1,.inl h2,h3,h4⟩
  ·exact .inr ⟨h1,.inr rfl,h3,h4⟩
theorem Zr {mv : LS → Int → Bool} {f : LX} {l : List (List Int)} {k : Nat} {a v : Int} (h : ((Mc f k).Op ≠ 16 ∧ (Mc f k).Op ≠ 17) ∨ ((Mc f k).Op = 17 ∧ (Mc f k).A = (Mc f k).B)) :
  Vq mv f l (k + 1) a v ↔ Vq mv f l k a v:=by
 rw [Adh]
 constructor
 ·rintro (h1 | ⟨_,h2,h3,_⟩)
  ·exact h1
  ·rcases h with ⟨h4,h5⟩ | h4
   ·omega
   ·exact (h3 h4).elim
 ·exact .inl
theorem Adf {mv : LS → Int → Bool} {f : LX} {l : List (List Int)} {k i : Nat} {x a v : Int} (hx : (Mm l k)[i]? = some x) (h : x = (Mc f k).A ∨ mv (Mc f k) x = true) :
  Xl mv f l k (i + 1) a v ↔ Xl mv f l k i a v:=by
 rw [Abj hx]
 constructor
 ·rintro (h1 | ⟨h1,h2,h3,h4⟩)
  ·exact h1
  ·rcases h with h | h
   ·exact (h3 (by rw [h,h1])).elim
   ·rw [h] at h4; cases h4
 ·exact .inl
def Zp (m : List (List Bool)) (a v : Nat) : Bool:=(((m[a]?).getD [])[v]?).getD false
def AbJ (n : Nat) (m : List (List Bool)) (P : Int → Int → Prop) : Prop :=
 m.length = n ∧ (∀ row ∈ m,row.length = n) ∧ ∀ a v : Nat,a < n → v < n → (Zp m a v = true ↔ P a v ∨ P v a)
theorem AbJ.congr {n : Nat} {m : List (List Bool)} {P Q : Int → Int → Prop} (h : AbJ n m P) (hq : ∀ a v,Q a v ↔ P a v) : AbJ n m Q :=
 ⟨h.1,h.2.1,fun a v ha hv=>by rw [h.2.2 a v ha hv,hq,hq]⟩
theorem Ade {n : Nat} {m : List (List Bool)} (hl : m.length = n) {d : Nat} (hd : d < n) (r : List Bool) (a v : Nat) : Zp (m.set d r) a v = if a = d then (r[v]?).getD false else Zp m a v:=by
 unfold Zp
 by_cases e : a = d
 ·subst e
  rw [if_pos rfl,List.getElem?_set_self (by omega)]; rfl
 ·rw [if_neg e,List.getElem?_set_ne (fun h=>e h.symm)]
theorem AdT {n : Nat} {r : List Bool} (hl : r.length = n) {v : Nat} (hv : v < n) (b : Nat) : ((r.set v true)[b]?).getD false = if b = v then true else (r[b]?).getD false:=by
 by_cases e : b = v
 ·subst e; rw [if_pos rfl,List.getElem?_set_self (by omega)]; rfl
 ·rw [if_neg e,List.getElem?_set_ne (fun h=>e h.symm)]
theorem AbJ.set {n : Nat} {m : List (List Bool)} {P : Int → Int → Prop} (h : AbJ n m P) {d v : Nat} {r1 r2 : List Bool} (hd : d < n) (hv : v < n) (hne : d ≠ v) (h1 : m[d]? = some r1) (h2 : m[v]? = some r2) :
  AbJ n ((m.set d (r1.set v true)).set v (r2.set d true)) (fun a b=>P a b ∨ (a = d ∧ b = v)):=by
 obtain ⟨hl,hr,hc⟩:=h
 have l1:=hr _ (List.mem_of_getElem? h1)
 have l2:=hr _ (List.mem_of_getElem? h2)
 refine ⟨by simp [hl],fun row hrow=>?_,fun a b ha hb=>?_⟩
 ·rcases List.mem_or_eq_of_mem_set hrow with h | rfl
  ·rcases List.mem_or_eq_of_mem_set h with h | rfl
   ·exact hr _ h
   ·simp [l1]
  ·simp [l2]
 ·rw [Ade (n:=n) (by simp [hl]) hv,Ade hl hd,AdT l2 hd,AdT l1 hv]
  have e1 : (r1[b]?).getD false = Zp m d b:=by simp [Zp,h1]
  have e2 : (r2[b]?).getD false = Zp m v b:=by simp [Zp,h2]
  rw [e1,e2]
  have hab:=hc a b ha hb
  by_cases ea : a = v
  ·subst ea
   rw [if_pos rfl]
   by_cases eb : b = d
   ·subst eb; rw [if_pos rfl]; simp
   ·rw [if_neg eb,hab]
    constructor
    ·rintro (h | h)
     ·exact .inl (.inl h)
     ·exact .inr (.inl h)
    ·rintro ((h | ⟨h,_⟩) | (h | ⟨h,_⟩))
     ·exact .inl h
     ·omega
     ·exact .inr h
     ·omega
  ·rw [if_neg ea]
   by_cases ed : a = d
   ·subst ed
    rw [if_pos rfl]
    by_cases eb : b = v
    ·subst eb; rw [if_pos rfl]; simp
    ·rw [if_neg eb,hab]
     constructor
     ·rintro (h | h)
      ·exact .inl (.inl h)
      ·exact .inr (.inl h)
     ·rintro ((h | ⟨_,h⟩) | (h | ⟨h,_⟩))
      ·exact .inl h
      ·omega
      ·exact .inr h
      ·omega
   ·rw [if_neg ed,hab]
    constructor
    ·rintro (h | h)
     ·exact .inl (.inl h)
     ·exact .inr (.inl h)
    ·rintro ((h | ⟨h,_⟩) | (h | ⟨_,h⟩))
     ·exact .inl h
     ·omega
     ·exact .inr h
     ·omega
def Oa (n : Nat) (out : List (List Int)) (Q : Nat → Int → Prop) : Prop:=out.length = n ∧ ∀ (a : Nat) s,out[a]? = some s → MH n s ∧ ∀ v,v ∈ s ↔ Q a v
theorem Oa.congr {n : Nat} {out : List (List Int)} {P Q : Nat → Int → Prop} (h : Oa n out P) (hq : ∀ a v,a < n → (Q a v ↔ P a v)) : Oa n out Q :=
 ⟨h.1,fun a s hs=>⟨(h.2 a s hs).1,fun v=>by rw [(h.2 a s hs).2 v,hq a v (by have:=(List.getElem?_eq_some_iff.1 hs).1; have:=h.1; omega)]⟩⟩
theorem Oa.ext {n : Nat} {o1 o2 : List (List Int)} {Q : Nat → Int → Prop} (h1 : Oa n o1 Q) (h2 : Oa n o2 Q) : o1 = o2:=by
 apply List.ext_getElem?
 intro a
 by_cases ha : a < n
 ·have e1 : o1[a]? = some (o1[a]'(by have:=h1.1; omega)):=List.getElem?_eq_getElem _
  have e2 : o2[a]? = some (o2[a]'(by have:=h2.1; omega)):=List.getElem?_eq_getElem _
  rw [e1,e2,(h1.2 a _ e1).1.1.ext (h2.2 a _ e2).1.1 fun v=>by rw [(h1.2 a _ e1).2 v,(h2.2 a _ e2).2 v]]
 ·rw [List.getElem?_eq_none (by have:=h1.1; omega),List.getElem?_eq_none (by have:=h2.1; omega)]
theorem Oa.nil (n : Nat) {Q : Nat → Int → Prop} (hq : ∀ a v,¬ Q a v) : Oa n (List.replicate n []) Q :=
 ⟨by simp,fun a s hs=>by
  rw [List.getElem?_replicate] at hs
  split at hs
  ·cases hs; exact ⟨MH.nil _,fun v=>⟨fun h=>(by cases h),fun h=>(hq a v h).elim⟩⟩
  ·cases hs⟩
theorem Oa.set {n : Nat} {out : List (List Int)} {P Q : Nat → Int → Prop} (h : Oa n out P) {d : Nat} {s : List Int} (hd : d < n) (hs : MH n s) (h1 : ∀ v,v ∈ s ↔ Q d v) (h2 : ∀ a v,a ≠ d → (Q a v ↔ P a v)) : Oa n (out.set d s) Q:=by
 refine ⟨by simp [h.1],fun a t ht=>?_⟩
 by_cases e : a = d
 ·subst e
  rw [List.getElem?_set_self (by have:=h.1; omega)] at ht
  cases ht
  exact ⟨hs,h1⟩
 ·rw [List.getElem?_set_ne (fun h=>e h.symm)] at ht
  exact ⟨(h.2 a t ht).1,fun v=>by rw [(h.2 a t ht).2 v,h2 a v e]⟩
def ZQ (mv : LS → Int → Bool) (f : LX) (l : List (List Int)) (r : List (List Int) × Int) : Prop :=
 (r.2 = 0 ∧ Acc f l ∧ Oa f.Slots.length r.1 fun a v=>Ed mv f l a v ∨ Ed mv f l v a) ∨ (r.2 = 11 ∧ ¬ Acc f l ∧ r.1 = [])
end Go.Proofs.YtfpgidpffhmadaaDoor
namespace Go.Proofs.YtfpgidpffhmadaaDoor
open Go Go.Dw Go.Proofs
def MR (to : List Int) (s : Int) : Int:=(to[s.toNat]?).getD 0
def Ss (f : LX) (s : Int) : Int:=((f.Slots[s.toNat]?).map Mq.Size).getD 0
def AdB (f : LX) (to : List Int) : Prop :=
 to.length = f.Slots.length ∧ ∀ s : Nat,s < to.length → 0 ≤ MR to s ∧ MR to s < to.length ∧ Ss f (MR to s) = Ss f s ∧ MR to (MR to s) = MR to s
theorem Acu {to : List Int} {s : Int} (h0 : 0 ≤ s) (h : s < to.length) : to[s.toNat]? = some (MR to s):=by
 have : s.toNat < to.length:=by omega
 simp [MR,this]
theorem AcH {f : LX} {s : Int} {x : Mq} (h : f.Slots[s.toNat]? = some x) : x.Size = Ss f s:=by
 simp [Ss,h]
theorem AgR (f : LX) (to : List Int) (hsl : f.Slots.length ≤ 500) : Hs (Qm f to) fun b=>b = true ↔ AdB f to:=by
 unfold Qm
 refine .bne (fun h=>.pure ⟨fun h'=>(by cases h'),fun h'=>(h (by rw [h'.1])).elim⟩) fun h=>?_
 have hl : to.length = f.Slots.length:=by omega
 refine Hs.loop (fun i=>∃ k : Nat,i = (k : Int) ∧ k ≤ to.length ∧ ∀ s : Nat,s < k → 0 ≤ MR to s ∧ MR to s < to.length ∧ Ss f (MR to s) = Ss f s ∧ MR to (MR to s) = MR to s) (fun i=>to.length - i.toNat) ⟨0,rfl,Nat.zero_le _,fun s hs=>absurd hs (Nat.not_lt_zero _)⟩ ?_
 rintro _ ⟨k,rfl,hk,hall⟩
 unfold Ru
 refine .dec (fun hlt=>?_) fun hge=>.lft (.pure ⟨fun _=>⟨hl,fun s hs=>hall s (by omega)⟩,fun _=>rfl⟩)
 have hlt : k < to.length:=by omega
 have hg : to[k]? = some (MR to k):=by have:=Acu (to:=to) (s:=k) (by omega) (by omega); simpa using this
 rw [Pj,hg,Option.bind_some]
 have no : ∀ {p : Prop},¬ p → (AdB f to → p) → Hs (lft (some false) : Option (Int ⊕ Bool)) (Rnd (fun i=>∃ k : Nat,i = (k : Int) ∧ k ≤ to.length ∧ ∀ s : Nat,s < k → 0 ≤ MR to s ∧ MR to s < to.length ∧ Ss f (MR to s) = Ss f s ∧ MR to (MR to s) = MR to s) (fun i=>to.length - i.toNat) (k : Int) fun b=>b = true ↔ AdB f to) :=
  fun hp hq=>.lft (.pure ⟨fun h=>(by cases h),fun h=>(hp (hq h)).elim⟩)
 refine .dec (fun h0=>no (p:=0 ≤ MR to k) (by omega) fun h=>(h.2 k hlt).1) fun h0=>?_
 refine .dec (fun h1=>no (p:=MR to k < to.length) (by omega) fun h=>(h.2 k hlt).2.1) fun h1=>?_
 refine Hs.bind (Hs.ix (i:=MR to k) (P:=fun x=>x.Size = Ss f (MR to k)) (by omega) (by omega) fun x hx=>AcH hx) fun a ha=>?_
 refine Hs.bind (Hs.ix (i:=(k : Int)) (P:=fun x=>x.Size = Ss f k) (by omega) (by omega) fun x hx=>AcH hx) fun b hb=>?_
 rw [ha,hb]
 refine .bne (fun h2=>no h2 fun h=>(h.2 k hlt).2.2.1) fun h2=>?_
 rw [Vk _ (by omega),Acu (by omega) (by omega),Option.bind_some]
 refine .bne (fun h3=>no h3 fun h=>(h.2 k hlt).2.2.2) fun h3=>?_
 rw [My (by omega)]
 refine .cnt ⟨⟨k + 1,rfl,hlt,fun s hs=>?_⟩,by simp only; omega⟩
 by_cases e : s = k
 ·subst e; exact ⟨by omega,by omega,h2,h3⟩
 ·exact hall s (by omega)
def PV (Az : List Bool) (k : Nat) : Bool:=(Az[k]?).getD true
def AcL (f : LX) (r : MD) : Prop :=
 AdB f r.To ∧ r.Keep.length = f.Code.length ∧ ∀ k : Nat,k < f.Code.length → PV r.Keep k = false → (Mc f k).Op = 16 ∨ (Mc f k).Op = 17
theorem AcG {f : LX} (hf : MM f) (r : MD) : Hs (PT f r) fun e=>(e = 0 ∨ e = 12) ∧ (e = 0 ↔ AcL f r):=by
 have hlen:=hf.len'
 unfold PT
 refine (AgR f r.To hf.slots).bind fun b hb=>.cond (fun h=>.pure ⟨.inr rfl,fun h=>by omega,fun h'=>?_⟩) fun h=>?_
 ·rw [hb.2 h'.1] at h; cases h
 have hv : AdB f r.To:=hb.1 (by simpa using h)
 refine .bne (fun h=>.pure ⟨.inr rfl,fun h=>by omega,fun h'=>(h (by rw [h'.2.1])).elim⟩) fun h=>?_
 have hkl : r.Keep.length = f.Code.length:=by omega
 unfold Sl
 refine Hs.loop (fun i=>∃ k : Nat,i = (k : Int) ∧ k ≤ f.Code.length ∧ ∀ j : Nat,j < k → PV r.Keep j = false → (Mc f j).Op = 16 ∨ (Mc f j).Op = 17) (fun i=>f.Code.length - i.toNat) ⟨0,rfl,Nat.zero_le _,fun s hs=>absurd hs (Nat.not_lt_zero _)⟩ ?_
 rintro _ ⟨k,rfl,hk,hall⟩
 unfold Sk
 refine .dec (fun hlt=>?_) fun hge=>.lft (.pure ⟨.inl rfl,fun _=>⟨hv,hkl,fun j hj=>hall j (by omega)⟩,fun _=>rfl⟩)
 have hlt : k < f.Code.length:=by omega
 have hx:=hf.at (j:=(k : Int)) (by omega) (by omega)
 rw [Int.toNat_natCast] at hx
 have hg : r.Keep[k]? = some (PV r.Keep k):=by simp [PV,show k < r.Keep.length by omega]
 have stp : (PV r.Keep k = false → (Mc f k).Op = 16 ∨ (Mc f k).Op = 17) → ∀ j : Nat,j < k + 1 → PV r.Keep j = false → (Mc f j).Op = 16 ∨ (Mc f j).Op = 17:=by
  intro h j hj
  by_cases e : j = k
  ·subst e; exact h
  ·exact hall j (by omega)
 simp only [Pj,hx.1,hg,Option.bind_some]
 rw [My (by omega)]
 refine .cond (fun h=>?_) fun h=>.cnt ⟨⟨k + 1,rfl,hlt,stp fun h'=>by rw [h'] at h; cases h⟩,by simp only; omega⟩
 have hkf : PV r.Keep k = false:=by simpa using h
 unfold Qu
 rw [AcO,Option.bind_some,Option.bind_some]
 by_cases hd : (Mc f k).Op = 16 ∨ (Mc f k).Op = 17
 ·rw [if_pos hd]
  exact .cnt ⟨⟨k + 1,rfl,hlt,stp fun _=>hd⟩,by simp only; omega⟩
 ·rw [if_neg hd]
  exact .lft (.pure ⟨.inr rfl,fun h=>by omega,fun h=>(hd (h.2.2 k hlt hkf)).elim⟩)
def Wj (f : LX) (l : List (List Int)) (r : MD) (k : Nat) (y : Int) : Prop :=
 ((Mc f k).Op = 16 ∨ (Mc f k).Op = 17) ∧ ¬ ((Mc f k).Op = 17 ∧ MR r.To (Mc f k).A = MR r.To (Mc f k).B) ∧ y ∈ Mm l k ∧ (PV r.Keep k = true ↔ y ≠ (Mc f k).A) ∧ MR r.To y = MR r.To (Mc f k).A
theorem AdM {f : LX} (hf : MM f) (hd : AbI f) {l : Me} (hl : Oh f l.Out) {r : MD} (hr : AcL f r) {k : Nat} (hk : k < f.Code.length) :
  Hs (MU (k : Int) f r l) fun q=>q.2 = true ↔ ∃ y,Wj f l.Out r k y:=by
 have hsl:=hf.slots
 have htl:=hr.1.1
 have hx:=hf.at (j:=(k : Int)) (by omega) (by omega)
 have hrow:=hl.at (j:=(k : Int)) (by omega) (by omega)
 rw [Int.toNat_natCast] at hx hrow
 have hlo:=hrow.2.1.length_le
 have hg : r.Keep[k]? = some (PV r.Keep k):=by have:=hr.2.1; simp [PV,show k < r.Keep.length by omega]
 have tg : ∀ s : Int,0 ≤ s → s < f.Slots.length → ixO r.To s = some (MR r.To s):=fun s h0 h1=>by rw [Vk _ h0,Acu h0 (by omega)]
 unfold MU
 simp only [Pj,hx.1,Option.bind_some,AcO]
 by_cases hdef : (Mc f k).Op = 16 ∨ (Mc f k).Op = 17
 ·rw [if_pos hdef]
  simp only [Bool.not_true,cond_false]
  have hA:=hd _ hx.2 hdef
  have inner : ¬ ((Mc f k).Op = 17 ∧ MR r.To (Mc f k).A = MR r.To (Mc f k).B) → Hs (MQ l (k : Int) r ((Mc f k).A,true)) fun q=>q.2 = true ↔ ∃ y,Wj f l.Out r k y:=by
   intro hnm
   unfold MQ
   rw [Pj,hrow.1,Option.bind_some]
   refine Hs.loop (fun i=>∃ j : Nat,i = (j : Int) ∧ j ≤ (Mm l.Out k).length ∧ ∀ y ∈ (Mm l.Out k).take j,¬ Wj f l.Out r k y) (fun i=>(Mm l.Out k).length - i.toNat) ⟨0,rfl,Nat.zero_le _,fun y hy=>by simp at hy⟩ ?_
   rintro _ ⟨j,rfl,hj,hno⟩
   unfold NB
   refine .dec (fun hlt=>?_) fun hge=>.lft (.pure ⟨fun h=>(by cases h),fun ⟨y,hy⟩=>?_⟩)
   ·have hlt : j < (Mm l.Out k).length:=by omega
    have hgx : (Mm l.Out k)[j]? = some (Mm l.Out k)[j]:=List.getElem?_eq_getElem _
    have hxm:=List.getElem_mem hlt
    have htk : (Mm l.Out k).take (j + 1) = (Mm l.Out k).take j ++ [(Mm l.Out k)[j]]:=by rw [List.take_add_one,hgx]; rfl
    generalize (Mm l.Out k)[j] = y at hgx hxm htk
    have hy0:=(hrow.2.1.2 y hxm).1
    have hyn:=hrow.2.2 y hxm
    have stp : ¬ Wj f l.Out r k y → ∀ z ∈ (Mm l.Out k).take (j + 1),¬ Wj f l.Out r k z:=by
     intro h z hz
     rw [htk] at hz
     rcases List.mem_append.1 hz with hz | hz
     ·exact hno z hz
     ·rw [List.mem_singleton.1 hz]; exact h
    simp only [Pj,hgx,hg,tg _ hy0 hyn,tg _ hA.1 hA.2,Option.bind_some]
    rw [My (by omega)]
    have hky : (PV r.Keep k == (y != (Mc f k).A)) = true ↔ (PV r.Keep k = true ↔ y ≠ (Mc f k).A):=by
     rw [beq_iff_eq]
     by_cases e : y = (Mc f k).A <;> cases PV r.Keep k <;> simp [e]
    refine .cond (fun h1=>.beq (fun h2=>.lft (.pure ⟨fun _=>⟨y,hdef,hnm,hxm,hky.1 h1,h2⟩,fun _=>rfl⟩)) fun h2=>?_) fun h1=>?_
    ·exact .cnt ⟨⟨j + 1,rfl,hlt,stp fun h=>h2 h.2.2.2.2⟩,by simp only; omega⟩
    ·exact .cnt ⟨⟨j + 1,rfl,hlt,stp fun h=>by rw [hky.2 h.2.2.2.1] at h1; cases h1⟩,by simp only; omega⟩
   ·refine (hno y ?_ hy).elim
    rw [List.take_of_length_le (by omega)]
    exact hy.2.2.1
  refine .beq (fun h17=>?_) fun h17=>inner fun h=>h17 h.1
  have hB:=hf.uses _ hx.2 (Mc f k).B (by simp [NL,h17])
  rw [tg _ hA.1 hA.2,Option.bind_some,tg _ hB.1 hB.2,Option.bind_some]
  exact .beq (fun h=>.pure ⟨fun h=>(by cases h),fun ⟨y,hy⟩=>(hy.2.1 ⟨h17,h⟩).elim⟩) fun h=>inner fun h'=>h h'.2
 ·rw [if_neg hdef]
  simp only [Bool.not_false,cond_true]
  exact .pure ⟨fun h=>(by cases h),fun ⟨y,hy⟩=>(hdef hy.1).elim⟩
theorem Aep {f : LX} (hf : MM f) (hd : AbI f) {l : Me} (hl : Acc f l.Out) {r : MD} (hr : AcL f r) : Hs (OV f l r) fun q=>q.2.2 = true ↔ ∃ k y,k < f.Code.length ∧ Wj f l.Out r k y:=by
 have hlen:=hf.len'
 unfold OV
 refine (AdJ hf (hl.1.len hf)).bind fun e he=>.bne (fun h=>(h (he.2.2 hl)).elim) fun _=>?_
 refine (AcG hf r).bind fun e he=>.bne (fun h=>(h (he.2.2 hr)).elim) fun _=>?_
 unfold Qh
 refine Hs.loop (fun i=>∃ k : Nat,i = (k : Int) ∧ k ≤ f.Code.length ∧ ∀ j y,j < k → ¬ Wj f l.Out r j y) (fun i=>f.Code.length - i.toNat) ⟨0,rfl,Nat.zero_le _,fun s _ hs=>absurd hs (Nat.not_lt_zero _)⟩ ?_
 rintro _ ⟨k,rfl,hk,hall⟩
 unfold Qg
 refine .dec (fun hlt=>?_) fun hge=>.lft (.pure ⟨fun h=>(by cases h),fun ⟨j,y,hj,hy⟩=>(hall j y (by omega) hy).elim⟩)
 have hlt : k < f.Code.length:=by omega
 refine (AdM hf hd hl.1 hr hlt).bind fun q hq=>.cond (fun h=>?_) fun h=>?_
 ·obtain ⟨y,hy⟩:=hq.1 h
  exact .lft (.pure ⟨fun _=>⟨k,y,hlt,hy⟩,fun _=>rfl⟩)
 ·rw [My (by omega)]
  refine .cnt ⟨⟨k + 1,rfl,hlt,fun j y hj hy=>?_⟩,by simp only; omega⟩
  by_cases e : j = k
  ·subst e; rw [hq.2 ⟨y,hy⟩] at h; cases h
  ·exact hall j y (by omega) hy
theorem ZC {f : LX} (hf : MM f) (hd : AbI f) {l : Me} (hl : Zh l.Out) (r : MD) :
  Hs (Oc f l r) fun e=>(¬ Acc f l.Out ∧ e = 11) ∨ (Acc f l.Out ∧ (¬ AcL f r ∨ ∃ k y,k < f.Code.length ∧ Wj f l.Out r k y) ∧ e = 12) ∨ (Acc f l.Out ∧ AcL f r ∧ (∀ k y,k < f.Code.length → ¬ Wj f l.Out r k y) ∧ e = 0):=by
 unfold Oc
 refine (AdJ hf hl).bind fun e he=>.bne (fun h=>.pure (.inl ⟨fun h'=>h (he.2.2 h'),rfl⟩)) fun h=>?_
 have ha:=he.2.1 h
 refine (AcG hf r).bind fun e he=>.bne (fun h=>.pure (.inr (.inl ⟨ha,.inl fun h'=>h (he.2.2 h'),rfl⟩))) fun h=>?_
 have hr:=he.2.1 h
 refine (Aep hf hd ha hr).bind fun q hq=>.cond (fun h=>.pure (.inr (.inl ⟨ha,.inr (hq.1 h),rfl⟩))) fun h=>.pure (.inr (.inr ⟨ha,hr,fun k y hk hy=>?_,rfl⟩))
 rw [hq.2 ⟨k,y,hk,hy⟩] at h; cases h
end Go.Proofs.YtfpgidpffhmadaaDoor
namespace Go.Proofs.YtfpgidpffhmadaaDoor
open Go Go.Dw Go.Proofs
theorem Aka {n : Nat} {out : List (List Int)} {P : Int → Int → Prop} (hs : Oa n out fun a v=>P a v ∨ P v a) (hn : n ≤ 500) {d y : Nat} (hd : d < n) (hy : y < n) (hne : d ≠ y) (t : Bool) {i : Nat} (hi : i < 1000000) (p q r s : Bool) :
  ∃ out',OD ((d : Int),t) out (y : Int) (i : Int) p q r s = some (.inl (out',((i + 1 : Nat) : Int))) ∧ Oa n out' fun a v=>(P a v ∨ ((a : Int) = d ∧ v = y)) ∨ (P v a ∨ (v = d ∧ (a : Int) = y)):=by
 have e1 : out[d]? = some (out[d]'(by have:=hs.1; omega)):=List.getElem?_eq_getElem _
 have e2 : out[y]? = some (out[y]'(by have:=hs.1; omega)):=List.getElem?_eq_getElem _
 generalize out[d]'(by have:=hs.1; omega) = sd at e1
 generalize out[y]'(by have:=hs.1; omega) = sy at e2
 have q1:=hs.2 d _ e1
 have q2:=hs.2 y _ e2
 have a1:=q1.1.add (m:=(y : Int)) (by omega) (by omega)
 have a2:=q2.1.add (m:=(d : Int)) (by omega) (by omega)
 have m1:=(MH.AeB (m:=(y : Int)) q1.1 (by omega) (by omega)).2.2
 have m2:=(MH.AeB (m:=(d : Int)) q2.1 (by omega) (by omega)).2.2
 have e3 : (out.set d (OK y sd))[y]? = some sy:=by rw [List.getElem?_set_ne hne]; exact e2
 have hl:=hs.1
 have h1 : 0 ≤ (d : Int) ∧ (d : Int) < out.length:=by omega
 have h2 : 0 ≤ (y : Int) ∧ (y : Int) < out.length:=by omega
 have h3 : 0 ≤ (y : Int) ∧ (y : Int) < (out.set d (OK y sd)).length:=by simp only [List.length_set]; omega
 have w:=My (show i < 9223372036854775807 by omega)
 refine ⟨(out.set d (OK y sd)).set y (OK d sy),by simp only [OD,Int.toNat_natCast,Nf h1,Nf h2,Nf h3,e1,e2,e3,a1.2,a2.2,Option.bind_some,w,Ahc],by simp [hl],fun a s hs'=>?_⟩
 by_cases ea : a = y
 ·subst ea
  rw [List.getElem?_set_self (by simp; omega)] at hs'
  obtain rfl:=Option.some.inj hs'
  refine ⟨a2.1,fun v=>?_⟩
  rw [m2 v,q2.2 v]
  constructor
  ·rintro (h | h | h)
   ·exact .inr (.inr ⟨h,rfl⟩)
   ·exact .inl (.inl h)
   ·exact .inr (.inl h)
  ·rintro ((h | ⟨h,_⟩) | (h | ⟨h,_⟩))
   ·exact .inr (.inl h)
   ·omega
   ·exact .inr (.inr h)
   ·exact .inl h
 ·rw [List.getElem?_set_ne (fun h=>ea h.symm)] at hs'
  by_cases ed : a = d
  ·subst ed
   rw [List.getElem?_set_self (by omega)] at hs'
   obtain rfl:=Option.some.inj hs'
   refine ⟨a1.1,fun v=>?_⟩
   rw [m1 v,q1.2 v]
   constructor
   ·rintro (h | h | h)
    ·exact .inl (.inr ⟨rfl,h⟩)
    ·exact .inl (.inl h)
    ·exact .inr (.inl h)
   ·rintro ((h | ⟨_,h⟩) | (h | ⟨_,h⟩))
    ·exact .inr (.inl h)
    ·exact .inl h
    ·exact .inr (.inr h)
    ·omega
  ·rw [List.getElem?_set_ne (fun h=>ed h.symm)] at hs'
   refine ⟨(hs.2 a s hs').1,fun v=>?_⟩
   rw [(hs.2 a s hs').2 v]
   constructor
   ·rintro (h | h)
    ·exact .inl (.inl h)
    ·exact .inr (.inl h)
   ·rintro ((h | ⟨h,_⟩) | (h | ⟨_,h⟩))
    ·exact .inl h
    ·omega
    ·exact .inr h
    ·omega
def Adz (mv : LS → Int → Bool) (f : LX) (l : List (List Int)) (s : List (List Int) × Int) : Prop :=
 ∃ k : Nat,s.2 = (k : Int) ∧ k ≤ f.Code.length ∧ Oa f.Slots.length s.1 fun a v=>Vq mv f l k a v ∨ Vq mv f l k v a
def Aez (mv : LS → Int → Bool) (f : LX) (l : List (List Int)) (k : Nat) (s : List (List Int) × Int) : Prop :=
 ∃ i : Nat,s.2 = (i : Int) ∧ i ≤ (Mm l k).length ∧ Oa f.Slots.length s.1 fun a v=>Xl mv f l k i a v ∨ Xl mv f l k i v a
theorem Afc {f : LX} (hf : MM f) (hd : AbI f) {l : Me} (hl : Zh l.Out) (b : Bool) : Hs (SE f l b) (ZQ (bif b then Aea else Sy) f l.Out):=by
 have hlen:=hf.len'
 have hsl:=hf.slots
 unfold SE
 refine (AeZ hf hl).bind fun e he=>.bne (fun h=>.pure (.inr ⟨he.1.resolve_left h,fun ha=>h (he.2.2 ha),rfl⟩)) fun h=>?_
 have hacc : Acc f l.Out:=he.2.1 h
 refine .chk (by omega) ?_
 generalize hmv : (bif b then Aea else Sy) = mv
 refine Hs.loop (Adz mv f l.Out) (fun s=>f.Code.length - s.2.toNat) ⟨0,rfl,Nat.zero_le _,?_⟩ ?_
 ·rw [Int.toNat_natCast]
  exact Oa.nil _ fun a v h=>by rcases h with ⟨j,hj,_⟩ | ⟨j,hj,_⟩ <;> omega
 rintro ⟨out,_⟩ ⟨k,rfl,hk,hs⟩
 unfold TV
 refine .dec (fun hlt=>?_) fun hge=>.lft (.pure (.inl ⟨rfl,hacc,?_⟩))
 ·have hlt : k < f.Code.length:=by simp only at hlt; omega
  have hx:=hf.at (j:=(k : Int)) (by omega) (by omega)
  rw [Int.toNat_natCast] at hx
  have hrow:=hacc.1.at (j:=(k : Int)) (by omega) (by omega)
  rw [Int.toNat_natCast] at hrow
  simp only [Pj,hx.1,Option.bind_some,Ahi]
  have next : ∀ out',(Oa f.Slots.length out' fun a v=>Vq mv f l.Out (k + 1) a v ∨ Vq mv f l.Out (k + 1) v a) → ∀ a b c d e,Hs (Pn (k : Int) a b c d e out') (Rnd (Adz mv f l.Out) (fun s=>f.Code.length - s.2.toNat) (out,(k : Int)) (ZQ mv f l.Out)):=by
   intro out' h' a b c d e
   unfold Pn
   rw [My (by omega)]
   exact .cnt ⟨⟨k + 1,rfl,hlt,h'⟩,by simp only; omega⟩
  have inner : ¬ ((Mc f k).Op = 17 ∧ (Mc f k).A = (Mc f k).B) → Hs (Qo l (k : Int) (AdO (Mc f k)) b (Mc f k) out) (Rnd (Adz mv f l.Out) (fun s=>f.Code.length - s.2.toNat) (out,(k : Int)) (ZQ mv f l.Out)):=by
   intro hnm
   unfold Qo
   by_cases hdef : (Mc f k).Op = 16 ∨ (Mc f k).Op = 17
   ·have hdn : AdO (Mc f k) = ((Mc f k).A,true):=if_pos hdef
    have hA:=hd _ hx.2 hdef
    rw [hdn]
    have hlo:=hrow.2.1.length_le
    refine Hs.loop (Aez mv f l.Out k) (fun s=>(Mm l.Out k).length - s.2.toNat) ⟨0,rfl,Nat.zero_le _,hs.congr fun a v _=>by rw [Adg,Adg]⟩ ?_
    rintro ⟨out2,_⟩ ⟨i,rfl,hi,hs2⟩
    unfold RK
    simp only [Pj,hrow.1,Option.bind_some]
    refine .dec (fun hlt2=>?_) fun hge2=>.lft (next _ (hs2.congr fun a v _=>?_) _ _ _ _ _)
    ·have hlt2 : i < (Mm l.Out k).length:=by omega
     have hgx : (Mm l.Out k)[i]? = some (Mm l.Out k)[i]:=List.getElem?_eq_getElem _
     have hxm:=List.getElem_mem hlt2
     generalize (Mm l.Out k)[i] = x at hgx hxm
     have hx0:=hrow.2.1.2 x hxm
     have hxn:=hrow.2.2 x hxm
     simp only [cond_true]
     unfold TW
     simp only [Pj,hrow.1,hgx,Option.bind_some]
     have skip : x = (Mc f k).A ∨ mv (Mc f k) x = true → Hs (cnt (out2,IntKind.i64.wrap ((i : Int) + 1))) (Rnd (Aez mv f l.Out k) (fun s=>(Mm l.Out k).length - s.2.toNat) (out2,(i : Int)) (Rnd (Adz mv f l.Out) (fun s=>f.Code.length - s.2.toNat) (out,(k : Int)) (ZQ mv f l.Out))):=by
      intro hh
      rw [My (by omega)]
      exact .cnt ⟨⟨i + 1,rfl,hlt2,hs2.congr fun a v _=>by rw [Adf hgx hh,Adf hgx hh]⟩,by simp only; omega⟩
     have add : x ≠ (Mc f k).A → mv (Mc f k) x = false → ∀ p q r s,Hs (OD ((Mc f k).A,true) out2 x (i : Int) p q r s) (Rnd (Aez mv f l.Out k) (fun s=>(Mm l.Out k).length - s.2.toNat) (out2,(i : Int)) (Rnd (Adz mv f l.Out) (fun s=>f.Code.length - s.2.toNat) (out,(k : Int)) (ZQ mv f l.Out))):=by
      intro hne hmf p q r s
      obtain ⟨d,hde⟩ : ∃ d : Nat,(Mc f k).A = (d : Int):=⟨_,(Int.toNat_of_nonneg hA.1).symm⟩
      obtain ⟨y,rfl⟩ : ∃ y : Nat,x = (y : Int):=⟨_,(Int.toNat_of_nonneg hx0.1).symm⟩
      obtain ⟨out',h1,h2⟩:=Aka (P:=Xl mv f l.Out k i) hs2 (by omega) (d:=d) (y:=y) (by omega) (by omega) (by omega) true (i:=i) (by omega) p q r s
      rw [hde,h1]
      refine .pure ⟨⟨i + 1,rfl,hlt2,h2.congr fun a v _=>?_⟩,by simp only; omega⟩
      rw [Abj hgx,Abj hgx,hde]
      constructor
      ·rintro ((h | ⟨h1,h2,_⟩) | (h | ⟨h1,h2,_⟩))
       ·exact .inl (.inl h)
       ·exact .inl (.inr ⟨h1,h2⟩)
       ·exact .inr (.inl h)
       ·exact .inr (.inr ⟨h1,h2⟩)
      ·rintro ((h | ⟨h1,h2⟩) | (h | ⟨h1,h2⟩))
       ·exact .inl (.inl h)
       ·exact .inl (.inr ⟨h1,h2,by omega,hmf⟩)
       ·exact .inr (.inl h)
       ·exact .inr (.inr ⟨h1,h2,by omega,hmf⟩)
     refine .beq (fun h=>skip (.inl h)) fun hne=>?_
     subst hmv
     cases b
     ·simp only [Bool.not_false,cond_true,cond_false] 
      refine .beq (fun h17=>.beq (fun hB=>skip (.inr (by simp [Sy,h17,hB]))) fun hB=>add hne (by simp [Sy,hB]) _ _ _ _) fun h17=>add hne (by simp [Sy,h17]) _ _ _ _
     ·simp only [Bool.not_true,cond_true,cond_false] 
      exact add hne rfl _ _ _ _
    ·have hi : i = (Mm l.Out k).length:=by omega
     subst hi
     rw [AdP hdef hnm,AdP hdef hnm]
   ·have hdn : AdO (Mc f k) = (0,false):=if_neg hdef
    rw [hdn]
    have hs':=hs.congr (Q:=fun a v=>Vq mv f l.Out (k + 1) a v ∨ Vq mv f l.Out (k + 1) v a) fun a v _=>by rw [Zr (.inl (by omega)),Zr (.inl (by omega))]
    refine Hs.loop (fun s=>s = (out,0)) (fun _=>0) rfl ?_
    rintro _ rfl
    unfold RK
    simp only [Pj,hrow.1,Option.bind_some,cond_false]
    exact .dec (fun _=>.lft (next _ hs' _ _ _ _ _)) fun _=>.lft (next _ hs' _ _ _ _ _)
  refine .beq (fun h17=>.beq (fun hab=>next _ ?_ _ _ _ _ _) fun hab=>inner fun hh=>hab hh.2) fun h17=>inner fun hh=>h17 hh.1
  exact hs.congr fun a v _=>by rw [Zr (.inr ⟨h17,hab⟩),Zr (.inr ⟨h17,hab⟩)]
 ·have hk : k = f.Code.length:=by simp only at hge; omega
  subst hk
  exact hs
end Go.Proofs.YtfpgidpffhmadaaDoor
namespace Go.Proofs.YtfpgidpffhmadaaDoor
open Go Go.Dw Go.Proofs
theorem AgH {c : LU} (h : okC c) {f : LX} (hf : MM f) : Hs (Pg c f) fun p=>okC p.2 ∧ Acc f p.1.Out:=by
 have hlen:=hf.len
 have hlen':=hf.len'
 have hsl:=hf.slots
 unfold Pg
 refine (AgM hf).bind fun l hl=>.chk (by have:=hl.ok.1; simp; omega) ((MG h (by omega) (by omega)).bind fun r hr=>?_)
 refine Hs.loop (fun s=>okC ⟨s.1,s.2.1⟩ ∧ Acc f s.2.2.1 ∧ 0 ≤ s.2.2.2 ∧ s.2.2.2 < 3) (fun s=>s.2.2.2.toNat) ⟨hr.1,by simpa using hl.acc hf,hr.2⟩ ?_
 rintro ⟨l,a,x,n⟩ ⟨hc,hx,hn0,hn1⟩
 simp only at hc hx hn0 hn1
 have w : IntKind.i64.wrap (n - 1) = n - 1:=wrap64 (by omega) (by omega)
 unfold Qz
 refine .dec (fun hlt=>.dec (fun hsl0=>?_) fun _=>.lft (.pure ⟨hc,hx⟩)) fun _=>.lft (.pure ⟨hc,hx⟩)
 have hlt : 0 < n:=hlt
 unfold QB
 refine (MG hc (by omega) (by omega)).bind fun u hu=>?_
 have hxl:=hx.1.1
 refine Hs.loop (fun s=>∃ k : Nat,s.2 = (k : Int) ∧ k ≤ x.length ∧ s.1 = UD u.1 x k) (fun s=>x.length - s.2.toNat) ⟨0,rfl,Nat.zero_le _,(AeA _ _).symm⟩ ?_
 rintro ⟨y,i⟩ ⟨k,hi,hk,hy⟩
 simp only at hi hy
 subst hi hy
 have hyl:=AdC u.1 x hk
 unfold QA
 refine .dec (fun hlt=>?_) fun hge=>?_
 ·have hlt : k < x.length:=by simp only at hlt; omega
  refine .chk (by omega) ?_
  have hs:=hx.1.2 _ (List.getElem_mem hlt)
  rw [Int.toNat_natCast,AeJ hlt,Option.bind_some,add_eq _ _ (by have:=hs.1.length_le; omega),Option.bind_some]
  refine .chk (by omega) ?_
  rw [Option.bind_some,AeK hlt,My (by omega)]
  exact .cnt ⟨⟨k + 1,rfl,hlt,rfl⟩,by simp only; omega⟩
 ·obtain rfl : k = x.length:=by simp only at hge; omega
  rw [AeI]
  unfold QC
  exact .lft (.cnt ⟨⟨hu.1,AgX hf hx hu.2,by simp only [w]; omega,by simp only [w]; omega⟩,by simp only [w]; omega⟩)
end Go.Proofs.YtfpgidpffhmadaaDoor
namespace Go.Proofs.YtfpgidpffhmadaaDoor
open Go Go.Dw Go.Proofs
abbrev Acl : LX:=LX.mk 0 ([(Mq.mk 8 8),(Mq.mk 8 8)] : List Mq) ([(LS.mk 16 0 0 0 0),(LS.mk 16 1 0 0 0),(LS.mk 15 0 0 0 0),(LS.mk 23 0 0 0 0)] : List LS)
abbrev AdD : List (List Int):=[[0],[0],[],[]]
theorem Zi : MM Acl:=by
 refine ⟨by simp,by simp,by simp,fun k x hx j hj=>?_,fun x hx v hv=>?_⟩
 ·match k,hx with
  | 0,hx=>simp at hx; subst hx; simp [Nx] at hj; subst hj; simp
  | 1,hx=>simp at hx; subst hx; simp [Nx] at hj; subst hj; simp
  | 2,hx=>simp at hx; subst hx; simp [Nx] at hj; subst hj; simp
  | 3,hx=>simp at hx; subst hx; simp [Nx] at hj
  | n + 4,hx=>simp at hx
 ·simp at hx
  rcases hx with rfl | rfl | rfl | rfl <;> simp [NL] at hv <;> subst hv <;> simp
theorem Adc : AbI Acl:=by
 intro x hx h
 simp at hx
 rcases hx with rfl | rfl | rfl | rfl <;> simp at h ⊢
theorem Aas : Acc Acl AdD:=by
 refine ⟨⟨rfl,fun s hs=>?_⟩,fun j hj=>?_⟩
 ·have : s = [] ∨ s = [0]:=by simp at hs; rcases hs with rfl | rfl <;> simp
  rcases this with rfl | rfl
  ·exact MH.nil _
  ·exact ⟨⟨List.pairwise_singleton _ _,fun x hx=>by simp at hx; omega⟩,fun x hx=>by simp at hx; simp [hx]⟩
 ·match j,hj with
  | 0,_=>decide
  | 1,_=>decide
  | 2,_=>decide
  | 3,_=>decide
  | n + 4,h=>exact absurd h (by simp)
theorem AeL : Wj Acl AdD ⟨[0,0],[true,true,true,true]⟩ 1 0:=by
 refine ⟨by decide,by decide,by decide,by decide,by decide⟩
theorem AgZ : AcL Acl ⟨[0,1],[true,true,true,true]⟩:=by
 refine ⟨⟨rfl,fun s hs=>?_⟩,rfl,fun k hk h=>?_⟩
 ·match s,hs with
  | 0,_=>decide
  | 1,_=>decide
  | n + 2,h=>exact absurd h (by simp)
 ·match k,hk with
  | 0,_=>exact absurd h (by decide)
  | 1,_=>exact absurd h (by decide)
  | 2,_=>exact absurd h (by decide)
  | 3,_=>exact absurd h (by decide)
  | n + 4,h=>exact absurd h (by simp)
theorem AeM {k : Nat} {y : Int} (hk : k < Acl.Code.length) : ¬ Wj Acl AdD ⟨[0,1],[true,true,true,true]⟩ k y:=by
 rintro ⟨h1,-,h3,h4,h5⟩
 match k,hk with
 | 0,_ =>
  have hy : y = 0:=by simpa [Mm] using h3
  subst hy
  exact absurd h4 (by decide)
 | 1,_ =>
  have hy : y = 0:=by simpa [Mm] using h3
  subst hy
  exact absurd h5 (by decide)
 | 2,_=>exact absurd h1 (by decide)
 | 3,_=>exact absurd h1 (by decide)
 | n + 4,h=>exact absurd h (by simp)
theorem Aha : Sx = some true:=by
 obtain ⟨r,h1,h2⟩:=ZC Zi Adc (l:=⟨AdD⟩) (Aas.1.len Zi) ⟨[0,1],[true,true,true,true]⟩
 obtain ⟨q,k1,k2⟩:=ZC Zi Adc (l:=⟨AdD⟩) (Aas.1.len Zi) ⟨[0,0],[true,true,true,true]⟩
 have hr : r = 0:=by
  rcases h2 with ⟨h,_⟩ | ⟨_,h | ⟨k,y,hk,h⟩,_⟩ | ⟨_,_,_,h⟩
  ·exact (h Aas).elim
  ·exact (h AgZ).elim
  ·exact (AeM hk h).elim
  ·exact h
 have hq : q = 12:=by
  rcases k2 with ⟨h,_⟩ | ⟨_,_,h⟩ | ⟨_,_,h,_⟩
  ·exact (h Aas).elim
  ·exact h
  ·exact (h 1 0 (by simp) AeL).elim
 subst hr hq
 unfold Sx
 rw [h1,Option.bind_some,show ((0 : Int) == 0) = true from rfl,cond_true,k1,Option.bind_some]
 rfl
theorem AcB {f : LX} (hf : MM f) {l : List (List Int)} {to : List Int} {Az : List Bool} {s t a v : Int} (hs : 0 ≤ s ∧ s < f.Slots.length) (ht : 0 ≤ t ∧ t < f.Slots.length) (hst : s ≠ t)
  (hto : ∀ j : Int,0 ≤ j → j < f.Slots.length → MR to j = if j = s then t else j) (hkeep : ∀ k : Nat,k < f.Code.length → PV Az k = true) (e : Ed Sy f l a v) (hav : (a = s ∧ v = t) ∨ (a = t ∧ v = s)) :
  ∃ k y,k < f.Code.length ∧ Wj f l ⟨to,Az⟩ k y:=by
 obtain ⟨k,hk,h1,h2,h3,h4,h5,h6⟩:=e
 have ts : MR to s = t:=by rw [hto s hs.1 hs.2,if_pos rfl]
 have tt : MR to t = t:=by rw [hto t ht.1 ht.2,if_neg (Ne.symm hst)]
 have ta : MR to a = t:=by rcases hav with ⟨rfl,_⟩ | ⟨rfl,_⟩ <;> assumption
 have tv : MR to v = t:=by rcases hav with ⟨_,rfl⟩ | ⟨_,rfl⟩ <;> assumption
 have hx:=hf.at (j:=(k : Int)) (by omega) (by omega)
 refine ⟨k,v,hk,h2,?_,h4,⟨fun _=>by rw [← h1]; exact h5,fun _=>hkeep k hk⟩,by rw [← h1]; show MR to v = MR to a; rw [ta,tv]⟩
 rintro ⟨h17,he⟩
 have hB:=hf.uses _ hx.2 (Mc f k).B (by simp [NL,h17])
 have hBv : (Mc f k).B ≠ v:=by
  intro h
  simp [Sy,h17,h] at h6
 have hBa : (Mc f k).B ≠ a:=fun h=>h3 ⟨h17,by rw [h,h1]⟩
 have he' : MR to a = MR to (Mc f k).B:=by rw [h1]; exact he
 rw [ta,hto _ hB.1 hB.2] at he'
 split at he'
 ·rename_i hb
  rcases hav with ⟨rfl,rfl⟩ | ⟨rfl,rfl⟩
  ·exact hBa hb
  ·exact hBv hb
 ·rcases hav with ⟨rfl,rfl⟩ | ⟨rfl,rfl⟩
  ·exact hBv he'.symm
  ·exact hBa he'.symm
theorem TN (codes : List Int) (hc : qL (Pk .u8) codes) (pick : Int) : Hs (MP codes pick) fun b=>b = true:=by
 unfold MP
 rw [Aha]
 simp only [Option.bind_some,Bool.not_true,cond_false]
 obtain ⟨c,e1,hcok⟩:=AjX codes 250 hc (by omega) (by omega)
 rw [e1,Option.bind_some]
 refine (AeE hcok (by omega) (by omega) (by omega) (by omega)).bind fun p hp=>?_
 obtain ⟨ps,hps,hz,hp1,hp2,hfl,hall⟩:=hp.2
 refine (MG hp.1 (by omega) (by omega)).bind fun k hk=>?_
 refine (Hs.ix hk.2.1 hk.2.2 fun f hf=>hall _ f hf).bind fun f hfo=>?_
 have hf:=hfo.Aku (by omega)
 have hd:=hfo.defs
 have hlen:=hf.len'
 have hsl:=hf.slots
 clear hall hfl hp1 hp2 hz hps
 refine (AgH hk.1 hf).bind fun q ⟨_,hacc⟩=>?_
 obtain ⟨l,c2⟩:=q
 replace hacc : Acc f l.Out:=hacc
 refine Hs.bind (P:=ZQ Sy f l.Out) ?_ fun g hg=>?_
 ·unfold Uz
  exact (Afc hf hd (hacc.1.len hf) false).bind fun r hr=>.pure hr
 rcases hg with ⟨_,_,hg⟩ | ⟨_,hn,_⟩
 rotate_left
 ·exact (hn hacc).elim
 obtain ⟨g,ge⟩:=g
 replace hg : Oa f.Slots.length g fun a v=>Ed Sy f l.Out a v ∨ Ed Sy f l.Out v a:=hg
 refine Hs.loop (fun s=>∃ k : Nat,s.2 = (k : Int) ∧ k ≤ f.Slots.length ∧ s.1.length = k ∧ ∀ j : Nat,j < k → s.1[j]? = some (j : Int)) (fun s=>f.Slots.length - s.2.toNat) ⟨0,rfl,Nat.zero_le _,rfl,fun j hj=>absurd hj (Nat.not_lt_zero _)⟩ ?_
 rintro ⟨to,_⟩ ⟨k,rfl,hk,htl,hto⟩
 replace htl : to.length = k:=htl
 replace hto : ∀ j : Nat,j < k → to[j]? = some (j : Int):=hto
 unfold Np
 refine .dec (fun hlt=>?_) fun hge=>.lft ?_
 ·have hlt : k < f.Slots.length:=by simp only at hlt; omega
  refine .chk (by simp; omega) (.chk (by simp; omega) ?_)
  rw [My (by omega)]
  refine .cnt ⟨⟨k + 1,rfl,hlt,by simp [htl],fun j hj=>?_⟩,by simp only; omega⟩
  show (([] ++ to) ++ [(k : Int)])[j]? = some (j : Int)
  rw [List.nil_append]
  by_cases e : j = k
  ·subst e; rw [← htl,List.getElem?_concat_length]
  ·rw [List.getElem?_append_left (by omega)]; exact hto j (by omega)
 have hkk : k = f.Slots.length:=by simp only at hge; omega
 subst hkk
 have hid : ∀ j : Int,0 ≤ j → j < f.Slots.length → MR to j = j:=by
  intro j h0 h1
  have:=hto j.toNat (by omega)
  simp only [MR,this,Option.getD_some]
  omega
 refine Hs.loop (fun s=>∃ k : Nat,s.2 = (k : Int) ∧ k ≤ f.Code.length ∧ s.1.length = k ∧ ∀ b ∈ s.1,b = true) (fun s=>f.Code.length - s.2.toNat) ⟨0,rfl,Nat.zero_le _,rfl,fun j hj=>by cases hj⟩ ?_
 rintro ⟨Az,_⟩ ⟨k,rfl,hk,hkl,hkp⟩
 replace hkl : Az.length = k:=hkl
 replace hkp : ∀ b ∈ Az,b = true:=hkp
 unfold Nq
 refine .dec (fun hlt=>?_) fun hge=>.lft ?_
 ·have hlt : k < f.Code.length:=by simp only at hlt; omega
  refine .chk (by simp; omega) (.chk (by simp; omega) ?_)
  rw [My (by omega)]
  refine .cnt ⟨⟨k + 1,rfl,hlt,by simp [hkl],fun b hb=>?_⟩,by simp only; omega⟩
  have hb : b ∈ ([] ++ Az) ++ [true]:=hb
  rw [List.nil_append] at hb
  rcases List.mem_append.1 hb with hb | hb
  ·exact hkp b hb
  ·exact List.mem_singleton.1 hb
 have hkk : k = f.Code.length:=by simp only at hge; omega
 subst hkk
 have hkeep : ∀ k : Nat,k < f.Code.length → PV Az k = true:=by
  intro k hk
  have hg : Az[k]? = some Az[k]:=List.getElem?_eq_getElem _
  simp only [PV,hg,Option.getD_some]
  exact hkp _ (List.getElem_mem _)
 refine (ZC hf hd (hacc.1.len hf) ⟨to,Az⟩).bind fun e he=>?_
 have he0 : e = 0:=by
  rcases he with ⟨h,_⟩ | ⟨_,h | ⟨k,y,hk,h⟩,_⟩ | ⟨_,_,_,h⟩
  ·exact (h hacc).elim
  ·refine (h ⟨⟨htl,fun s hs=>?_⟩,hkl,fun k hk h=>by rw [hkeep k hk] at h; cases h⟩).elim
   have hs : s < to.length:=hs
   show 0 ≤ MR to s ∧ MR to s < to.length ∧ Ss f (MR to s) = Ss f s ∧ MR to (MR to s) = MR to s
   have:=hid s (by omega) (by omega)
   rw [this,this]
   exact ⟨by omega,by omega,rfl,rfl⟩
  ·obtain ⟨h1,_,h3,h4,h5⟩:=h
   have hx:=hf.at (j:=(k : Int)) (by omega) (by omega)
   rw [Int.toNat_natCast] at hx
   have hA:=hd _ hx.2 h1
   have hrow:=hacc.1.at (j:=(k : Int)) (by omega) (by omega)
   have hy0:=(hrow.2.1.2 y h3).1
   have hyn:=hrow.2.2 y h3
   have h5 : MR to y = MR to (Mc f k).A:=h5
   rw [hid y hy0 hyn,hid _ hA.1 hA.2] at h5
   exact (h4.1 (hkeep k hk) h5).elim
  ·exact h
 subst he0
 refine .bne (fun h=>(h rfl).elim) fun _=>?_
 refine Hs.loop (fun s=>∃ k : Nat,s.2 = (k : Int) ∧ k ≤ f.Slots.length) (fun s=>f.Slots.length - s.2.toNat) ⟨0,rfl,Nat.zero_le _⟩ ?_
 rintro ⟨n,_⟩ ⟨s,rfl,hs⟩
 have hgl:=hg.1
 unfold Nr
 refine .dec (fun hlt=>?_) fun _=>.lft (.pure rfl)
 have hlt : s < f.Slots.length:=by simp only at hlt; omega
 have hrow : g[s]? = some (g[s]'(by omega)):=List.getElem?_eq_getElem _
 generalize g[s]'(by omega) = row at hrow
 obtain ⟨hset,hmem⟩:=hg.2 s row hrow
 have hrl:=hset.1.length_le
 refine Hs.loop (fun z=>∃ i : Nat,z.2 = (i : Int) ∧ i ≤ row.length) (fun z=>row.length - z.2.toNat) ⟨0,rfl,Nat.zero_le _⟩ ?_
 rintro ⟨n2,_⟩ ⟨i,rfl,hi⟩
 unfold Ns
 simp only [Pj,hrow,Option.bind_some]
 refine .dec (fun hlt2=>?_) fun _=>?_
 ·have hlt2 : i < row.length:=by omega
  have hgt : row[i]? = some row[i]:=List.getElem?_eq_getElem _
  have htm:=List.getElem_mem hlt2
  generalize row[i] = t at hgt htm
  have ht0:=(hset.1.2 t htm).1
  have ht1:=hset.2 t htm
  rw [hgt,Option.bind_some]
  refine Hs.bind (Hs.get (l:=f.Slots) (i:=(s : Int)) (P:=fun _=>True) (by omega) (by omega) fun _ _=>trivial) fun x _=>?_
  refine Hs.bind (Hs.ix (l:=f.Slots) (i:=t) (P:=fun _=>True) (by omega) (by omega) fun _ _=>trivial) fun y _=>?_
  rw [My (by omega)]
  refine .bne (fun _=>.cnt ⟨⟨i + 1,rfl,hlt2⟩,by simp only; omega⟩) fun _=>.dec (fun _=>.cnt ⟨⟨i + 1,rfl,hlt2⟩,by simp only; omega⟩) fun _=>?_
  refine .chk (by omega) ?_
  refine Hs.bind (Hs.get (l:=to) (i:=(s : Int)) (P:=fun _=>True) (by omega) (by omega) fun _ _=>trivial) fun x _=>?_
  refine (ZC hf hd (hacc.1.len hf) _).bind fun e he=>.lft (.lft (.pure ?_))
  show (e == 12) = true
  have hst : (s : Int) ≠ t:=by
   intro h
   rcases (hmem t).1 htm with ⟨_,_,_,_,_,_,h',_⟩ | ⟨_,_,_,_,_,_,h',_⟩
   ·exact h' h.symm
   ·exact h' h
  have hl : ∃ k y,k < f.Code.length ∧ Wj f l.Out ⟨to.set ((s : Nat) : Int).toNat t,Az⟩ k y:=by
   have hto' : ∀ j : Int,0 ≤ j → j < f.Slots.length → MR (to.set ((s : Nat) : Int).toNat t) j = if j = (s : Int) then t else j:=by
    intro j h0 h1
    rw [Int.toNat_natCast]
    by_cases e : j = s
    ·subst e
     simp only [MR,Int.toNat_natCast,if_true]
     rw [List.getElem?_set_self (by omega)]; rfl
    ·rw [if_neg e]
     have:=hid j h0 h1
     simp only [MR] at this ⊢
     rw [List.getElem?_set_ne (by omega)]; exact this
   rcases (hmem t).1 htm with h | h
   ·exact AcB hf ⟨by omega,by omega⟩ ⟨ht0,ht1⟩ hst hto' hkeep h (.inl ⟨rfl,rfl⟩)
   ·exact AcB hf ⟨by omega,by omega⟩ ⟨ht0,ht1⟩ hst hto' hkeep h (.inr ⟨rfl,rfl⟩)
  rcases he with ⟨h,_⟩ | ⟨_,_,h⟩ | ⟨_,_,h,_⟩
  ·exact (h hacc).elim
  ·rw [h]; rfl
  ·obtain ⟨k,y,hk,hy⟩:=hl
   exact (h k y hk hy).elim
 ·unfold Nt
  rw [My (by omega)]
  exact .lft (.cnt ⟨⟨s + 1,rfl,hlt⟩,by simp only; omega⟩)
theorem Th (codes : List Int) (pick : Int) (hc : qL (Pk .u8) codes) (_ : Pk .u8 pick) : MP codes pick = some true:=by
 obtain ⟨r,h,rfl⟩:=TN codes hc pick
 exact h
end Go.Proofs.YtfpgidpffhmadaaDoor
