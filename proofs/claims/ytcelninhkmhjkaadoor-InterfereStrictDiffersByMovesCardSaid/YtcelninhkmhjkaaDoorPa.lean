/-
  Plain laws about the typed programs.
-/
import Derived.Test.YtcelninhkmhjkaaDoorDc
import Derived.Test.YtcelninhkmhjkaaDoorDxP
namespace Go.Dw
section
variable {ι R α : Type} {body : ι → Option (ι ⊕ R)} {v : R}
theorem NV {α β : Type} (s : List α) (mk : β → Int → ι) (I : β → Nat → Prop) (F : β → List α → Option R)
  (hnil : ∀ acc,I acc s.length → ∃ v,body (mk acc s.length) = some (.inr v) ∧ F acc [] = some v)
  (hcons : ∀ acc (i : Nat) x r,I acc i → s.drop i = x :: r → i < s.length → s[i]? = some x →
   (∃ acc',I acc' (i + 1) ∧ body (mk acc i) = some (.inl (mk acc' ((i + 1 : Nat) : Int))) ∧ F acc (x :: r) = F acc' r) ∨ (∃ v,body (mk acc i) = some (.inr v) ∧ F acc (x :: r) = some v))
  (acc : β) (h0 : I acc 0) : Ks body (mk acc 0) = F acc s:=by
 have : ∀ k i acc,i + k = s.length → I acc i → Ks body (mk acc (i : Nat)) = F acc (s.drop i):=by
  intro k
  induction k with
  | zero =>
   intro i acc hi hI
   simp only [Nat.add_zero] at hi
   subst hi
   obtain ⟨v,h1,h2⟩:=hnil acc hI
   rw [Ys,h1,List.drop_length,h2]
  | succ k ih =>
   intro i acc hi hI
   have hl : i < s.length:=by omega
   have hd:=List.drop_eq_getElem_cons hl
   rw [hd]
   rcases hcons acc i _ _ hI hd hl (List.getElem?_eq_getElem hl) with ⟨acc',h1,h2,h3⟩ | ⟨v,h1,h2⟩
   ·rw [Ys,h2,h3]
    exact ih (i + 1) acc' (by omega) h1
   ·rw [Ys,h1,h2]
 have:=this s.length 0 acc (by omega) h0
 simpa using this
@[simp] theorem Pk (l : List α) (i : Nat) : ixO l (i : Int) = l[i]?:=by
 unfold ixO
 rw [if_neg (by omega)]
 simp
theorem Ye (l : List α) {i : Int} (h : 0 ≤ i) : ixO l i = l[i.toNat]?:=by
 unfold ixO
 rw [if_neg (by omega)]
@[simp] theorem AhV (l : List α) (i : Nat) : ixO l ((i : Int) + 1) = l[i + 1]?:=by
 have:=Pk l (i + 1)
 simpa using this
@[simp] theorem Aer (l : List α) : ixO l 0 = l[0]?:=Ye l (Int.le_refl 0)
theorem wrap64 {n : Int} (h0 : -9223372036854775808 ≤ n) (h1 : n ≤ 9223372036854775807) : IntKind.i64.wrap n = n:=AfC h0 h1
@[simp] theorem Aic : IntKind.i64.wrap 0 = 0:=by decide
@[simp] theorem Aid : IntKind.i64.wrap 1 = 1:=by decide
@[simp] theorem Aie : IntKind.i64.wrap 2 = 2:=by decide
@[simp] theorem Aif : IntKind.i64.wrap 3 = 3:=by decide
theorem Kq {i : Nat} (h : i < 9223372036854775807) : IntKind.i64.wrap ((i : Int) + 1) = ((i + 1 : Nat) : Int):=by
 rw [wrap64 (by omega) (by omega)]; rfl
@[simp] theorem AhX (r : R) : (lft (some r) : Option (ι ⊕ R)) = some (.inr r):=rfl
@[simp] theorem AhW : (lft none : Option (ι ⊕ R)) = none:=rfl
@[simp] theorem AbW (s : ι) : (cnt s : Option (ι ⊕ R)) = some (.inl s):=rfl
theorem Afp (a b : Int) : Uo a b = min a b:=by unfold Uo; split <;> omega
end
end Go.Dw
namespace Go.Dw
open Go
def Hs {α : Type} (m : Option α) (P : α → Prop) : Prop:=∃ r,m = some r ∧ P r
section
variable {α β ι R : Type}
theorem Hs.pure {a : α} {P : α → Prop} (h : P a) : Hs (some a) P:=⟨a,rfl,h⟩
theorem Hs.bind {m : Option α} {f : α → Option β} {P : α → Prop} {Q : β → Prop} (h : Hs m P) (hf : ∀ r,P r → Hs (f r) Q) : Hs (m.bind f) Q:=by
 obtain ⟨r,rfl,hr⟩:=h
 exact hf r hr
theorem Hs.mono {m : Option α} {P Q : α → Prop} (h : Hs m P) (hf : ∀ r,P r → Q r) : Hs m Q:=by
 obtain ⟨r,h1,hr⟩:=h
 exact ⟨r,h1,hf r hr⟩
theorem Hs.chk {p : Prop} [Decidable p] {m : Option α} {P : α → Prop} (hp : p) (h : Hs m P) : Hs (chk p m) P:=by
 rw [Kx hp]; exact h
theorem Hs.cond {b : Bool} {x y : Option α} {P : α → Prop} (h1 : b = true → Hs x P) (h2 : b = false → Hs y P) : Hs (bif b then x else y) P:=by
 cases b
 ·exact h2 rfl
 ·exact h1 rfl
theorem Hs.dec {p : Prop} [Decidable p] {x y : Option α} {P : α → Prop} (h1 : p → Hs x P) (h2 : ¬ p → Hs y P) : Hs (bif decide p then x else y) P :=
 Hs.cond (fun h=>h1 (of_decide_eq_true h)) (fun h=>h2 (of_decide_eq_false h))
theorem Hs.beq {a b : Int} {x y : Option α} {P : α → Prop} (h1 : a = b → Hs x P) (h2 : a ≠ b → Hs y P) : Hs (bif a == b then x else y) P :=
 Hs.cond (fun h=>h1 (by simpa using h)) (fun h=>h2 (by simpa using h))
theorem Hs.bne {a b : Int} {x y : Option α} {P : α → Prop} (h1 : a ≠ b → Hs x P) (h2 : a = b → Hs y P) : Hs (bif a != b then x else y) P :=
 Hs.cond (fun h=>h1 (by simpa using h)) (fun h=>h2 (by simpa using h))
theorem Hs.cnt {s : ι} {P : ι ⊕ R → Prop} (h : P (.inl s)) : Hs (Go.Dw.cnt s) P:=⟨_,rfl,h⟩
theorem Hs.lft {m : Option R} {P : ι ⊕ R → Prop} (h : Hs m fun r=>P (.inr r)) : Hs (Go.Dw.lft m) P:=by
 obtain ⟨r,rfl,h⟩:=h
 exact ⟨_,rfl,h⟩
def Rnd (I : ι → Prop) (μ : ι → Nat) (s : ι) (Q : R → Prop) : ι ⊕ R → Prop
 | .inl s'=>I s' ∧ μ s' < μ s
 | .inr r=>Q r
theorem Hs.loop {body : ι → Option (ι ⊕ R)} {s : ι} {Q : R → Prop} (I : ι → Prop) (μ : ι → Nat) (h0 : I s) (hb : ∀ s,I s → Hs (body s) (Rnd I μ s Q)) : Hs (Ks body s) Q:=by
 refine AcF I Q μ h0 fun s hs=>?_
 obtain ⟨z,hz,hq⟩:=hb s hs
 cases z with
 | inl s'=>exact .inl ⟨s',hz,hq⟩
 | inr r=>exact .inr ⟨r,hz,hq⟩
theorem Hs.get {l : List α} {i : Int} {P : α → Prop} (h0 : 0 ≤ i) (h1 : i < l.length) (h : ∀ x,l[i.toNat]? = some x → P x) : Hs (l[i.toNat]?) P:=by
 have : l[i.toNat]? = some (l[i.toNat]'(by omega)):=List.getElem?_eq_getElem _
 exact ⟨_,this,h _ this⟩
theorem Hs.ix {l : List α} {i : Int} {P : α → Prop} (h0 : 0 ≤ i) (h1 : i < l.length) (h : ∀ x,l[i.toNat]? = some x → P x) : Hs (ixO l i) P:=by
 rw [Ye _ h0]; exact Hs.get h0 h1 h
end
theorem ZD (n : Int) : 0 ≤ IntKind.u64.wrap n ∧ IntKind.u64.wrap n < 18446744073709551616:=by
 simp [IntKind.wrap,IntKind.signed,IntKind.bits]; omega
end Go.Dw
namespace Go.Proofs.YtcelninhkmhjkaaDoor
open Go Go.Dw Go.Proofs
attribute [local simp] Kx Bool.cond_eq_ite
theorem Afl (n : Int) : Sw n = some (decide (0 ≤ n ∧ n < 512)):=by
 unfold Sw
 by_cases h : 0 ≤ n <;> simp [h]
theorem AhJ (s : List Int) (n : Int) (hs : s.length ≤ 9223372036854775807) : TP s n = some (decide (n ∈ s)):=by
 unfold TP
 refine NV s (fun (_ : Unit) i=>i) (fun _ _=>True) (fun _ l=>some (decide (n ∈ l))) (fun _ _=>⟨_,by simp [Qj],rfl⟩) (fun _ i x r _ hd hi hx=>?_) () trivial
 have w:=Kq (show i < 9223372036854775807 by omega)
 by_cases h : x = n
 ·exact .inr ⟨true,by simp [Qj,hi,(List.getElem?_eq_some_iff.1 hx).2,h],by simp [h]⟩
 ·refine .inl ⟨(),trivial,?_,?_⟩
  ·obtain ⟨_,rfl⟩:=List.getElem?_eq_some_iff.1 hx
   simp [Qj,hi,h,w]
  ·have : n ≠ x:=fun e=>h e.symm
   simp [this]
def Pe (n : Int) : List Int → List Int
 | []=>[n]
 | x :: r=>if x < n then x :: Pe n r else if x = n then x :: r else n :: x :: r
theorem ZT (n : Int) : ∀ s,(Pe n s).length ≤ s.length + 1
 | []=>by simp [Pe]
 | x :: r=>by
  have:=ZT n r
  simp only [Pe]
  split
  ·simp; omega
  ·split <;> simp
def Oo (n : Int) (s : List Int) : List Int:=if 0 ≤ n ∧ n < 512 then Pe n s else s
theorem add_eq (s : List Int) (n : Int) (hs : s.length ≤ 1000000) : OG s n = some (Oo n s):=by
 unfold OG Oo
 rw [Afl]
 simp only [Option.bind_some]
 have key : ∀ d : Bool,Ks (fun s_1 : List Int × Bool × Int=>LW s n s_1.1 s_1.2.1 s_1.2.2) ([],d,0) = some (if d then s else Pe n s):=by
  intro d
  have:=NV (body:=fun s_1 : List Int × Bool × Int=>LW s n s_1.1 s_1.2.1 s_1.2.2) s (fun (p : List Int × Bool) i=>(p.1,p.2,i)) (fun p i=>p.1.length ≤ i + (if p.2 then 1 else 0)) (fun p l=>some (p.1 ++ (if p.2 then l else Pe n l)))
   (fun p hp=>by
    obtain ⟨out,done⟩:=p
    cases done <;> simp only [if_true,Bool.false_eq_true,if_false] at hp
    ·exact ⟨out ++ [n],by simp [LW,show out.length ≤ 16777215 by omega],by simp [Pe]⟩
    ·exact ⟨out,by simp [LW],by simp⟩)
   (fun p i x r hp hd hi hx=>by
    obtain ⟨out,done⟩:=p
    have w:=Kq (show i < 9223372036854775807 by omega)
    obtain ⟨_,rfl⟩:=List.getElem?_eq_some_iff.1 hx
    left
    cases done <;> simp only [if_true,Bool.false_eq_true,if_false] at hp
    ·by_cases h1 : n ≤ s[i]
     ·by_cases h2 : n < s[i]
      ·refine ⟨(out ++ [n] ++ [s[i]],true),by simp; omega,?_,?_⟩
       ·simp [LW,NW,Nc,hi,h1,h2,w,show out.length ≤ 16777215 by omega,show out.length ≤ 16777214 by omega]
       ·simp [Pe,show ¬ s[i] < n by omega,show ¬ s[i] = n by omega]
      ·refine ⟨(out ++ [s[i]],true),by simp; omega,?_,?_⟩
       ·simp [LW,NW,Nc,hi,h1,h2,w,show out.length ≤ 16777215 by omega]
       ·simp [Pe,show ¬ s[i] < n by omega,show s[i] = n by omega]
     ·refine ⟨(out ++ [s[i]],false),by simp; omega,?_,?_⟩
      ·simp [LW,NW,Nc,hi,h1,w,show out.length ≤ 16777215 by omega]
      ·simp [Pe,show s[i] < n by omega]
    ·refine ⟨(out ++ [s[i]],true),by simp; omega,?_,?_⟩
     ·simp [LW,NW,Nc,hi,w,show out.length ≤ 16777215 by omega]
     ·simp)
   ([],d) (by simp)
  simpa using this
 rw [key]
 by_cases h : 0 ≤ n ∧ n < 512 <;> simp [h]
def TT : Option Int → List Int → Bool
 | _,[]=>true
 | p,x :: r=>decide (0 ≤ x ∧ x < 512) && (match p with | none=>true | some y=>decide (y < x)) && TT (some x) r
def KE (s : List Int) : Prop:=s.Pairwise (· < ·) ∧ ∀ x ∈ s,0 ≤ x ∧ x < 512
theorem Abi : ∀ (p : Option Int) (s : List Int),TT p s = true ↔ KE s ∧ ∀ y,p = some y → ∀ x ∈ s,y < x
 | p,[]=>by simp [TT,KE]
 | p,x :: r=>by
  simp only [TT,Bool.and_eq_true,Abi (some x) r,decide_eq_true_eq,KE,List.pairwise_cons,List.mem_cons,forall_eq_or_imp,Option.some.injEq]
  constructor
  ·rintro ⟨⟨h1,h2⟩,⟨h3,h4⟩,h5⟩
   have h5':=h5 x rfl
   refine ⟨⟨⟨h5',h3⟩,h1,h4⟩,fun y hy=>?_⟩
   subst hy
   simp only [decide_eq_true_eq] at h2
   exact ⟨h2,fun z hz=>Int.lt_trans h2 (h5' z hz)⟩
  ·rintro ⟨⟨⟨h1,h2⟩,h3,h4⟩,h5⟩
   refine ⟨⟨h3,?_⟩,⟨h2,h4⟩,fun y hy z hz=>by subst hy; exact h1 z hz⟩
   cases p with
   | none=>rfl
   | some y=>simpa using (h5 y rfl).1
theorem AbV (s : List Int) : TT none s = true ↔ KE s:=by
 rw [Abi]; simp
theorem KE.length_le {s : List Int} (h : KE s) : s.length ≤ 512:=by
 have : ∀ (s : List Int) (a : Int),s.Pairwise (· < ·) → (∀ x ∈ s,a ≤ x ∧ x < 512) → a ≤ 512 → (s.length : Int) ≤ 512 - a:=by
  intro s
  induction s with
  | nil=>intro a _ _ ha; simp; omega
  | cons x r ih =>
   intro a hp hb ha
   rw [List.pairwise_cons] at hp
   have hx:=hb x (by simp)
   have:=ih (x + 1) hp.2 (fun y hy=>⟨by have:=hp.1 y hy; omega,(hb y (by simp [hy])).2⟩) (by omega)
   simp only [List.length_cons]
   omega
 have:=this s 0 h.1 h.2 (by omega)
 omega
theorem UQ (n m : Int) : ∀ s,m ∈ Pe n s ↔ m = n ∨ m ∈ s
 | []=>by simp [Pe]
 | x :: r=>by
  simp only [Pe]
  split
  ·simp only [List.mem_cons,UQ n m r]
   constructor
   ·rintro (h | h | h) <;> simp [h]
   ·rintro (h | h | h) <;> simp [h]
  ·split
   ·rename_i h; subst h; simp
   ·simp
theorem KE.Pe {n : Int} {s : List Int} (h : KE s) (hn : 0 ≤ n ∧ n < 512) : KE (Proofs.YtcelninhkmhjkaaDoor.Pe n s):=by
 refine ⟨?_,fun x hx=>?_⟩
 ·replace h:=h.1
  clear hn
  induction s with
  | nil=>simp [Proofs.YtcelninhkmhjkaaDoor.Pe]
  | cons x r ih =>
   rw [List.pairwise_cons] at h
   simp only [Proofs.YtcelninhkmhjkaaDoor.Pe]
   split
   ·rw [List.pairwise_cons]
    refine ⟨fun y hy=>?_,ih h.2⟩
    rw [UQ] at hy
    rcases hy with rfl | hy
    ·assumption
    ·exact h.1 y hy
   ·split
    ·rw [List.pairwise_cons]; exact h
    ·rw [List.pairwise_cons,List.pairwise_cons]
     refine ⟨fun y hy=>?_,h⟩
     rcases List.mem_cons.1 hy with rfl | hy
     ·omega
     ·have:=h.1 y hy; omega
 ·rw [UQ] at hx
  rcases hx with rfl | hx
  ·exact hn
  ·exact h.2 x hx
theorem KE.nil : KE []:=⟨List.Pairwise.nil,fun x hx=>by cases hx⟩
end Go.Proofs.YtcelninhkmhjkaaDoor
namespace Go.Proofs.YtcelninhkmhjkaaDoor
open Go Go.Dw Go.Proofs
attribute [local simp] Kx Bool.cond_eq_ite
theorem Zx (n : Int) : Lr n = some (decide (0 ≤ n ∧ n < 512)):=by
 unfold Lr
 by_cases h : 0 ≤ n <;> simp [h]
theorem XV {n : Int} (h : 0 ≤ n ∧ n < 512) : Lr n = some true:=by rw [Zx,decide_eq_true h]
theorem AbL {n : Int} (h : ¬ (0 ≤ n ∧ n < 512)) : Lr n = some false:=by rw [Zx,decide_eq_false h]
theorem AcJ (s : List Int) (hs : s.length ≤ 9223372036854775807) : PX s = some (TT none s):=by
 unfold PX
 refine NV s (fun (_ : Option Int) i=>i) (fun p i=>match i with | 0=>p = none | k + 1=>s[k]? = p ∧ p ≠ none) (fun p l=>some (TT p l)) (fun _ _=>⟨true,by simp [Ml],by simp [TT]⟩) (fun p i x r hp hd hi hx=>?_) none rfl
 have w:=Kq (show i < 9223372036854775807 by omega)
 obtain ⟨_,rfl⟩:=List.getElem?_eq_some_iff.1 hx
 by_cases hg : 0 ≤ s[i] ∧ s[i] < 512
 ·cases i with
  | zero =>
   simp only at hp
   subst hp
   exact .inl ⟨some s[0],⟨hx,by simp⟩,by simp [Ml,hi,XV hg],by simp [TT,hg]⟩
  | succ k =>
   obtain ⟨hp,hpn⟩:=hp
   have hk : k < s.length:=by omega
   rw [List.getElem?_eq_getElem hk] at hp
   subst hp
   have w : IntKind.i64.wrap ((k : Int) + 1 + 1) = (k : Int) + 1 + 1:=wrap64 (by omega) (by omega)
   have wp : IntKind.i64.wrap (k : Int) = k:=wrap64 (by omega) (by omega)
   have e0 : (k : Int) + 1 - 1 = k:=by omega
   by_cases hlt : s[k] < s[k + 1]
   ·exact .inl ⟨some s[k + 1],⟨hx,by simp⟩,by simp [Ml,hi,XV hg,w,wp,e0,hk,show ¬ s[k + 1] ≤ s[k] by omega,show (0 : Int) < k + 1 by omega,show (k : Int) + 1 < s.length by omega],by simp [TT,hg,hlt]⟩
   ·exact .inr ⟨false,by simp [Ml,hi,XV hg,w,wp,e0,hk,show s[k + 1] ≤ s[k] by omega,show (0 : Int) < k + 1 by omega,show (k : Int) + 1 < s.length by omega],by simp [TT,hlt]⟩
 ·exact .inr ⟨false,by simp [Ml,hi,AbL hg],by simp [TT,hg]⟩
end Go.Proofs.YtcelninhkmhjkaaDoor
namespace Go.Proofs.YtcelninhkmhjkaaDoor
open Go Go.Dw Go.Proofs
attribute [local simp] Kx Bool.cond_eq_ite
theorem Afu (a b : List Int) (h : a.length ≤ 9223372036854775807) : Su a b = some (decide (a = b)):=by
 unfold Su
 by_cases hl : a.length = b.length
 ·have:=NV (body:=fun i : Int=>Ou a b i) a (fun (_ : List Int) i=>i) (fun acc i=>b.drop i = acc) (fun acc l=>some (decide (l = acc)))
   (fun acc hacc=>⟨true,by simp [Ou],by rw [hl] at hacc; simp at hacc; simp [← hacc]⟩) (fun acc i x r hacc hd hi hx=>by
    have w:=Kq (show i < 9223372036854775807 by omega)
    obtain ⟨_,rfl⟩:=List.getElem?_eq_some_iff.1 hx
    have hib : i < b.length:=by omega
    have hdb:=List.drop_eq_getElem_cons hib
    by_cases e : a[i] = b[i]
    ·exact .inl ⟨b.drop (i + 1),rfl,by simp [Ou,hi,hib,e,w],by rw [← hacc,hdb]; simp only [List.cons.injEq,e,true_and]⟩
    ·exact .inr ⟨false,by simp [Ou,hi,hib,e],by rw [← hacc,hdb]; simp only [List.cons.injEq,e,false_and,decide_false]⟩)
   b (by simp)
  simpa [hl] using this
 ·have : ¬ a = b:=fun e=>hl (by rw [e])
  simp [this,show ¬ (a.length : Int) = b.length by omega]
end Go.Proofs.YtcelninhkmhjkaaDoor
namespace Go.Proofs.YtcelninhkmhjkaaDoor
open Go Go.Dw Go.Proofs
attribute [local simp] Kx Bool.cond_eq_ite
theorem AcD (a b : List (List Int)) (h : a.length ≤ 9223372036854775807) (hr : ∀ s ∈ a,s.length ≤ 9223372036854775807) : Pl a b = some (decide (a = b)):=by
 unfold Pl
 by_cases hl : a.length = b.length
 ·have:=NV (body:=fun i : Int=>MF a b i) a (fun (_ : List (List Int)) i=>i) (fun acc i=>b.drop i = acc) (fun acc l=>some (decide (l = acc)))
   (fun acc hacc=>⟨true,by simp [MF],by rw [hl] at hacc; simp at hacc; simp [← hacc]⟩) (fun acc i x r hacc hd hi hx=>by
    have w:=Kq (show i < 9223372036854775807 by omega)
    obtain ⟨_,rfl⟩:=List.getElem?_eq_some_iff.1 hx
    have hib : i < b.length:=by omega
    have hdb:=List.drop_eq_getElem_cons hib
    have hs:=Afu a[i] b[i] (hr _ (List.getElem_mem _))
    by_cases e : a[i] = b[i]
    ·refine .inl ⟨b.drop (i + 1),rfl,?_,by rw [← hacc,hdb]; simp only [List.cons.injEq,e,true_and]⟩
     rw [decide_eq_true e] at hs
     simp [MF,hi,hib,hs,w]
    ·refine .inr ⟨false,?_,by rw [← hacc,hdb]; simp only [List.cons.injEq,e,false_and,decide_false]⟩
     rw [decide_eq_false e] at hs
     simp [MF,hi,hib,hs])
   b (by simp)
  simpa [hl] using this
 ·have : ¬ a = b:=fun e=>hl (by rw [e])
  simp [this,show ¬ (a.length : Int) = b.length by omega]
end Go.Proofs.YtcelninhkmhjkaaDoor
namespace Go.Proofs.YtcelninhkmhjkaaDoor
open Go Go.Dw Go.Proofs
attribute [local simp] Kx Bool.cond_eq_ite
theorem AaL (s : List Int) (n : Int) (hs : s.length ≤ 16777215) : OQ s n = some (s.filter (· != n)):=by
 unfold OQ
 have:=NV (body:=fun p : List Int × Int=>Nd s n p.1 p.2) s (fun (out : List Int) i=>(out,i)) (fun out i=>out.length ≤ i) (fun out l=>some (out ++ l.filter (· != n)))
  (fun out _=>⟨out,by simp [Nd],by simp⟩) (fun out i x r ho hd hi hx=>by
   have w:=Kq (show i < 9223372036854775807 by omega)
   obtain ⟨_,rfl⟩:=List.getElem?_eq_some_iff.1 hx
   left
   by_cases h : s[i] = n
   ·exact ⟨out,by omega,by simp [Nd,hi,h,w],by simp [h]⟩
   ·exact ⟨out ++ [s[i]],by simp; omega,by simp [Nd,hi,h,w,show out.length ≤ 16777215 by omega],by simp [h]⟩)
  [] (by simp)
 simpa using this
def Ma (a b : List Int) : List Int:=b.foldl (fun o x=>Oo x o) a
theorem AbM (n : Int) (s : List Int) : (Oo n s).length ≤ s.length + 1:=by
 unfold Oo
 split
 ·exact ZT n s
 ·omega
theorem union_eq (a b : List Int) (h : a.length + b.length ≤ 1000000) : OH a b = some (Ma a b):=by
 unfold OH Ma
 rw [Kx (by simp; omega)]
 have:=NV (body:=fun p : List Int × Int=>OK b p.1 p.2) b (fun (out : List Int) i=>(out,i)) (fun out i=>out.length ≤ a.length + i) (fun out l=>some (l.foldl (fun o x=>Oo x o) out))
  (fun out _=>⟨out,by simp [OK],by simp⟩) (fun out i x r ho hd hi hx=>by
   have w:=Kq (show i < 9223372036854775807 by omega)
   obtain ⟨_,rfl⟩:=List.getElem?_eq_some_iff.1 hx
   have hl:=AbM b[i] out
   left
   exact ⟨Oo b[i] out,by omega,by simp [OK,hi,add_eq out b[i] (by omega),w],by simp⟩)
  a (by simp)
 simpa using this
theorem Aaw : ∀ {a b : List Int},a.Pairwise (· < ·) → b.Pairwise (· < ·) → (∀ v ∈ a,v ∈ b) → a.Sublist b
 | [],_,_,_,_=>List.nil_sublist _
 | x :: a,[],_,_,h=>by have:=h x (List.mem_cons_self ..); cases this
 | x :: a,y :: b,ha,hb,h=>by
  rw [List.pairwise_cons] at ha hb
  by_cases e : x = y
  ·subst e
   refine (Aaw ha.2 hb.2 fun v hv=>?_).cons_cons x
   rcases List.mem_cons.1 (h v (List.mem_cons_of_mem _ hv)) with h1 | h1
   ·have:=ha.1 v hv; omega
   ·exact h1
  ·have hx : x ∈ b:=by
    rcases List.mem_cons.1 (h x (List.mem_cons_self ..)) with h1 | h1
    ·exact (e h1).elim
    ·exact h1
   have hyx:=hb.1 x hx
   refine (Aaw (List.pairwise_cons.2 ha) hb.2 fun v hv=>?_).cons y
   rcases List.mem_cons.1 (h v hv) with h1 | h1
   ·subst h1
    rcases List.mem_cons.1 hv with h2 | h2
    ·omega
    ·have:=ha.1 v h2; omega
   ·exact h1
theorem KE.sub {a b : List Int} (ha : KE a) (hb : KE b) (h : ∀ v ∈ a,v ∈ b) : a.Sublist b:=Aaw ha.1 hb.1 h
theorem KE.ext {a b : List Int} (ha : KE a) (hb : KE b) (h : ∀ v,v ∈ a ↔ v ∈ b) : a = b :=
 (ha.sub hb fun v hv=>(h v).1 hv).eq_of_length_le (hb.sub ha fun v hv=>(h v).2 hv).length_le
theorem KE.filter {a : List Int} (ha : KE a) (p : Int → Bool) : KE (a.filter p) :=
 ⟨ha.1.sublist List.filter_sublist,fun x hx=>ha.2 x ((List.mem_filter.1 hx).1)⟩
theorem KI.AfG {n m : Int} {s : List Int} (h : KE s ∧ ∀ x ∈ s,x < n) (hm : 0 ≤ m ∧ m < n) (hn : n ≤ 512) : KE (Oo m s) ∧ (∀ x ∈ Oo m s,x < n) ∧ ∀ v,v ∈ Oo m s ↔ v = m ∨ v ∈ s:=by
 unfold Oo
 rw [if_pos (by omega)]
 refine ⟨h.1.Pe (by omega),fun x hx=>?_,fun v=>UQ _ _ _⟩
 rw [UQ] at hx
 rcases hx with rfl | hx
 ·exact hm.2
 ·exact h.2 x hx
theorem QQ {n : Int} (hn : n ≤ 512) : ∀ {b a : List Int},(KE a ∧ ∀ x ∈ a,x < n) → (∀ x ∈ b,0 ≤ x ∧ x < n) → (KE (Ma a b) ∧ ∀ x ∈ Ma a b,x < n) ∧ ∀ v,v ∈ Ma a b ↔ v ∈ a ∨ v ∈ b
 | [],a,ha,_=>⟨ha,fun v=>by simp [Ma]⟩
 | x :: b,a,ha,hb=>by
  obtain ⟨h1,h2,h3⟩:=KI.AfG ha (hb x (List.mem_cons_self ..)) hn
  obtain ⟨h4,h5⟩:=QQ hn ⟨h1,h2⟩ fun y hy=>hb y (List.mem_cons_of_mem _ hy)
  refine ⟨h4,fun v=>?_⟩
  show v ∈ Ma (Oo x a) b ↔ _
  rw [h5,h3,List.mem_cons]
  constructor
  ·rintro ((h | h) | h)
   ·exact .inr (.inl h)
   ·exact .inl h
   ·exact .inr (.inr h)
  ·rintro (h | h | h)
   ·exact .inl (.inr h)
   ·exact .inl (.inl h)
   ·exact .inr h
end Go.Proofs.YtcelninhkmhjkaaDoor
namespace Go.Proofs.YtcelninhkmhjkaaDoor
open Go Go.Dw Go.Proofs
attribute [local simp] Kx Bool.cond_eq_ite
def OA (l : List Int) (p : Int → Prop) : Prop:=KE l ∧ ∀ v,v ∈ l ↔ (0 ≤ v ∧ v < 512) ∧ p v
theorem OA.eq {l m : List Int} {p q : Int → Prop} (h : OA l p) (k : OA m q) (e : ∀ v,0 ≤ v → v < 512 → (p v ↔ q v)) : l = m :=
 h.1.ext k.1 fun v=>by
  rw [h.2,k.2]
  exact ⟨fun ⟨a,b⟩=>⟨a,(e v a.1 a.2).1 b⟩,fun ⟨a,b⟩=>⟨a,(e v a.1 a.2).2 b⟩⟩
theorem OA.Aao {l : List Int} (h : KE l) : OA l (· ∈ l):=⟨h,fun v=>⟨fun k=>⟨h.2 v k,k⟩,fun k=>k.2⟩⟩
theorem OA.mono {l : List Int} {p q : Int → Prop} (h : OA l p) (e : ∀ v,0 ≤ v → v < 512 → (p v ↔ q v)) : OA l q :=
 ⟨h.1,fun v=>by rw [h.2]; exact ⟨fun ⟨a,b⟩=>⟨a,(e v a.1 a.2).1 b⟩,fun ⟨a,b⟩=>⟨a,(e v a.1 a.2).2 b⟩⟩⟩
abbrev BS:=JM
def Mx (t : BS) : Prop:=∀ w ∈ t.toList,WW w
theorem BS.len (t : BS) : t.toList.length = 8:=rfl
def PF (t : BS) (i : Nat) : Int:=(t.toList[i]?).getD 0
def hasB (t : BS) (v : Int) : Bool:=UG (PF t (v.toNat / 64)) (v.toNat % 64)
theorem TS {t : BS} {i : Nat} (h : i < 8) : t.toList[i]? = some (PF t i):=by
 have : t.toList[i]? = some (t.toList[i]'(show i < 8 from h)):=List.getElem?_eq_getElem _
 simp [PF,this]
theorem Mx.word {t : BS} (h : Mx t) {i : Nat} (hi : i < 8) : WW (PF t i):=h _ (List.mem_of_getElem? (TS hi))
theorem AaP {t : BS} {i j : Nat} {w : Int} (hi : i < 8) : PF (t.set i w) j = if i = j then w else PF t j:=by
 unfold PF
 rw [Me,List.getElem?_set]
 by_cases h : i = j
 ·subst h
  simp [show i < (JM.toList t).length from hi]
 ·simp [h]
theorem Mx.set {t : BS} (h : Mx t) {i : Nat} {w : Int} (hw : WW w) : Mx (t.set i w):=by
 intro x hx
 rw [Me] at hx
 rcases List.mem_or_eq_of_mem_set hx with h1 | rfl
 ·exact h x h1
 ·exact hw
theorem Mx.zero : Mx ⟨0,0,0,0,0,0,0,0⟩:=by
 intro w hw
 simp [JM.toList] at hw
 subst hw
 exact ⟨by omega,by omega⟩
theorem AcS (v : Int) : hasB ⟨0,0,0,0,0,0,0,0⟩ v = false:=by
 have : PF ⟨0,0,0,0,0,0,0,0⟩ (v.toNat / 64) = 0:=by
  unfold PF
  have hl : ∀ i : Nat,(([0,0,0,0,0,0,0,0] : List Int)[i]?).getD 0 = 0:=by
   intro i
   match i with
   | 0 | 1 | 2 | 3 | 4 | 5 | 6 | 7=>rfl
   | n + 8=>rfl
  exact hl _
 unfold hasB
 rw [this]
 simp [UG]
theorem AeF (n : Int) : 0 ≤ (IntKind.u64.wrap n).tmod 64 ∧ (0 ≤ n → n < 512 → ((IntKind.u64.wrap n).tmod 64).toNat = n.toNat % 64):=by
 obtain ⟨h0,h1⟩:=ZD n
 rw [Int.tmod_eq_emod_of_nonneg h0]
 refine ⟨by omega,fun ha hb=>?_⟩
 rw [Ade ⟨ha,by omega⟩]
 omega
theorem AeE {n : Int} (h0 : 0 ≤ n) (h1 : n < 512) : IntKind.i64.wrap (n.tdiv 64) = ((n.toNat / 64 : Nat) : Int):=by
 rw [Int.tdiv_eq_ediv_of_nonneg h0,wrap64 (by omega) (by omega)]
 omega
theorem AfH {n : Int} (h0 : 0 ≤ n) (h1 : n < 512) : IntKind.u64.wrap (1 * 2 ^ (Nat.min ((IntKind.u64.wrap n).tmod 64).toNat IntKind.u64.bits)) = ((2 ^ (n.toNat % 64) : Nat) : Int):=by
 rw [(AeF n).2 h0 h1]
 have e : Nat.min (n.toNat % 64) IntKind.u64.bits = n.toNat % 64:=Nat.min_eq_left (by show n.toNat % 64 ≤ 64; omega)
 rw [e,Int.one_mul]
 have hp : 2 ^ (n.toNat % 64) < 18446744073709551616:=by
  have:=Nat.pow_lt_pow_right (a:=2) (by decide) (show n.toNat % 64 < 64 by omega)
  simpa using this
 have:=Wy hp
 rw [Int.natCast_pow] at this ⊢
 exact this
theorem AbD (j : Nat) (h : j < 64) : 2 ^ j < 18446744073709551616:=by
 have:=Nat.pow_lt_pow_right (a:=2) (by decide) h
 simpa using this
theorem AhK {n v : Int} (h0 : 0 ≤ n) (h0' : 0 ≤ v) (hne : v ≠ n) (h : n.toNat / 64 = v.toNat / 64) : v.toNat % 64 ≠ n.toNat % 64:=by omega
theorem Ada {t : BS} (ht : Mx t) (n : Int) (b : Bool) : Hs (LS t n b) fun r=>Mx r ∧ ∀ v,0 ≤ v → v < 512 → hasB r v = if v = n then b else hasB t v:=by
 unfold LS
 refine .chk (AeF n).1 ?_
 rw [Zx,Option.bind_some]
 by_cases h : 0 ≤ n ∧ n < 512
 ·rw [decide_eq_true h]
  obtain ⟨h0,h1⟩:=h
  have hi : n.toNat / 64 < 8:=by omega
  have hb:=AfH h0 h1
  have hw:=ht.word hi
  have hp : WW ((2 ^ (n.toNat % 64) : Nat) : Int):=WW.nat (AbD _ (by omega))
  have fin : ∀ (x : Nat),x < 18446744073709551616 → (∀ j,j < 64 → x.testBit j = if j = n.toNat % 64 then b else (PF t (n.toNat / 64)).toNat.testBit j) →
    Mx (t.set (n.toNat / 64) (x : Int)) ∧ ∀ v,0 ≤ v → v < 512 → hasB (t.set (n.toNat / 64) (x : Int)) v = if v = n then b else hasB t v:=by
   intro x hx hbit
   refine ⟨ht.set (WW.nat hx),fun v hv0 hv1=>?_⟩
   unfold hasB
   rw [AaP hi]
   by_cases he : v = n
   ·subst he
    rw [if_pos rfl,if_pos rfl]
    show (x : Int).toNat.testBit _ = b
    rw [Int.toNat_natCast,hbit _ (by omega),if_pos rfl]
   ·rw [if_neg he]
    by_cases hq : n.toNat / 64 = v.toNat / 64
    ·rw [if_pos hq]
     show (x : Int).toNat.testBit _ = _
     rw [Int.toNat_natCast,hbit _ (by omega),if_neg (AhK h0 hv0 he hq),hq]
     rfl
    ·rw [if_neg hq]
  cases b with
  | true =>
   simp only [Bool.not_true,cond_false,cond_true]
   rw [AeE h0 h1]
   refine .chk (by omega) ?_
   rw [Int.toNat_natCast,TS hi,Option.bind_some]
   refine .chk (by omega) ?_
   rw [Option.bind_some]
   refine .pure ?_
   rw [hb,AhM hw hp,Int.toNat_natCast]
   refine fin _ (AcY hw.toNat_lt (AbD _ (by omega))) fun j hj=>?_
   rw [Nat.testBit_or,Nat.testBit_two_pow]
   by_cases e : j = n.toNat % 64
   ·simp [e]
   ·rw [if_neg e]
    simp [show ¬ n.toNat % 64 = j from fun h=>e h.symm]
  | false =>
   simp only [Bool.not_true,cond_false]
   rw [AeE h0 h1]
   refine .chk (by omega) ?_
   rw [Int.toNat_natCast,TS hi,Option.bind_some]
   refine .chk (by omega) ?_
   rw [Option.bind_some]
   refine .pure ?_
   rw [hb,Abh hw hp,Int.toNat_natCast]
   refine fin _ (Aav hw.toNat_lt) fun j hj=>?_
   rw [Abo hw.toNat_lt (AbD _ (by omega)),Nat.testBit_two_pow]
   by_cases e : j = n.toNat % 64
   ·simp [e]
   ·rw [if_neg e]
    simp [show ¬ n.toNat % 64 = j from fun h=>e h.symm]
 ·rw [decide_eq_false h]
  simp only [Bool.not_false,cond_true]
  exact .pure ⟨ht,fun v h0 h1=>by rw [if_neg (fun e=>h (by omega))]⟩
theorem Zz (l : List Int) (hl : l.length ≤ 9000000000000000000) : Hs (Lz l) fun r=>Mx r ∧ ∀ v,0 ≤ v → v < 512 → hasB r v = decide (v ∈ l):=by
 unfold Lz
 refine Hs.loop (fun s=>Mx s.1 ∧ ∃ k : Nat,s.2 = (k : Int) ∧ k ≤ l.length ∧ ∀ v,0 ≤ v → v < 512 → hasB s.1 v = decide (v ∈ l.take k)) (fun s=>l.length - s.2.toNat) ⟨Mx.zero,0,rfl,Nat.zero_le _,fun v _ _=>by simp [AcS]⟩ ?_
 rintro ⟨t,k'⟩ ⟨ht,k,hk',hk,hall⟩
 simp only at ht hk' hall
 subst hk'
 unfold Qy
 refine .dec (fun hlt=>?_) fun hge=>?_
 ·have hlt : k < l.length:=by omega
  refine Hs.bind (P:=fun x=>l[k]? = some x) ⟨l[k],by simp [hlt],by simp [hlt]⟩ fun x hx=>(Ada ht x true).bind fun r hr=>.cnt ?_
  rw [Kq (by omega)]
  refine ⟨⟨hr.1,k + 1,rfl,hlt,fun v h0 h1=>?_⟩,by simp only; omega⟩
  simp only
  rw [hr.2 v h0 h1,hall v h0 h1,List.take_add_one,hx]
  by_cases e : v = x
  ·simp [e]
  ·simp [e]
 ·have : k = l.length:=by omega
  subst this
  exact .lft (.pure ⟨ht,fun v h0 h1=>by rw [hall v h0 h1,List.take_length]⟩)
theorem KE.snoc {l : List Int} (h : KE l) {z : Int} (h0 : 0 ≤ z ∧ z < 512) (hz : ∀ x ∈ l,x < z) : KE (l ++ [z]):=by
 refine ⟨List.pairwise_append.2 ⟨h.1,List.pairwise_singleton _ _,fun a ha b hb=>?_⟩,fun x hx=>?_⟩
 ·simp only [List.mem_singleton] at hb; subst hb; exact hz a ha
 ·simp only [List.mem_append,List.mem_singleton] at hx
  rcases hx with h1 | rfl
  ·exact h.2 x h1
  ·exact h0
theorem Ww {t : BS} (ht : Mx t) : Hs (KV t) fun r=>r.2 = t ∧ OA r.1 (fun v=>hasB t v = true):=by
 unfold KV
 refine Hs.loop (fun s=>∃ i : Nat,s.2 = (i : Int) ∧ i ≤ 8 ∧ OA s.1 (fun v=>v < 64 * i ∧ hasB t v = true)) (fun s=>8 - s.2.toNat) ⟨0,rfl,by omega,⟨KE.nil,fun v=>by simp; omega⟩⟩ ?_
 rintro ⟨l,i'⟩ ⟨i,hi',hi,hs⟩
 simp only at hi' hs
 subst hi'
 unfold NJ
 refine .dec (fun hlt=>?_) fun hge=>?_
 ·have hlt : i < 8:=by omega
  refine .chk (by omega) ?_
  rw [Int.toNat_natCast,TS hlt,Option.bind_some]
  have hw:=ht.word hlt
  refine Hs.loop (fun s=>WW s.2 ∧ ∃ c : Nat,c ≤ 64 ∧ OA s.1 (fun v=>v < 64 * i + c ∧ hasB t v = true) ∧ ∀ j,j < 64 → UG s.2 j = (decide (c ≤ j) && UG (PF t i) j)) (fun s=>s.2.toNat) ⟨hw,0,by omega,by simpa using hs,fun j _=>by simp⟩ ?_
  rintro ⟨m,x⟩ ⟨hx,c,hc,hm,hb⟩
  simp only at hx hm hb
  unfold NK
  refine .bne (fun hne=>?_) fun he=>?_
  ·have hx0 : 0 < x.toNat:=by have:=hx.1; omega
   obtain ⟨k1,k2,k3,k4⟩:=Aev hx0 hx.toNat_lt
   generalize hk : Lib.ctz 64 x.toNat = k at k1 k2 k3 k4
   have ek : YE x = some (k : Int):=by
    unfold YE
    rw [Kx (show 0 ≤ x ∧ x < 18446744073709551616 from hx),hk]
   rw [ek,Option.bind_some]
   have hck : c ≤ k:=by
    have:=hb k k1
    unfold UG at this
    rw [k2] at this
    simp at this
    exact this.1
   have hwk : UG (PF t i) k = true:=by
    have:=hb k k1
    unfold UG at this
    rw [k2] at this
    simp at this
    exact this.2
   have e1 : IntKind.i64.wrap (IntKind.i64.wrap (64 * (i : Int)) + (k : Int)) = ((64 * i + k : Nat) : Int):=by
    rw [wrap64 (n:=64 * (i : Int)) (by omega) (by omega),wrap64 (by omega) (by omega)]; omega
   have e2 : IntKind.u64.wrap (x - 1) = x - 1:=Ade ⟨by omega,by have:=hx.2; omega⟩
   have e3 : (x - 1).toNat = x.toNat - 1:=by omega
   have hz : ∀ v ∈ m,v < ((64 * i + k : Nat) : Int):=fun v hv=>by
    have:=((hm.2 v).1 hv).2.1
    omega
   have hlen:=hm.1.length_le
   refine .chk (by simp; omega) (.cnt ?_)
   rw [e1,e2,AhP hx ⟨by omega,by have:=hx.2; omega⟩,e3]
   refine ⟨⟨WW.nat (Aav hx.toNat_lt),k + 1,by omega,⟨hm.1.snoc (by omega) hz,fun v=>?_⟩,fun j hj=>?_⟩,?_⟩
   ·simp only [List.mem_append,List.mem_singleton,hm.2]
    constructor
    ·rintro (⟨a,b,d⟩ | rfl)
     ·exact ⟨a,by omega,d⟩
     ·refine ⟨by omega,by omega,?_⟩
      unfold hasB
      have q1 : (((64 * i + k : Nat) : Int).toNat) / 64 = i:=by omega
      have q2 : (((64 * i + k : Nat) : Int).toNat) % 64 = k:=by omega
      rw [q1,q2]
      exact hwk
    ·rintro ⟨a,b,d⟩
     by_cases e : v = ((64 * i + k : Nat) : Int)
     ·exact .inr e
     ·refine .inl ⟨a,?_,d⟩
      refine Int.not_le.1 fun hle=>?_
      have q1 : v.toNat / 64 = i:=by omega
      have q3 : v.toNat % 64 < k:=by omega
      have q4 : c ≤ v.toNat % 64:=by omega
      have q5:=hb (v.toNat % 64) (by omega)
      unfold UG at q5
      rw [k3 _ q3] at q5
      unfold hasB at d
      rw [q1] at d
      unfold UG at d
      rw [d] at q5
      simp [q4] at q5
   ·simp only
    unfold UG
    rw [Int.toNat_natCast,k4]
    have q:=hb j hj
    unfold UG at q
    by_cases h1 : j < k
    ·rw [k3 _ h1]
     simp [show ¬ k + 1 ≤ j by omega]
    ·by_cases h2 : j = k
     ·subst h2
      simp [show ¬ j + 1 ≤ j by omega]
     ·rw [q]
      simp [h2,show c ≤ j by omega,show k + 1 ≤ j by omega]
   ·simp only [Int.toNat_natCast]
    have : x.toNat &&& (x.toNat - 1) ≤ x.toNat - 1:=Nat.and_le_right
    omega
  ·have he : x = 0:=he
   subst he
   refine .lft (.cnt ?_)
   rw [Kq (by omega)]
   refine ⟨⟨i + 1,rfl,hlt,hm.mono fun v h0 h1=>⟨fun ⟨a,b⟩=>⟨by omega,b⟩,fun ⟨a,b⟩=>⟨?_,b⟩⟩⟩,by simp only; omega⟩
   refine Int.not_le.1 fun hle=>?_
   have q1 : v.toNat / 64 = i:=by omega
   have q4 : c ≤ v.toNat % 64:=by omega
   have q5:=hb (v.toNat % 64) (by omega)
   unfold hasB at b
   rw [q1] at b
   rw [b] at q5
   simp [q4,UG] at q5
 ·have : i = 8:=by omega
  subst this
  exact .lft (.pure ⟨rfl,hs.mono fun v h0 h1=>⟨fun h=>h.2,fun h=>⟨by omega,h⟩⟩⟩)
theorem Adg {x y : Int} (hx : WW x) (hy : WW y) : OJ x y = some ((x.toNat ||| y.toNat : Nat) : Int):=by
 unfold OJ; rw [AhM hx hy]
theorem AcX {x y : Int} (hx : WW x) (hy : WW y) : OI x y = some ((Abn x.toNat y.toNat : Nat) : Int):=by
 unfold OI; rw [Abh hx hy]
theorem Ace {s t : BS} (hs : Mx s) (ht : Mx t) (g : Nat → Nat → Nat) (hg : ∀ x y,x < 18446744073709551616 → y < 18446744073709551616 → g x y < 18446744073709551616) (p : Bool → Bool → Bool)
  (hp : ∀ x y j,x < 18446744073709551616 → y < 18446744073709551616 → j < 64 → (g x y).testBit j = p (x.testBit j) (y.testBit j))
  {body : BS × Int → Option ((BS × Int) ⊕ (BS × BS × BS))} (hend : ∀ x,body (x,8) = some (.inr (x,s,t)))
  (hstep : ∀ x (i : Nat),i < 8 → body (x,(i : Int)) = some (.inl (x.set i ((g (PF s i).toNat (PF t i).toNat : Nat) : Int),((i + 1 : Nat) : Int)))) :
  Hs (Ks body (⟨0,0,0,0,0,0,0,0⟩,0)) fun r=>Mx r.1 ∧ ∀ v,0 ≤ v → v < 512 → hasB r.1 v = p (hasB s v) (hasB t v):=by
 refine Hs.loop (fun q=>Mx q.1 ∧ ∃ i : Nat,q.2 = (i : Int) ∧ i ≤ 8 ∧ ∀ j,j < i → PF q.1 j = ((g (PF s j).toNat (PF t j).toNat : Nat) : Int)) (fun q=>8 - q.2.toNat) ⟨Mx.zero,0,rfl,by omega,fun j hj=>by omega⟩ ?_
 rintro ⟨x,i'⟩ ⟨hx,i,hi',hi,hall⟩
 simp only at hx hi' hall
 subst hi'
 by_cases hlt : i < 8
 ·refine ⟨_,hstep x i hlt,⟨hx.set (WW.nat (hg _ _ (hs.word hlt).toNat_lt (ht.word hlt).toNat_lt)),i + 1,rfl,hlt,fun j hj=>?_⟩,by simp only; omega⟩
  simp only
  rw [AaP hlt]
  by_cases e : i = j
  ·subst e; rw [if_pos rfl]
  ·rw [if_neg e]; exact hall j (by omega)
 ·obtain rfl : i = 8:=by omega
  refine ⟨_,hend x,hx,fun v h0 h1=>?_⟩
  have hv : v.toNat / 64 < 8:=by omega
  unfold hasB
  simp only
  rw [hall _ hv]
  unfold UG
  rw [Int.toNat_natCast,hp _ _ _ (hs.word hv).toNat_lt (ht.word hv).toNat_lt (by omega)]
theorem Aba {s t : BS} (hs : Mx s) (ht : Mx t) : Hs (Le s t) fun r=>Mx r.1 ∧ ∀ v,0 ≤ v → v < 512 → hasB r.1 v = (hasB s v || hasB t v):=by
 unfold Le
 refine Ace hs ht (· ||| ·) (fun x y=>AcY) (· || ·) (fun x y j _ _ _=>Nat.testBit_or ..) (fun x=>by simp [Lm]) fun x i hi=>?_
 have w:=Kq (show i < 9223372036854775807 by omega)
 simp [Lm,TS hi,Adg (hs.word hi) (ht.word hi),w,show (i : Int) < 8 by omega]
theorem AaZ {s t : BS} (hs : Mx s) (ht : Mx t) : Hs (Ld s t) fun r=>Mx r.1 ∧ ∀ v,0 ≤ v → v < 512 → hasB r.1 v = (hasB s v && !hasB t v):=by
 unfold Ld
 refine Ace hs ht Abn (fun x y hx _=>Aav hx) (fun a b=>a && !b) (fun x y j hx hy _=>Abo hx hy) (fun x=>by simp [Ll]) fun x i hi=>?_
 have w:=Kq (show i < 9223372036854775807 by omega)
 simp [Ll,TS hi,AcX (hs.word hi) (ht.word hi),w,show (i : Int) < 8 by omega]
theorem Adk (l : List Int) (hl : l.length ≤ 9000000000000000000) : Hs (Qt l) fun r=>OA r (· ∈ l):=by
 unfold Qt
 exact (Zz l hl).bind fun r hr=>(Ww hr.1).bind fun q hq=>.pure (hq.2.mono fun v h0 h1=>by rw [hr.2 v h0 h1]; simp)
theorem Abl (l : List Int) (n : Int) (hl : l.length ≤ 9000000000000000000) : Hs (Oq l n) fun r=>OA r (fun v=>v ∈ l ∧ v ≠ n):=by
 unfold Oq
 refine (Zz l hl).bind fun r hr=>(Ada hr.1 n false).bind fun u hu=>(Ww hu.1).bind fun q hq=>.pure (hq.2.mono fun v h0 h1=>?_)
 rw [hu.2 v h0 h1,hr.2 v h0 h1]
 by_cases e : v = n <;> simp [e]
theorem AbP (a b : List Int) (ha : a.length ≤ 9000000000000000000) (hb : b.length ≤ 9000000000000000000) : Hs (MV a b) fun r=>OA r (fun v=>v ∈ a ∨ v ∈ b):=by
 unfold MV
 refine (Zz a ha).bind fun r hr=>(Zz b hb).bind fun u hu=>(Aba hr.1 hu.1).bind fun x hx=>(Ww hx.1).bind fun q hq=>.pure (hq.2.mono fun v h0 h1=>?_)
 rw [hx.2 v h0 h1,hr.2 v h0 h1,hu.2 v h0 h1]; simp
theorem AbO (a b : List Int) (ha : a.length ≤ 9000000000000000000) (hb : b.length ≤ 9000000000000000000) : Hs (ON a b) fun r=>OA r (fun v=>v ∈ a ∧ v ∉ b):=by
 unfold ON
 refine (Zz a ha).bind fun r hr=>(Zz b hb).bind fun u hu=>(AaZ hr.1 hu.1).bind fun x hx=>(Ww hx.1).bind fun q hq=>.pure (hq.2.mono fun v h0 h1=>?_)
 rw [hx.2 v h0 h1,hr.2 v h0 h1,hu.2 v h0 h1]; simp
theorem Abk {s : List Int} (hs : KE s) (n : Int) : Oq s n = some (s.filter (· != n)):=by
 obtain ⟨r,h1,h2⟩:=Abl s n (by have:=hs.length_le; omega)
 rw [h1,h2.eq (OA.Aao (hs.filter (· != n))) fun v _ _=>by simp [List.mem_filter]]
theorem XN {a b : List Int} (ha : KE a) (hb : ∀ x ∈ b,0 ≤ x ∧ x < 512) (hl : b.length ≤ 1000) : MV a b = some (Ma a b):=by
 obtain ⟨r,h1,h2⟩:=AbP a b (by have:=ha.length_le; omega) (by omega)
 obtain ⟨h3,h4⟩:=QQ (n:=512) (by omega) (b:=b) ⟨ha,fun x hx=>(ha.2 x hx).2⟩ hb
 rw [h1,h2.eq (OA.Aao h3.1) fun v _ _=>by rw [h4]]
theorem Adj {b : List Int} (hb : ∀ x ∈ b,0 ≤ x ∧ x < 512) (hl : b.length ≤ 1000) : Qt b = some (Ma [] b):=by
 obtain ⟨r,h1,h2⟩:=Adk b (by omega)
 obtain ⟨h3,h4⟩:=QQ (n:=512) (by omega) (b:=b) ⟨KE.nil,fun x hx=>by cases hx⟩ hb
 rw [h1,h2.eq (OA.Aao h3.1) fun v _ _=>by rw [h4]; simp]
end Go.Proofs.YtcelninhkmhjkaaDoor
namespace Go.Proofs.YtcelninhkmhjkaaDoor
open Go Go.Dw Go.Proofs
attribute [local simp] Kx Bool.cond_eq_ite
def okC (c : JJ) : Prop:=0 ≤ c.at_ ∧ c.at_ ≤ c.list.length ∧ c.list.length ≤ 1000 ∧ ∀ v ∈ c.list,0 ≤ v ∧ v ≤ 255
theorem AhL (l : List Int) (n : Int) (hl : qL (Np .u8) l) (h0 : 0 ≤ n) (h1 : n ≤ 1000) : ∃ c,UM l n = some c ∧ okC c:=by
 unfold UM
 have e : Uo (l.length : Int) n = min (l.length : Int) n:=Afp _ _
 rw [e]
 refine ⟨_,by rw [Kx (by omega)],by simp,?_,?_,?_⟩
 ·simp
 ·simp only [List.length_take]; omega
 ·intro v hv
  have:=hl.2 v (List.mem_of_mem_take hv)
  simpa [Np,IntKind.min,IntKind.max,IntKind.signed,IntKind.bits] using this
theorem Aft (c : JJ) (h : okC c) (n : Int) (h1 : n ≤ 1099511627776) : ∃ r c',JT c n = some (r,c') ∧ okC c' ∧ 0 ≤ r ∧ (r < n ∨ r = 0):=by
 obtain ⟨ha,hb,hc,hd⟩:=h
 unfold JT Ps
 by_cases hl : c.at_ < c.list.length
 ·by_cases hn : n < 1
  ·exact ⟨0,c,by simp [hl,hn],⟨ha,hb,hc,hd⟩,by omega,.inr rfl⟩
  ·have hx : c.list[c.at_.toNat]? = some (c.list[c.at_.toNat]'(by omega)):=List.getElem?_eq_getElem _
   have hv:=hd _ (List.getElem_mem (show c.at_.toNat < c.list.length by omega))
   generalize hq : c.list[c.at_.toNat]'(by omega) = v at hx hv
   have e1 : IntKind.i64.wrap v = v:=wrap64 (by omega) (by omega)
   have hm0 : 0 ≤ v * n:=Int.mul_nonneg hv.1 (by omega)
   have hm1 : v * n ≤ 255 * n:=Int.mul_le_mul_of_nonneg_right hv.2 (by omega)
   have e2 : IntKind.i64.wrap (v * n) = v * n:=wrap64 (by omega) (by omega)
   have e3 : (v * n).tdiv 256 = v * n / 256:=Int.tdiv_eq_ediv_of_nonneg hm0
   have e4 : IntKind.i64.wrap (v * n / 256) = v * n / 256:=wrap64 (by omega) (by omega)
   have e5 : IntKind.i64.wrap (c.at_ + 1) = c.at_ + 1:=wrap64 (by omega) (by omega)
   refine ⟨v * n / 256,⟨c.list,c.at_ + 1⟩,?_,⟨by simp only; omega,by simp only; omega,hc,hd⟩,by omega,.inl (by omega)⟩
   simp [hl,hn,Px,Ye _ ha,hx,e1,e2,e3,e4,e5]
 ·exact ⟨0,c,by simp [hl],⟨ha,hb,hc,hd⟩,by omega,.inr rfl⟩
end Go.Proofs.YtcelninhkmhjkaaDoor
namespace Go.Proofs.YtcelninhkmhjkaaDoor
open Go Go.Dw Go.Proofs
theorem Afq {c : JJ} (h : okC c) {n : Int} (h1 : n ≤ 1099511627776) : Hs (JT c n) fun p=>okC p.2 ∧ 0 ≤ p.1 ∧ (p.1 < n ∨ p.1 = 0):=by
 obtain ⟨r,c',e,h2,h3,h4⟩:=Aft c h n h1
 exact ⟨(r,c'),e,h2,h3,h4⟩
theorem Kj {c : JJ} (h : okC c) {n : Int} (h0 : 1 ≤ n) (h1 : n ≤ 1099511627776) : Hs (JT c n) fun p=>okC p.2 ∧ 0 ≤ p.1 ∧ p.1 < n :=
 (Afq h h1).mono fun r hr=>⟨hr.1,hr.2.1,by omega⟩
def XW (s : Ko) : Prop:=s.Size ∈ ([8,4,8,1,2,16,8] : List Int) ∧ s.Align ∈ ([8,4,1,8,16,2,32,64] : List Int)
def W64 (w : Int) : Prop:=0 ≤ w ∧ w < 18446744073709551616
def Reg (a : Int) : Prop:=0 ≤ a ∧ a < 4
theorem Afv {c : JJ} (h : okC c) : Hs (Oc c) fun p=>okC p.2 ∧ XW p.1:=by
 unfold Oc
 refine (Kj h (by omega) (by omega)).bind fun r hr=>.chk (by simp; omega) ?_
 refine (Hs.get hr.2.1 (by simp; omega) fun x hx=>List.mem_of_getElem? hx).bind fun x hx=>?_
 refine (Kj hr.1 (by omega) (by omega)).bind fun r' hr'=>.chk (by simp; omega) ?_
 refine (Hs.get hr'.2.1 (by simp; omega) fun x hx=>List.mem_of_getElem? hx).bind fun y hy=>?_
 exact .pure ⟨hr'.1,hx,hy⟩
theorem Aez {c : JJ} (h : okC c) {m : Int} (hm : 0 ≤ m) (hm' : m ≤ 1000) : Hs (Nz c m) fun p=>okC p.2 ∧ (p.1.length : Int) ≤ m ∧ ∀ s ∈ p.1,XW s:=by
 unfold Nz
 have w : IntKind.i64.wrap (m + 1) = m + 1:=wrap64 (by omega) (by omega)
 rw [w]
 refine (Kj h (by omega) (by omega)).bind fun r hr=>?_
 refine Hs.loop (fun s=>okC ⟨s.1,s.2.1⟩ ∧ (s.2.2.1.length : Int) + s.2.2.2 ≤ m ∧ (∀ x ∈ s.2.2.1,XW x) ∧ 0 ≤ s.2.2.2) (fun s=>s.2.2.2.toNat) ⟨hr.1,by simp; omega,by simp,hr.2.1⟩ ?_
 rintro ⟨l,a,sl,n⟩ ⟨hc,hl,hs,hn⟩
 simp only at hc hl hs hn
 unfold OX
 refine .dec (fun hlt=>?_) fun hlt=>?_
 ·have hlt : 0 < n:=hlt
  have w : IntKind.i64.wrap (n - 1) = n - 1:=wrap64 (by omega) (by omega)
  refine (Afv hc).bind fun x hx=>.chk (by simp; omega) (.cnt ⟨⟨hx.1,?_,?_,?_⟩,?_⟩)
  ·simp only [w,List.length_append,List.length_singleton]; omega
  ·intro y hy
   rcases List.mem_append.1 hy with h1 | h1
   ·exact hs y h1
   ·rw [List.mem_singleton] at h1; subst h1; exact hx.2
  ·simp only [w]; omega
  ·simp only [w]; omega
 ·exact .lft (.pure ⟨hc,by simp only; omega,hs⟩)
theorem Acf {c : JJ} (h : okC c) : Hs (MX c) fun p=>okC p.2 ∧ W64 p.1:=by
 unfold MX
 refine (Kj h (by omega) (by omega)).bind fun r hr=>.beq (fun _=>?_) fun _=>.beq (fun _=>?_) fun _=>.beq (fun _=>?_) fun _=>?_
 ·exact (Kj hr.1 (by omega) (by omega)).bind fun r' hr'=>.pure ⟨hr'.1,ZD _⟩
 ·exact (Kj hr.1 (by omega) (by omega)).bind fun r' hr'=>.chk hr'.2.1 (.pure ⟨hr'.1,ZD _⟩)
 ·exact .pure ⟨hr.1,by simp only; unfold W64; omega⟩
 ·exact (Kj hr.1 (by omega) (by omega)).bind fun r' hr'=>.pure ⟨hr'.1,ZD _⟩
def Adi (sl : List Ko) (a b : Int) : Prop:=0 ≤ a ∧ a < sl.length ∧ ∃ x y,sl[a.toNat]? = some x ∧ sl[b.toNat]? = some y ∧ x.Size = y.Size
theorem Afn {c : JJ} (h : okC c) {f : JO} {s : Int} (h0 : 0 ≤ s) (h1 : s < f.Slots.length) (hl : f.Slots.length ≤ 1000) : Hs (Oe c f s) fun p=>okC p.2 ∧ Adi f.Slots p.1 s:=by
 unfold Oe
 refine Hs.loop (fun st=>0 ≤ st.2 ∧ st.2 ≤ f.Slots.length ∧ (st.1.length : Int) ≤ st.2 ∧ (∀ v ∈ st.1,Adi f.Slots v s) ∧ (s < st.2 → 0 < st.1.length)) (fun st=>f.Slots.length - st.2.toNat) ⟨by simp,by simp,by simp,by simp,fun h=>by simp at h; omega⟩ ?_
 rintro ⟨l,k⟩ ⟨hk0,hk1,hll,hv,hne⟩
 simp only at hk0 hk1 hll hv hne
 unfold Pz
 refine .dec (fun hlt=>?_) fun hlt=>.lft ?_
 ·have w : IntKind.i64.wrap (k + 1) = k + 1:=wrap64 (by omega) (by omega)
  refine (Hs.ix hk0 hlt fun x hx=>hx).bind fun x hx=>(Hs.ix h0 h1 fun x hx=>hx).bind fun y hy=>.beq (fun he=>?_) fun he=>?_
  ·refine .chk (by simp; omega) (.cnt ⟨⟨by simp only [w]; omega,by simp only [w]; omega,by simp only [w,List.length_append,List.length_singleton]; omega,?_,by simp⟩,by simp only [w]; omega⟩)
   intro v hv'
   rcases List.mem_append.1 hv' with h2 | h2
   ·exact hv v h2
   ·rw [List.mem_singleton] at h2; subst h2
    exact ⟨hk0,hlt,x,y,hx,hy,he⟩
  ·refine .cnt ⟨⟨by simp only [w]; omega,by simp only [w]; omega,by simp only [w]; omega,hv,fun h3=>?_⟩,by simp only [w]; omega⟩
   simp only [w] at h3
   by_cases e : s = k
   ·subst e; rw [hx] at hy; cases hy; exact (he rfl).elim
   ·exact hne (by omega)
 ·have hlt : ¬ k < f.Slots.length:=hlt
  have hl1:=hne (by omega)
  refine (Kj h (n:=(l.length : Int)) (by omega) (by omega)).bind fun r hr=>.chk ⟨hr.2.1,hr.2.2⟩ ?_
  exact (Hs.get hr.2.1 hr.2.2 fun x hx=>hv x (List.mem_of_getElem? hx)).bind fun x hx=>.pure ⟨hr.1,hx⟩
inductive KU (sl : List Ko) (np i : Int) (ps : List Int) (T : Int → Prop) : JL → Prop
 | store (a b : Int) : 0 ≤ a → a < sl.length → Reg b → KU sl np i ps T ⟨16,a,b,0,0⟩
 | load (a b : Int) : Reg a → 0 ≤ b → b < sl.length → KU sl np i ps T ⟨15,a,b,0,0⟩
 | move (a b : Int) : Adi sl a b → 0 ≤ b → b < sl.length → KU sl np i ps T ⟨17,a,b,0,0⟩
 | const (a w : Int) : Reg a → W64 w → KU sl np i ps T ⟨0,a,0,0,w⟩
 | bin (op a b c : Int) : 2 ≤ op → op < 12 → Reg a → Reg b → 0 ≤ c → c < 8 → KU sl np i ps T ⟨op,a,b,c,0⟩
 | out (a : Int) : Reg a → KU sl np i ps T ⟨14,a,0,0,0⟩
 | un (op a : Int) : (op = 13 ∨ op = 12 ∨ op = 1) → Reg a → KU sl np i ps T ⟨op,a,0,0,0⟩
 | param (a b : Int) : Reg a → 0 ≤ b → b < np → KU sl np i ps T ⟨19,a,b,0,0⟩
 | arg (a b : Int) : 0 ≤ a → a < 4 → Reg b → KU sl np i ps T ⟨18,a,b,0,0⟩
 | call (j : Int) : i < j → j < ps.length → KU sl np i ps T ⟨22,j,0,0,0⟩
 | jump (t : Int) : T t → KU sl np i ps T ⟨20,t,0,0,0⟩
 | branch (a t : Int) : Reg a → T t → KU sl np i ps T ⟨21,a,t,0,0⟩
def Abc (ps : List Int) : Prop:=(∀ v ∈ ps,0 ≤ v ∧ v < 4) ∧ ps.length ≤ 1000
theorem AeI {c : JJ} (h : okC c) {f : JO} {i : Int} {ps : List Int} (T : Int → Prop) (hf : f.Slots.length ≤ 1000) (hp : f.Params < 4) (hi : 0 ≤ i) (hi' : i < ps.length) (hps : Abc ps) :
  Hs (Od c f i ps) fun p=>okC p.2 ∧ p.1.length ≤ 4 ∧ ∀ x ∈ p.1,KU f.Slots f.Params i ps T x:=by
 unfold Od
 refine (Kj h (by omega) (by omega)).bind fun r hr=>(Kj hr.1 (by omega) (by omega)).bind fun k hk=>?_
 have hreg : Reg r.1:=hr.2
 have one : ∀ {x : JL} {c' : JJ},okC c' → KU f.Slots f.Params i ps T x → Hs (some (([x] : List JL),c')) fun p=>okC p.2 ∧ p.1.length ≤ 4 ∧ ∀ x ∈ p.1,KU f.Slots f.Params i ps T x:=fun hc hx=>.pure ⟨hc,by simp,by simpa using hx⟩
 have j6 : ∀ b,(b = true → i + 1 < ps.length) → Hs (MM k ps i r b) fun p=>okC p.2 ∧ p.1.length ≤ 4 ∧ ∀ x ∈ p.1,KU f.Slots f.Params i ps T x:=by
  intro b hb
  unfold MM
  refine .cond (fun hb'=>?_) fun _=>one hk.1 (.out _ hreg)
  have hil:=hb hb'
  have hlen:=hps.2
  have w1 : IntKind.i64.wrap ((ps.length : Int) - i) = (ps.length : Int) - i:=wrap64 (by omega) (by omega)
  have w2 : IntKind.i64.wrap ((ps.length : Int) - i - 1) = (ps.length : Int) - i - 1:=wrap64 (by omega) (by omega)
  have w3 : IntKind.i64.wrap (i + 1) = i + 1:=wrap64 (by omega) (by omega)
  rw [w1,w2]
  refine (Kj hk.1 (by omega) (by omega)).bind fun q hq=>?_
  have w4 : IntKind.i64.wrap (i + 1 + q.1) = i + 1 + q.1:=wrap64 (by omega) (by omega)
  refine Hs.loop (fun s=>okC ⟨s.1,s.2.1⟩ ∧ (s.2.2.1.length : Int) ≤ s.2.2.2 ∧ 0 ≤ s.2.2.2 ∧ s.2.2.2 ≤ 3 ∧ ∀ x ∈ s.2.2.1,KU f.Slots f.Params i ps T x) (fun s=>(3 - s.2.2.2).toNat) ⟨hq.1,by simp,by simp,by simp,by simp⟩ ?_
  rintro ⟨l,a,out,n⟩ ⟨hc,ho,hn0,hn3,hall⟩
  simp only at hc ho hn0 hn3 hall
  unfold Py
  simp only [w3,w4]
  refine (Hs.ix (by omega) (by omega) fun x hx=>hps.1 x (List.mem_of_getElem? hx)).bind fun x hx=>.dec (fun hlt=>?_) fun hlt=>.lft ?_
  ·have w5 : IntKind.i64.wrap (n + 1) = n + 1:=wrap64 (by omega) (by omega)
   refine (Kj hc (by omega) (by omega)).bind fun u hu=>.dec (fun _=>?_) fun _=>?_
   ·refine (Kj hu.1 (by omega) (by omega)).bind fun v hv=>.chk (by simp; omega) (.cnt ⟨⟨hv.1,by simp only [w5,List.length_append,List.length_singleton]; omega,by simp only [w5]; omega,by simp only [w5]; omega,?_⟩,by simp only [w5]; omega⟩)
    intro y hy
    rcases List.mem_append.1 hy with h2 | h2
    ·exact hall y h2
    ·rw [List.mem_singleton] at h2; subst h2
     exact .arg _ _ hn0 (by omega) hv.2
   ·exact .cnt ⟨⟨hu.1,by simp only [w5]; omega,by simp only [w5]; omega,by simp only [w5]; omega,hall⟩,by simp only [w5]; omega⟩
  ·refine .chk (by simp; omega) (.pure ⟨hc,by simp only [List.length_append,List.length_singleton]; omega,?_⟩)
   intro y hy
   rcases List.mem_append.1 hy with h2 | h2
   ·exact hall y h2
   ·rw [List.mem_singleton] at h2; subst h2
    exact .call _ (by omega) (by omega)
 have j5 : ∀ b,(b = true → 0 < f.Params) → Hs (ML k f r ps i b) fun p=>okC p.2 ∧ p.1.length ≤ 4 ∧ ∀ x ∈ p.1,KU f.Slots f.Params i ps T x:=by
  intro b hb
  unfold ML
  refine .cond (fun hb'=>?_) fun _=>.dec (fun _=>j6 _ fun hd=>?_) fun _=>j6 _ fun hd=>(by cases hd)
  ·have:=hb hb'
   exact (Kj hk.1 (by omega) (by omega)).bind fun u hu=>one hu.1 (.param _ _ hreg hu.2.1 hu.2.2)
  ·have hlen:=hps.2
   have:=of_decide_eq_true hd
   rw [wrap64 (by omega) (by omega)] at this
   exact this
 have j4 : ∀ b,(b = true → 0 < f.Slots.length) → Hs (MK k f r ps i b) fun p=>okC p.2 ∧ p.1.length ≤ 4 ∧ ∀ x ∈ p.1,KU f.Slots f.Params i ps T x:=by
  intro b hb
  unfold MK
  refine .cond (fun hb'=>?_) fun _=>.dec (fun _=>?_) fun _=>.dec (fun _=>?_) fun _=>.dec (fun _=>one hk.1 (.out _ hreg)) fun _=>.beq (fun _=>?_) fun _=>.beq (fun _=>j5 _ fun hd=>of_decide_eq_true hd) fun _=>j5 _ fun hd=>(by cases hd)
  ·have:=hb hb'
   exact (Kj hk.1 (by omega) (by omega)).bind fun u hu=>(Afn hu.1 hu.2.1 hu.2.2 hf).bind fun v hv=>one hv.1 (.move _ _ hv.2 hu.2.1 hu.2.2)
  ·exact (Acf hk.1).bind fun u hu=>one hu.1 (.const _ _ hreg hu.2)
  ·refine (Kj hk.1 (by omega) (by omega)).bind fun u hu=>(Kj hu.1 (by omega) (by omega)).bind fun v hv=>(Kj hv.1 (by omega) (by omega)).bind fun z hz=>one hz.1 ?_
   rw [wrap64 (by omega) (by omega)]
   exact .bin _ _ _ _ (by omega) (by omega) hreg hv.2 hz.2.1 hz.2.2
  ·refine (Kj hk.1 (by omega) (by omega)).bind fun u hu=>.chk (by simp; omega) ?_
   refine (Hs.get hu.2.1 (by simp; omega) fun x hx=>List.mem_of_getElem? hx).bind fun x hx=>one hu.1 (.un _ _ (by simpa using hx) hreg)
 have j3 : ∀ b,(b = true → 0 < f.Slots.length) → Hs (MJ k f r ps i b) fun p=>okC p.2 ∧ p.1.length ≤ 4 ∧ ∀ x ∈ p.1,KU f.Slots f.Params i ps T x:=by
  intro b hb
  unfold MJ
  refine .cond (fun hb'=>?_) fun _=>.dec (fun _=>j4 _ fun hd=>by have:=of_decide_eq_true hd; omega) fun _=>j4 _ fun hd=>(by cases hd)
  have:=hb hb'
  exact (Kj hk.1 (by omega) (by omega)).bind fun u hu=>one hu.1 (.load _ _ hreg hu.2.1 hu.2.2)
 have j2 : ∀ b,(b = true → 0 < f.Slots.length) → Hs (MI k f r ps i b) fun p=>okC p.2 ∧ p.1.length ≤ 4 ∧ ∀ x ∈ p.1,KU f.Slots f.Params i ps T x:=by
  intro b hb
  unfold MI
  refine .cond (fun hb'=>?_) fun _=>.dec (fun _=>j3 _ fun hd=>by have:=of_decide_eq_true hd; omega) fun _=>j3 _ fun hd=>(by cases hd)
  have:=hb hb'
  exact (Kj hk.1 (by omega) (by omega)).bind fun u hu=>one hu.1 (.store _ _ hu.2.1 hu.2.2 hreg)
 exact .dec (fun _=>j2 _ fun hd=>by have:=of_decide_eq_true hd; omega) fun _=>j2 _ fun hd=>(by cases hd)
theorem KU.mono {sl : List Ko} {np i : Int} {ps : List Int} {T T' : Int → Prop} {x : JL} (h : KU sl np i ps T x) (hT : ∀ t,T t → T' t) : KU sl np i ps T' x:=by
 cases h with
 | store a b h1 h2 h3=>exact .store a b h1 h2 h3
 | load a b h1 h2 h3=>exact .load a b h1 h2 h3
 | move a b h1 h2 h3=>exact .move a b h1 h2 h3
 | const a w h1 h2=>exact .const a w h1 h2
 | bin op a b c h1 h2 h3 h4 h5 h6=>exact .bin op a b c h1 h2 h3 h4 h5 h6
 | out a h1=>exact .out a h1
 | un op a h1 h2=>exact .un op a h1 h2
 | param a b h1 h2 h3=>exact .param a b h1 h2 h3
 | arg a b h1 h2 h3=>exact .arg a b h1 h2 h3
 | call j h1 h2=>exact .call j h1 h2
 | jump t h1=>exact .jump t (hT t h1)
 | branch a t h1 h2=>exact .branch a t h1 (hT t h2)
def Yq (x : JL) : Prop:=x = ⟨23,0,0,0,0⟩ ∨ ∃ w,W64 w ∧ x = ⟨24,0,0,0,w⟩
def UO (x : JL) (t : Int) : JL :=
 if x.Op = 20 ∧ x.A < 0 then ⟨x.Op,t,x.B,x.C,x.Imm⟩ else if x.Op = 21 ∧ x.B < 0 then ⟨x.Op,x.A,t,x.C,x.Imm⟩ else x
theorem Yq.fix {x : JL} (h : Yq x) (t : Int) : UO x t = x:=by
 rcases h with rfl | ⟨w,_,rfl⟩ <;> simp [UO]
theorem KU.fix {sl : List Ko} {np i : Int} {ps : List Int} {T : Int → Prop} {x : JL} (h : KU sl np i ps (· = -1) x) {t : Int} (ht : T t) : KU sl np i ps T (UO x t):=by
 cases h with
 | store a b h1 h2 h3=>exact .store a b h1 h2 h3
 | load a b h1 h2 h3=>exact .load a b h1 h2 h3
 | move a b h1 h2 h3=>exact .move a b h1 h2 h3
 | const a w h1 h2=>exact .const a w h1 h2
 | bin op a b c h1 h2 h3 h4 h5 h6 =>
  have : UO ⟨op,a,b,c,0⟩ t = ⟨op,a,b,c,0⟩:=by simp [UO,show op ≠ 20 by omega,show op ≠ 21 by omega]
  rw [this]
  exact .bin op a b c h1 h2 h3 h4 h5 h6
 | out a h1=>exact .out a h1
 | un op a h1 h2 =>
  have : UO ⟨op,a,0,0,0⟩ t = ⟨op,a,0,0,0⟩:=by simp [UO,show op ≠ 20 by omega,show op ≠ 21 by omega]
  rw [this]
  exact .un op a h1 h2
 | param a b h1 h2 h3=>exact .param a b h1 h2 h3
 | arg a b h1 h2 h3=>exact .arg a b h1 h2 h3
 | call j h1 h2=>exact .call j h1 h2
 | jump q h1=>subst h1; exact .jump t ht
 | branch a q h1 h2=>subst h2; exact .branch a t h1 ht
theorem AhR {code : List JL} {k : Nat} {x : JL} (h : code[k]? = some x) (r : Int × JJ) (t : Int) : KT (k : Int) code r t = some (.inl (r.2.list,r.2.at_,code.set k (UO x t),IntKind.i64.wrap ((k : Int) + 1))):=by
 obtain ⟨hl,hx⟩:=List.getElem?_eq_some_iff.1 h
 have hset : code.set k x = code:=by rw [← hx]; exact List.set_getElem_self hl
 obtain ⟨op,a,b,c,w⟩:=x
 unfold KT Mw
 by_cases h20 : op = 20
 ·subst h20
  by_cases ha : a < 0
  ·simp [Kx,hl,hx,UO,ha]
  ·simp [Kx,hl,hx,UO,ha,hset]
 ·by_cases h21 : op = 21
  ·subst h21
   by_cases hb : b < 0
   ·simp [Kx,hl,hx,UO,hb]
   ·simp [Kx,hl,hx,UO,hb,hset]
  ·have e20 : (op == 20) = false:=by simpa using h20
   have e21 : (op == 21) = false:=by simpa using h21
   simp [Kx,hl,hx,UO,e20,e21,h20,h21,hset]
structure RO (ps : List Int) (i most : Int) (f : JO) : Prop where
 par : ps[i.toNat]? = some f.Params
 slots : f.Slots.length ≤ 6
 slot : ∀ s ∈ f.Slots,XW s
 len : 1 ≤ f.Code.length
 len' : (f.Code.length : Int) ≤ 7 + 5 * most
 body : ∀ (k : Nat) x,f.Code[k]? = some x → k + 1 < f.Code.length → KU f.Slots f.Params i ps (fun t=>0 ≤ t ∧ t < f.Code.length) x
 last : ∀ x,f.Code[f.Code.length - 1]? = some x → Yq x
theorem AhH {l : List Int} {a : Int} (h : okC ⟨l,a⟩) {sl : List Ko} {np i : Int} {ps : List Int} {most : Int} {code : List JL} (hpar : ps[i.toNat]? = some np) (hsl : sl.length ≤ 6) (hsl' : ∀ s ∈ sl,XW s)
  (hlen : 1 ≤ code.length) (hlen' : (code.length : Int) ≤ 7 + 5 * most) (hm : most ≤ 1000) (hb : ∀ (k : Nat) x,code[k]? = some x → k + 1 < code.length → KU sl np i ps (· = -1) x) (he : ∀ x,code[code.length - 1]? = some x → Yq x) :
  Hs (Ks (fun s : List Int × Int × List JL × Int=>Mv np sl s.1 s.2.1 s.2.2.1 s.2.2.2) (l,a,code,0)) fun p=>okC p.2 ∧ RO ps i most p.1:=by
 refine Hs.loop (fun s=>okC ⟨s.1,s.2.1⟩ ∧ s.2.2.1.length = code.length ∧ ∃ k : Nat,s.2.2.2 = (k : Int) ∧ k ≤ code.length ∧ (∀ x,s.2.2.1[code.length - 1]? = some x → Yq x) ∧
  ∀ (j : Nat) x,s.2.2.1[j]? = some x → j + 1 < code.length → KU sl np i ps (fun t=>if j < k then 0 ≤ t ∧ t < code.length else t = -1) x) (fun s=>code.length - s.2.2.2.toNat) ⟨h,rfl,0,rfl,Nat.zero_le _,he,fun j x hj hj'=>(hb j x hj hj').mono fun t ht=>by simpa using ht⟩ ?_
 rintro ⟨l,a,code',k⟩ ⟨hc,hl,k,rfl,hk,he',hall⟩
 simp only at hc hl he' hall
 unfold Mv
 refine .dec (fun hlt=>?_) fun hlt=>?_
 ·have hlt : k < code.length:=by rw [← hl]; exact Int.ofNat_lt.1 hlt
  have w:=Kq (show k < 9223372036854775807 by omega)
  have hx : code'[k]? = some (code'[k]'(by omega)):=List.getElem?_eq_getElem _
  generalize code'[k]'(by omega) = x at hx
  have step : ∀ (r : Int × JJ) (t : Int),okC r.2 → 0 ≤ t → t < code.length → Hs (KT (k : Int) code' r t) (Rnd (fun s : List Int × Int × List JL × Int=>okC ⟨s.1,s.2.1⟩ ∧ s.2.2.1.length = code.length ∧ ∃ k : Nat,s.2.2.2 = (k : Int) ∧ k ≤ code.length ∧ (∀ x,s.2.2.1[code.length - 1]? = some x → Yq x) ∧
    ∀ (j : Nat) x,s.2.2.1[j]? = some x → j + 1 < code.length → KU sl np i ps (fun t=>if j < k then 0 ≤ t ∧ t < code.length else t = -1) x) (fun s=>code.length - s.2.2.2.toNat) (l,a,code',(k : Int)) (fun p : JO × JJ=>okC p.2 ∧ RO ps i most p.1)):=by
   intro r t hr ht0 ht1
   rw [AhR hx]
   refine .pure ⟨⟨hr,by simp [hl],k + 1,w,hlt,?_,?_⟩,by simp only [w]; omega⟩
   ·intro y hy
    simp only at hy
    by_cases e : k = code.length - 1
    ·rw [← e,List.getElem?_set_self (by omega)] at hy
     obtain rfl:=Option.some.inj hy
     have hex:=he' x (by rw [← e]; exact hx)
     rw [hex.fix]; exact hex
    ·rw [List.getElem?_set_ne e] at hy
     exact he' y hy
   ·intro j y hy hj
    simp only at hy
    by_cases e : k = j
    ·subst e
     rw [List.getElem?_set_self (by omega)] at hy
     obtain rfl:=Option.some.inj hy
     exact ((hall k x hx hj).mono fun t ht=>by simpa using ht).fix (by rw [if_pos (by omega)]; exact ⟨ht0,ht1⟩)
    ·rw [List.getElem?_set_ne e] at hy
     refine (hall j y hy hj).mono fun t ht=>?_
     by_cases e2 : j < k
     ·rw [if_pos e2] at ht; rw [if_pos (by omega)]; exact ht
     ·rw [if_neg e2] at ht; rw [if_neg (by omega)]; exact ht
  refine (Kj hc (by omega) (by omega)).bind fun r hr=>?_
  have w1 : IntKind.i64.wrap ((k : Int) + r.1) = (k : Int) + r.1:=wrap64 (by omega) (by omega)
  have w2 : IntKind.i64.wrap ((k : Int) + r.1 - 2) = (k : Int) + r.1 - 2:=wrap64 (by omega) (by omega)
  have w3 : IntKind.i64.wrap ((code'.length : Int) - 1) = (code'.length : Int) - 1:=wrap64 (by omega) (by omega)
  simp only [w1,w2,w3]
  exact .dec (fun _=>step r _ hr.1 (by omega) (by omega)) fun _=>.dec (fun _=>step r _ hr.1 (by omega) (by omega)) fun _=>step r _ hr.1 (by omega) (by omega)
 ·have hlt : ¬ k < code'.length:=fun h=>hlt (Int.ofNat_lt.2 h)
  have hkl : k = code.length:=by omega
  refine .lft (.pure ⟨hc,hpar,hsl,hsl',by simp only; omega,by simp only; omega,?_,?_⟩)
  ·intro j x hj hj'
   simp only at hj hj' ⊢
   rw [hl] at hj' ⊢
   refine (hall j x hj hj').mono fun t ht=>?_
   rw [if_pos (by omega)] at ht
   exact ht
  ·intro x hx
   simp only at hx
   rw [hl] at hx
   exact he' x hx
theorem AeD {l : List Int} {a : Int} (h : okC ⟨l,a⟩) {sl : List Ko} {np i : Int} {ps : List Int} {most : Int} {code : List JL} (hpar : ps[i.toNat]? = some np) (hsl : sl.length ≤ 6) (hsl' : ∀ s ∈ sl,XW s)
  (hlen : (code.length : Int) ≤ 6 + 5 * most) (hm : most ≤ 1000) (hb : ∀ x ∈ code,KU sl np i ps (· = -1) x) {e1 e2 : Int} (he : Yq ⟨e1,0,0,0,e2⟩) :
  Hs (LF code np sl l a e1 e2) fun p=>okC p.2 ∧ RO ps i most p.1:=by
 unfold LF
 refine .chk (by simp; omega) (AhH h hpar hsl hsl' (by simp) (by simp; omega) hm ?_ ?_)
 ·intro k x hx hk
  simp only [List.length_append,List.length_singleton] at hk
  rw [List.getElem?_append_left (by omega)] at hx
  exact hb x (List.mem_of_getElem? hx)
 ·intro x hx
  simp at hx
  subst hx
  exact he
theorem AbR {c : JJ} (h : okC c) {i : Int} {ps : List Int} {most : Int} (hi : 0 ≤ i) (hi' : i < ps.length) (hps : Abc ps) (hm0 : 0 ≤ most) (hm : most ≤ 1000) :
  Hs (Mr c i ps most) fun p=>okC p.2 ∧ RO ps i most p.1:=by
 unfold Mr
 refine (Hs.ix hi hi' fun x hx=>hx).bind fun np hnp=>(Aez h (by omega) (by omega)).bind fun sl hsl=>?_
 obtain ⟨hc0,hsl1,hsl2⟩:=hsl
 have hnp4:=hps.1 np (List.mem_of_getElem? hnp)
 refine Hs.loop (fun s=>okC ⟨s.1,s.2.1⟩ ∧ 0 ≤ s.2.2.2 ∧ s.2.2.2 ≤ sl.1.length ∧ (s.2.2.1.length : Int) ≤ s.2.2.2 ∧ ∀ x ∈ s.2.2.1,KU sl.1 np i ps (· = -1) x) (fun s=>sl.1.length - s.2.2.2.toNat) ⟨hc0,by simp,by simp,by simp,by simp⟩ ?_
 rintro ⟨l,a,code,s⟩ ⟨hc,hs0,hs1,hcl,hall⟩
 simp only at hc hs0 hs1 hcl hall
 unfold NM
 refine .dec (fun hlt=>?_) fun hlt=>?_
 ·have hlt : s < sl.1.length:=hlt
  have w : IntKind.i64.wrap (s + 1) = s + 1:=wrap64 (by omega) (by omega)
  refine (Kj hc (by omega) (by omega)).bind fun r hr=>.dec (fun _=>?_) fun _=>?_
  ·refine (Kj hr.1 (by omega) (by omega)).bind fun q hq=>.chk (by simp; omega) (.cnt ⟨⟨hq.1,by simp only [w]; omega,by simp only [w]; omega,by simp only [w,List.length_append,List.length_singleton]; omega,?_⟩,by simp only [w]; omega⟩)
   intro y hy
   rcases List.mem_append.1 hy with h2 | h2
   ·exact hall y h2
   ·rw [List.mem_singleton] at h2; subst h2
    exact .store _ _ hs0 hlt hq.2
  ·exact .cnt ⟨⟨hr.1,by simp only [w]; omega,by simp only [w]; omega,by simp only [w]; omega,hall⟩,by simp only [w]; omega⟩
 ·have w : IntKind.i64.wrap (most + 1) = most + 1:=wrap64 (by omega) (by omega)
  rw [w]
  refine .lft ((Kj hc (by omega) (by omega)).bind fun r hr=>?_)
  refine Hs.loop (fun s=>okC ⟨s.1,s.2.1⟩ ∧ s.2.2.2.1 = sl.1 ∧ 0 ≤ s.2.2.2.2 ∧ s.2.2.2.2 ≤ most ∧ (s.2.2.1.length : Int) ≤ 6 + 5 * (most - s.2.2.2.2) ∧ ∀ x ∈ s.2.2.1,KU sl.1 np i ps (· = -1) x) (fun s=>s.2.2.2.2.toNat) ⟨hr.1,rfl,hr.2.1,by simp only; omega,by simp only; omega,hall⟩ ?_
  rintro ⟨l,a,code,sl',n⟩ ⟨hc,rfl,hn0,hn1,hcl,hall⟩
  simp only at hc hn0 hn1 hcl hall
  unfold NN
  refine .dec (fun hlt=>?_) fun hlt=>.lft ?_
  ·have hlt : 0 < n:=hlt
   have w : IntKind.i64.wrap (n - 1) = n - 1:=wrap64 (by omega) (by omega)
   refine (AeI hc (· = -1) (by simp only; omega) hnp4.2 hi hi' hps).bind fun b hb=>.chk (by simp; omega) ?_
   have hall2 : ∀ x ∈ code ++ b.1,KU sl.1 np i ps (· = -1) x:=by
    intro y hy
    rcases List.mem_append.1 hy with h2 | h2
    ·exact hall y h2
    ·exact hb.2.2 y h2
   have hall3 : ∀ x,KU sl.1 np i ps (· = -1) x → ∀ y ∈ (code ++ b.1) ++ [x],KU sl.1 np i ps (· = -1) y:=by
    intro x hx y hy
    rcases List.mem_append.1 hy with h2 | h2
    ·exact hall2 y h2
    ·rw [List.mem_singleton] at h2; subst h2; exact hx
   have hbl:=hb.2.1
   refine (Kj hb.1 (by omega) (by omega)).bind fun r hr=>.beq (fun _=>?_) fun _=>.beq (fun _=>?_) fun _=>?_
   ·refine (Kj hr.1 (by omega) (by omega)).bind fun q hq=>.chk (by simp; omega) (.cnt ⟨⟨hq.1,rfl,by simp only [w]; omega,by simp only [w]; omega,by simp only [w,List.length_append,List.length_singleton]; omega,hall3 _ (.branch _ _ hq.2 rfl)⟩,by simp only [w]; omega⟩)
   ·refine (Kj hr.1 (by omega) (by omega)).bind fun q hq=>.beq (fun _=>?_) fun _=>?_
    ·exact .chk (by simp; omega) (.cnt ⟨⟨hq.1,rfl,by simp only [w]; omega,by simp only [w]; omega,by simp only [w,List.length_append,List.length_singleton]; omega,hall3 _ (.jump _ rfl)⟩,by simp only [w]; omega⟩)
    ·exact .cnt ⟨⟨hq.1,rfl,by simp only [w]; omega,by simp only [w]; omega,by simp only [w,List.length_append]; omega,hall2⟩,by simp only [w]; omega⟩
   ·exact .cnt ⟨⟨hr.1,rfl,by simp only [w]; omega,by simp only [w]; omega,by simp only [w,List.length_append]; omega,hall2⟩,by simp only [w]; omega⟩
  ·refine (Kj hc (by omega) (by omega)).bind fun r hr=>.beq (fun _=>?_) fun _=>?_
   ·exact (Acf hr.1).bind fun q hq=>AeD hq.1 hnp (by omega) hsl2 (by omega) hm hall (.inr ⟨_,hq.2,rfl⟩)
   ·exact AeD hr.1 hnp (by omega) hsl2 (by omega) hm hall (.inl rfl)
def AfE (funcs most : Int) (p : On) : Prop :=
 ∃ ps,Abc ps ∧ ps[0]? = some 0 ∧ 1 ≤ ps.length ∧ (ps.length : Int) ≤ funcs ∧ p.Funcs.length = ps.length ∧ ∀ (j : Nat) f,p.Funcs[j]? = some f → RO ps j most f
theorem AcB {c : JJ} (h : okC c) {funcs most : Int} (hf : 1 ≤ funcs) (hf' : funcs ≤ 1000) (hm0 : 0 ≤ most) (hm : most ≤ 1000) :
  Hs (MH c funcs most) fun p=>okC p.2 ∧ AfE funcs most p.1:=by
 unfold MH
 refine (Kj h hf (by omega)).bind fun r hr=>?_
 refine Hs.loop (fun s=>okC ⟨s.1,s.2.1⟩ ∧ (∀ v ∈ s.2.2.1,0 ≤ v ∧ v < 4) ∧ s.2.2.1[0]? = some 0 ∧ 0 ≤ s.2.2.2 ∧ (s.2.2.1.length : Int) + s.2.2.2 ≤ funcs) (fun s=>s.2.2.2.toNat) ⟨hr.1,by simp,by simp,hr.2.1,by simp; omega⟩ ?_
 rintro ⟨l,a,ps,n⟩ ⟨hc,hv,hz,hn0,hn1⟩
 simp only at hc hv hz hn0 hn1
 have hp1 : 1 ≤ ps.length:=by have:=(List.getElem?_eq_some_iff.1 hz).1; omega
 unfold Oa
 refine .dec (fun hlt=>?_) fun hlt=>.lft ?_
 ·have hlt : 0 < n:=hlt
  have w : IntKind.i64.wrap (n - 1) = n - 1:=wrap64 (by omega) (by omega)
  refine (Kj hc (by omega) (by omega)).bind fun q hq=>.chk (by simp; omega) (.cnt ⟨⟨hq.1,?_,by simp only; rw [List.getElem?_append_left (by omega)]; exact hz,by simp only [w]; omega,by simp only [w,List.length_append,List.length_singleton]; omega⟩,by simp only [w]; omega⟩)
  intro y hy
  rcases List.mem_append.1 hy with h2 | h2
  ·exact hv y h2
  ·rw [List.mem_singleton] at h2; subst h2; exact hq.2
 ·have hps : Abc ps:=⟨hv,by omega⟩
  refine Hs.loop (fun s=>okC ⟨s.1,s.2.1⟩ ∧ s.2.2.2.2 = ps ∧ ∃ i : Nat,s.2.2.2.1 = (i : Int) ∧ i ≤ ps.length ∧ s.2.2.1.length = i ∧ ∀ (j : Nat) f,s.2.2.1[j]? = some f → RO ps j most f) (fun s=>ps.length - s.2.2.2.1.toNat) ⟨hc,rfl,0,rfl,Nat.zero_le _,rfl,fun j f hj=>by simp at hj⟩ ?_
  rintro ⟨l,a,fs,i',ps'⟩ ⟨hc,hpe,i,hie,hi,hfl,hall⟩
  simp only at hc hpe hie hi hfl hall
  subst hpe hie
  unfold Ob
  refine .dec (fun hlt=>?_) fun hlt=>.lft (.pure ⟨hc,ps',hps,hz,hp1,by omega,?_,hall⟩)
  ·have hlt : i < ps'.length:=Int.ofNat_lt.1 hlt
   have w:=Kq (show i < 9223372036854775807 by have:=hps.2; omega)
   have hpl:=hps.2
   refine .chk (by simp; omega) ((AbR hc (i:=(i : Int)) (ps:=ps') (by omega) (by omega) hps hm0 hm).bind fun f hf=>.chk (by simp; omega) (.cnt ⟨⟨hf.1,rfl,i + 1,w,hlt,by simp; omega,?_⟩,by simp only [w]; omega⟩))
   intro j g hg
   simp only [List.nil_append] at hg
   by_cases e : j < fs.length
   ·rw [List.getElem?_append_left e] at hg; exact hall j g hg
   ·have hj : j = i:=by
     have:=(List.getElem?_eq_some_iff.1 hg).1
     simp at this; omega
    subst hj
    rw [List.getElem?_append_right (by omega),hfl] at hg
    simp at hg
    subst hg
    exact hf.2
  ·have hlt : ¬ i < ps'.length:=fun h=>hlt (Int.ofNat_lt.2 h)
   simp only; omega
end Go.Proofs.YtcelninhkmhjkaaDoor
namespace Go.Proofs.YtcelninhkmhjkaaDoor
open Go Go.Dw Go.Proofs
attribute [local simp] Kx Bool.cond_eq_ite
def Mg (x : JL) (k : Int) : List Int :=
 if x.Op = 20 then [x.A] else if x.Op = 23 ∨ x.Op = 24 then [] else
 if x.Op = 21 then (if x.B < k + 1 then [x.B,k + 1] else if k + 1 < x.B then [k + 1,x.B] else [k + 1]) else [k + 1]
theorem Aey {f : JO} {k : Nat} {x : JL} (h : f.Code[k]? = some x) (hk : k < 9223372036854775807) : Sx f (k : Int) = some (Mg x k):=by
 obtain ⟨hl,hx⟩:=List.getElem?_eq_some_iff.1 h
 have hnl : ¬ f.Code.length ≤ k:=by omega
 have w : IntKind.i64.wrap ((k : Int) + 1) = (k : Int) + 1:=wrap64 (by omega) (by omega)
 unfold Sx Tl Mg
 obtain ⟨op,a,b,c,i⟩:=x
 by_cases h20 : op = 20
 ·subst h20; simp [hx,hl,hnl,show ¬ (k : Int) < 0 by omega]
 ·have e20 : (op == 20) = false:=by simpa using h20
  by_cases h23 : op = 23
  ·subst h23; simp [hx,hl,hnl,show ¬ (k : Int) < 0 by omega,Mc]
  ·have e23 : (op == 23) = false:=by simpa using h23
   by_cases h24 : op = 24
   ·subst h24; simp [hx,hl,hnl,show ¬ (k : Int) < 0 by omega,Mc]
   ·have e24 : (op == 24) = false:=by simpa using h24
    by_cases h21 : op = 21
    ·subst h21
     by_cases hb : b < (k : Int) + 1
     ·simp [hx,hl,hnl,show ¬ (k : Int) < 0 by omega,Mc,w,hb]
     ·by_cases hb' : (k : Int) + 1 < b
      ·simp [hx,hl,hnl,show ¬ (k : Int) < 0 by omega,Mc,w,hb,hb']
      ·simp [hx,hl,hnl,show ¬ (k : Int) < 0 by omega,Mc,w,hb,hb']
    ·have e21 : (op == 21) = false:=by simpa using h21
     simp [hx,hl,hnl,show ¬ (k : Int) < 0 by omega,Mc,w,h20,h23,h24,h21]
def Mp (x : JL) : List Int:=if x.Op = 15 ∨ x.Op = 17 then [x.B] else []
structure KP (f : JO) : Prop where
 len : 1 ≤ f.Code.length
 len' : f.Code.length ≤ 10000
 slots : f.Slots.length ≤ 500
 next : ∀ (k : Nat) x,f.Code[k]? = some x → ∀ j ∈ Mg x k,0 ≤ j ∧ j < f.Code.length
 uses : ∀ x ∈ f.Code,∀ v ∈ Mp x,0 ≤ v ∧ v < f.Slots.length
theorem RO.AhI {ps : List Int} {i most : Int} {f : JO} (h : RO ps i most f) (hm : most ≤ 1000) : KP f:=by
 have hl:=h.len
 have hl':=h.len'
 have hs:=h.slots
 refine ⟨hl,by omega,by omega,fun k x hx j hj=>?_,fun x hx v hv=>?_⟩
 ·have hkl:=(List.getElem?_eq_some_iff.1 hx).1
  by_cases hk : k + 1 < f.Code.length
  ·have hins:=h.body k x hx hk
   cases hins with
   | jump t h1=>simp [Mg] at hj; subst hj; exact h1
   | branch a t h0 h1 =>
    simp [Mg] at hj
    have : j = t ∨ j = (k : Int) + 1:=by
     split at hj
     ·simpa using hj
     ·split at hj
      ·simp at hj; omega
      ·simp at hj; omega
    rcases this with rfl | rfl <;> omega
   | bin op a b c h1 h2 h3 h4 h5 h6 =>
    simp [Mg,show op ≠ 20 by omega,show op ≠ 23 by omega,show op ≠ 24 by omega,show op ≠ 21 by omega] at hj
    subst hj; omega
   | un op a h1 h2 =>
    simp [Mg,show op ≠ 20 by omega,show op ≠ 23 by omega,show op ≠ 24 by omega,show op ≠ 21 by omega] at hj
    subst hj; omega
   | _=>simp [Mg] at hj; subst hj; omega
  ·have he:=h.last x (by rw [show f.Code.length - 1 = k by omega]; exact hx)
   rcases he with rfl | ⟨w,_,rfl⟩ <;> simp [Mg] at hj
 ·obtain ⟨k,hk⟩:=List.getElem?_of_mem hx
  have hkl:=(List.getElem?_eq_some_iff.1 hk).1
  by_cases hk1 : k + 1 < f.Code.length
  ·have hins:=h.body k x hk hk1
   cases hins with
   | load a b h0 h1 h2=>simp [Mp] at hv; subst hv; exact ⟨h1,h2⟩
   | move a b h0 h1 h2=>simp [Mp] at hv; subst hv; exact ⟨h1,h2⟩
   | bin op a b c h1 h2 h3 h4 h5 h6=>simp [Mp,show op ≠ 15 by omega,show op ≠ 17 by omega] at hv
   | un op a h1 h2=>simp [Mp,show op ≠ 15 by omega,show op ≠ 17 by omega] at hv
   | _=>simp [Mp] at hv
  ·have he:=h.last x (by rw [show f.Code.length - 1 = k by omega]; exact hk)
   rcases he with rfl | ⟨w,_,rfl⟩ <;> simp [Mp] at hv
end Go.Proofs.YtcelninhkmhjkaaDoor
namespace Go.Proofs.YtcelninhkmhjkaaDoor
open Go Go.Dw Go.Proofs
attribute [local simp] Kx Bool.cond_eq_ite
def KI (n : Int) (s : List Int) : Prop:=KE s ∧ ∀ x ∈ s,x < n
theorem KI.nil (n : Int) : KI n []:=⟨KE.nil,fun x hx=>by cases hx⟩
theorem KI.add {n m : Int} {s : List Int} (h : KI n s) (hm : 0 ≤ m ∧ m < n) (hn : n ≤ 512) : KI n (Oo m s) ∧ OG s m = some (Oo m s):=by
 have hl:=h.1.length_le
 refine ⟨?_,add_eq s m (by omega)⟩
 unfold Oo
 rw [if_pos (by omega)]
 refine ⟨h.1.Pe (by omega),fun x hx=>?_⟩
 rw [UQ] at hx
 rcases hx with rfl | hx
 ·exact hm.2
 ·exact h.2 x hx
def RowsIn (n : Int) (g : List (List Int)) : Prop:=∀ s ∈ g,KI n s
theorem RowsIn.set {n : Int} {g : List (List Int)} (h : RowsIn n g) {i : Nat} {s : List Int} (hs : KI n s) : RowsIn n (g.set i s):=by
 intro x hx
 rcases List.mem_or_eq_of_mem_set hx with h1 | rfl
 ·exact h x h1
 ·exact hs
end Go.Proofs.YtcelninhkmhjkaaDoor
namespace Go.Proofs.YtcelninhkmhjkaaDoor
open Go Go.Dw Go.Proofs
attribute [local simp] Kx Bool.cond_eq_ite
def inN (x : JL) (s : List Int) : List Int:=Ma (if x.Op = 16 ∨ x.Op = 17 then s.filter (· != x.A) else s) (Mp x)
theorem AhQ (x : JL) (s : List Int) (h : s.length ≤ 900000) : UY x s = some (inN x s):=by
 obtain ⟨op,a,b,c,i⟩:=x
 have hu : QM ⟨op,a,b,c,i⟩ = some (Mp ⟨op,a,b,c,i⟩):=by
  unfold QM Mp
  by_cases h15 : op = 15
  ·simp [h15]
  ·have e15 : (op == 15) = false:=by simpa using h15
   by_cases h17 : op = 17
   ·simp [h17]
   ·have e17 : (op == 17) = false:=by simpa using h17
    simp [h15,e15,h17,e17]
 have hul : (Mp ⟨op,a,b,c,i⟩).length ≤ 1:=by unfold Mp; split <;> simp
 have hfl : (s.filter (· != a)).length ≤ s.length:=List.length_filter_le ..
 have hr:=AaL s a (by omega)
 have hu1:=union_eq (s.filter (· != a)) (Mp ⟨op,a,b,c,i⟩) (by omega)
 have hu2:=union_eq s (Mp ⟨op,a,b,c,i⟩) (by omega)
 unfold UY QW PC inN
 by_cases h16 : op = 16
 ·subst h16; simp [hr,hu,hu1]
 ·have e16 : (op == 16) = false:=by simpa using h16
  by_cases h17 : op = 17
  ·subst h17; simp [hr,hu,hu1]
  ·have e17 : (op == 17) = false:=by simpa using h17
   simp [h16,e16,h17,e17,hu,hu2]
theorem TL {f : JO} (hf : KP f) {x : JL} (hx : x ∈ f.Code) {s : List Int} (hs : KI f.Slots.length s) :
  KI f.Slots.length (inN x s) ∧ ∀ v,v ∈ inN x s ↔ (v ∈ s ∧ ¬ ((x.Op = 16 ∨ x.Op = 17) ∧ x.A = v)) ∨ v ∈ Mp x:=by
 have hsl:=hf.slots
 have h0 : KI f.Slots.length (if x.Op = 16 ∨ x.Op = 17 then s.filter (· != x.A) else s):=by
  split
  ·exact ⟨hs.1.filter _,fun v hv=>hs.2 v (List.mem_filter.1 hv).1⟩
  ·exact hs
 obtain ⟨h1,h2⟩:=QQ (n:=f.Slots.length) (by omega) (b:=Mp x) h0 (hf.uses x hx)
 refine ⟨h1,fun v=>?_⟩
 unfold inN
 rw [h2]
 by_cases hd : x.Op = 16 ∨ x.Op = 17
 ·simp only [hd,if_true,List.mem_filter,true_and]
  constructor
  ·rintro (⟨h3,h4⟩ | h3)
   ·exact .inl ⟨h3,fun e=>by simp [e] at h4⟩
   ·exact .inr h3
  ·rintro (⟨h3,h4⟩ | h3)
   ·exact .inl ⟨h3,by simpa using fun e : v = x.A=>h4 e.symm⟩
   ·exact .inr h3
 ·simp [hd]
def JW (f : JO) (j : Int) : JL:=(f.Code[j.toNat]?).getD default
def Ke (l : List (List Int)) (j : Int) : List Int:=(l[j.toNat]?).getD []
def Re (f : JO) (l : List (List Int)) (k : Int) : List Int:=(Mg (JW f k) k).foldl (fun o j=>Ma o (inN (JW f j) (Ke l j))) []
def Nf (f : JO) (l : List (List Int)) : List (List Int):=(List.range f.Code.length).map fun k=>Re f l (k : Nat)
def Nk (f : JO) (l : List (List Int)) : Prop:=l.length = f.Code.length ∧ ∀ s ∈ l,KI f.Slots.length s
theorem Abu {f : JO} (hf : KP f) {l : List (List Int)} (hl : Nk f l) : ∀ {js : List Int} {o : List Int},(∀ j ∈ js,0 ≤ j ∧ j < f.Code.length) → KI f.Slots.length o →
  KI f.Slots.length (js.foldl (fun o j=>Ma o (inN (JW f j) (Ke l j))) o) ∧ ∀ v,v ∈ js.foldl (fun o j=>Ma o (inN (JW f j) (Ke l j))) o ↔ v ∈ o ∨ ∃ j ∈ js,v ∈ inN (JW f j) (Ke l j)
 | [],o,_,ho=>⟨ho,fun v=>by simp⟩
 | j :: js,o,hj,ho=>by
  have hsl:=hf.slots
  have h0:=hj j (List.mem_cons_self ..)
  have hc : JW f j ∈ f.Code:=by
   unfold JW
   rw [List.getElem?_eq_getElem (show j.toNat < f.Code.length by omega)]
   exact List.getElem_mem _
  have ho' : KI f.Slots.length (Ke l j):=by
   unfold Ke
   rw [List.getElem?_eq_getElem (show j.toNat < l.length by have:=hl.1; omega)]
   exact hl.2 _ (List.getElem_mem _)
  obtain ⟨h1,h2⟩:=TL hf hc ho'
  obtain ⟨h3,h4⟩:=QQ (n:=f.Slots.length) (by omega) (b:=inN (JW f j) (Ke l j)) ho fun x hx=>⟨(h1.1.2 x hx).1,h1.2 x hx⟩
  obtain ⟨h5,h6⟩:=Abu hf hl (fun q hq=>hj q (List.mem_cons_of_mem _ hq)) h3
  refine ⟨h5,fun v=>?_⟩
  simp only [List.foldl_cons]
  rw [h6,h4]
  simp only [List.mem_cons,exists_eq_or_imp,or_assoc]
theorem Te {f : JO} (hf : KP f) {l : List (List Int)} (hl : Nk f l) {k : Nat} (hk : k < f.Code.length) :
  KI f.Slots.length (Re f l k) ∧ ∀ v,v ∈ Re f l k ↔ ∃ j ∈ Mg (JW f k) k,v ∈ inN (JW f j) (Ke l j):=by
 have hx : f.Code[k]? = some (JW f k):=by simp [JW,hk]
 obtain ⟨h1,h2⟩:=Abu hf hl (js:=Mg (JW f k) k) (hf.next k _ hx) (KI.nil _)
 exact ⟨h1,fun v=>by unfold Re; rw [h2]; simp⟩
theorem AbJ {f : JO} (hf : KP f) {l : List (List Int)} (hl : Nk f l) : Nk f (Nf f l):=by
 refine ⟨by simp [Nf],fun s hs=>?_⟩
 obtain ⟨k,hk,rfl⟩:=List.mem_map.1 hs
 exact (Te hf hl (List.mem_range.1 hk)).1
theorem step_eq {f : JO} (hf : KP f) {l : List (List Int)} (hl : Nk f l) : SA f ⟨l⟩ = some ⟨Nf f l⟩:=by
 have hlen:=hf.len'
 unfold SA
 rw [Kx (by omega)]
 have key : Hs (Ks (fun s : List (List Int) × Int=>Pm f ⟨l⟩ s.1 s.2) (List.replicate (f.Code.length : Int).toNat ([] : List Int),0)) fun r=>r = ⟨Nf f l⟩:=by
  refine Hs.loop (fun s=>s.1.length = f.Code.length ∧ ∃ k : Nat,s.2 = (k : Int) ∧ k ≤ f.Code.length ∧ ∀ (j : Nat) r,s.1[j]? = some r → r = if j < k then Re f l j else []) (fun s=>f.Code.length - s.2.toNat) ⟨by simp,0,rfl,Nat.zero_le _,fun j r hj=>?_⟩ ?_
  ·have:=List.mem_of_getElem? hj
   rw [List.mem_replicate] at this
   simp [this.2]
  rintro ⟨x,k'⟩ ⟨hxl,k,hke,hk,hall⟩
  simp only at hxl hke hall
  subst hke
  by_cases hlt : k < f.Code.length
  ·have w:=Kq (show k < 9223372036854775807 by omega)
   have hx : f.Code[k]? = some (JW f k):=by simp [JW,hlt]
   have hxk : x[k]? = some []:=by
    have h1 : x[k]? = some (x[k]'(by omega)):=List.getElem?_eq_getElem _
    have:=hall k _ h1
    rw [h1,this,if_neg (by omega)]
   have hset : x.set k [] = x:=by
    obtain ⟨h1,h2⟩:=List.getElem?_eq_some_iff.1 hxk
    rw [← h2]; exact List.set_getElem_self h1
   have inner:=NV (body:=fun s : List (List Int) × Int=>Pn (Mg (JW f k) k) k f ⟨l⟩ s.1 s.2) (Mg (JW f k) k) (fun (o : List Int) i=>(x.set k o,i)) (fun o _=>KI f.Slots.length o)
    (fun o js=>some (.inl (x.set k (js.foldl (fun o j=>Ma o (inN (JW f j) (Ke l j))) o),((k + 1 : Nat) : Int))))
    (fun o _=>⟨_,by simp [Pn,Tm,w]; rfl,by simp⟩) (fun o i j r ho hd hi hj=>by
     left
     have wi:=Kq (show i < 9223372036854775807 by
      have : (Mg (JW f k) k).length ≤ 2:=by unfold Mg; (repeat' split) <;> simp
      omega)
     have hjm:=hf.next k _ hx j (List.mem_of_getElem? hj)
     have hjc : f.Code[j.toNat]? = some (JW f j):=by simp [JW,show j.toNat < f.Code.length by omega]
     have hjl : j.toNat < l.length:=by have:=hl.1; omega
     have hjo : l[j.toNat]? = some (Ke l j):=by simp [Ke,hjl]
     have hos : KI f.Slots.length (Ke l j):=hl.2 _ (List.mem_of_getElem? hjo)
     have hsl:=hf.slots
     obtain ⟨g1,g2⟩:=TL hf (List.mem_of_getElem? hjc) hos
     obtain ⟨g3,g4⟩:=QQ (n:=f.Slots.length) (by omega) (b:=inN (JW f j) (Ke l j)) ho fun x hx=>⟨(g1.1.2 x hx).1,g1.2 x hx⟩
     have e1:=AhQ (JW f j) (Ke l j) (by have:=hos.1.length_le; omega)
     have e2:=union_eq o (inN (JW f j) (Ke l j)) (by have:=ho.1.length_le; have:=g1.1.length_le; omega)
     obtain ⟨_,hje⟩:=List.getElem?_eq_some_iff.1 hj
     refine ⟨Ma o (inN (JW f j) (Ke l j)),g3,?_,by simp⟩
     simp [Pn,hi,hje,hxl,hlt,Ye _ hjm.1,hjc,hjo,e1,e2,wi]) [] (KI.nil _)
   simp only [hset] at inner
   refine ⟨.inl (x.set k (Re f l k),((k + 1 : Nat) : Int)),?_,⟨by simpa using hxl,k + 1,rfl,hlt,fun j r hj=>?_⟩,by simp only; omega⟩
   ·simp only [Pm,decide_eq_true (Int.ofNat_lt.2 hlt),cond_true,Aey hx (by omega),Option.bind_some]
    exact inner
   ·simp only at hj
    by_cases e : k = j
    ·subst e
     rw [List.getElem?_set_self (by omega)] at hj
     obtain rfl:=Option.some.inj hj
     rw [if_pos (by omega)]
    ·rw [List.getElem?_set_ne e] at hj
     rw [hall j r hj]
     by_cases e2 : j < k
     ·rw [if_pos e2,if_pos (by omega)]
     ·rw [if_neg e2,if_neg (by omega)]
  ·refine ⟨.inr ⟨x⟩,by simp [Pm,hlt],?_⟩
   show JV.mk x = ⟨Nf f l⟩
   congr 1
   refine List.ext_getElem (by simp [Nf,hxl]) fun j h1 h2=>?_
   have:=hall j _ (List.getElem?_eq_getElem h1)
   rw [this,if_pos (by omega)]
   simp [Nf]
 obtain ⟨r,h1,rfl⟩:=key
 exact h1
def LE (a b : List (List Int)) : Prop:=∀ (k : Nat) s t,a[k]? = some s → b[k]? = some t → ∀ v ∈ s,v ∈ t
theorem LE.trans {a b c : List (List Int)} (h1 : LE a b) (h2 : LE b c) (hl : a.length = b.length) : LE a c:=by
 intro k s t hs ht v hv
 have hk:=(List.getElem?_eq_some_iff.1 hs).1
 have hb : b[k]? = some (b[k]'(by omega)):=List.getElem?_eq_getElem _
 exact h2 k _ t hb ht v (h1 k s _ hs hb v hv)
theorem Adb : ∀ {a b : List (List Int)},a.length = b.length → (∀ s ∈ a,KE s) → (∀ s ∈ b,KE s) → LE a b → (a.map List.length).sum ≤ (b.map List.length).sum ∧ ((a.map List.length).sum = (b.map List.length).sum → a = b)
 | [],[],_,_,_,_=>⟨Nat.le_refl _,fun _=>rfl⟩
 | [],y :: b,h,_,_,_=>by simp at h
 | x :: a,[],h,_,_,_=>by simp at h
 | x :: a,y :: b,h,ha,hb,hle=>by
  have hsub:=(ha x (List.mem_cons_self ..)).sub (hb y (List.mem_cons_self ..)) (hle 0 x y rfl rfl)
  obtain ⟨h1,h2⟩:=Adb (a:=a) (b:=b) (by simpa using h) (fun s hs=>ha s (List.mem_cons_of_mem _ hs)) (fun s hs=>hb s (List.mem_cons_of_mem _ hs)) fun k s t hs ht=>hle (k + 1) s t (by simpa using hs) (by simpa using ht)
  have hlen:=hsub.length_le
  simp only [List.map_cons,List.sum_cons]
  refine ⟨by omega,fun he=>?_⟩
  rw [h2 (by omega),hsub.eq_of_length (by omega)]
theorem AaN : ∀ {a : List (List Int)},(∀ s ∈ a,KE s) → (a.map List.length).sum ≤ 512 * a.length
 | [],_=>by simp
 | x :: a,ha=>by
  have h1:=(ha x (List.mem_cons_self ..)).length_le
  have h2:=AaN (a:=a) fun s hs=>ha s (List.mem_cons_of_mem _ hs)
  simp only [List.map_cons,List.sum_cons,List.length_cons]
  omega
theorem Aeq {f : JO} (hf : KP f) {x : JL} (hx : x ∈ f.Code) {s t : List Int} (hs : KI f.Slots.length s) (ht : KI f.Slots.length t) (h : ∀ v ∈ s,v ∈ t) : ∀ v ∈ inN x s,v ∈ inN x t:=by
 intro v hv
 rw [(TL hf hx hs).2] at hv
 rw [(TL hf hx ht).2]
 rcases hv with ⟨h1,h2⟩ | h1
 ·exact .inl ⟨h v h1,h2⟩
 ·exact .inr h1
theorem AaM {f : JO} (hf : KP f) {a b : List (List Int)} (ha : Nk f a) (hb : Nk f b) (h : LE a b) : LE (Nf f a) (Nf f b):=by
 intro k s t hs ht v hv
 have hk : k < f.Code.length:=by have:=(List.getElem?_eq_some_iff.1 hs).1; simpa [Nf] using this
 have e1 : s = Re f a k:=by simp [Nf,hk] at hs; exact hs.symm
 have e2 : t = Re f b k:=by simp [Nf,hk] at ht; exact ht.symm
 subst e1 e2
 rw [(Te hf ha hk).2] at hv
 rw [(Te hf hb hk).2]
 obtain ⟨j,hj,hv⟩:=hv
 have hx : f.Code[k]? = some (JW f k):=by simp [JW,hk]
 have hjm:=hf.next k _ hx j hj
 have hjc : f.Code[j.toNat]? = some (JW f j):=by simp [JW,show j.toNat < f.Code.length by omega]
 have hja : a[j.toNat]? = some (Ke a j):=by simp [Ke,show j.toNat < a.length by have:=ha.1; omega]
 have hjb : b[j.toNat]? = some (Ke b j):=by simp [Ke,show j.toNat < b.length by have:=hb.1; omega]
 exact ⟨j,hj,Aeq hf (List.mem_of_getElem? hjc) (ha.2 _ (List.mem_of_getElem? hja)) (hb.2 _ (List.mem_of_getElem? hjb)) (h _ _ _ hja hjb) v hv⟩
structure Aau (f : JO) (l : List (List Int)) : Prop where
 ok : Nk f l
 fix : Nf f l = l
 least : ∀ b,Nk f b → LE (Nf f b) b → LE l b
theorem AbF {f : JO} (hf : KP f) : Hs (PO f) fun l=>Aau f l.Out:=by
 have hlen:=hf.len'
 unfold PO
 refine .chk (by omega) ?_
 refine Hs.loop (fun l=>Nk f l ∧ LE l (Nf f l) ∧ ∀ b,Nk f b → LE (Nf f b) b → LE l b) (fun l=>512 * f.Code.length - (l.map List.length).sum) ⟨⟨by simp,fun s hs=>?_⟩,fun k s t hs ht v hv=>?_,fun b _ _ k s t hs ht v hv=>?_⟩ ?_
 ·rw [List.mem_replicate] at hs; rw [hs.2]; exact KI.nil _
 ·have:=List.mem_of_getElem? hs; rw [List.mem_replicate] at this; rw [this.2] at hv; cases hv
 ·have:=List.mem_of_getElem? hs; rw [List.mem_replicate] at this; rw [this.2] at hv; cases hv
 ·rintro l ⟨hl,hle,hleast⟩
  have hl':=AbJ hf hl
  have e1:=step_eq hf hl
  have e2 : Sy ⟨Nf f l⟩ ⟨l⟩ = some (decide (Nf f l = l)):=by
   unfold Sy
   rw [AcD _ _ (by have:=hl'.1; simp only; omega) (fun s hs=>by have:=(hl'.2 s hs).1.length_le; omega)]
   rfl
  obtain ⟨s1,s2⟩:=Adb (by rw [hl.1,hl'.1]) (fun s hs=>(hl.2 s hs).1) (fun s hs=>(hl'.2 s hs).1) hle
  have s3:=AaN fun s hs=>(hl'.2 s hs).1
  rw [hl'.1] at s3
  unfold Sz
  rw [e1,Option.bind_some,e2,Option.bind_some]
  by_cases he : Nf f l = l
  ·simp only [he,decide_true,cond_true]
   exact .lft (.pure ⟨hl,he,hleast⟩)
  ·simp only [he,decide_false,cond_false]
   refine .cnt ⟨⟨hl',AaM hf hl hl' hle,fun b hb hb'=>(AaM hf hl hb (hleast b hb hb')).trans hb' (by rw [hl'.1,(AbJ hf hb).1])⟩,?_⟩
   have : (l.map List.length).sum ≠ ((Nf f l).map List.length).sum:=fun e=>he (s2 e).symm
   simp only
   omega
end Go.Proofs.YtcelninhkmhjkaaDoor
namespace Go.Proofs.YtcelninhkmhjkaaDoor
open Go Go.Dw Go.Proofs
attribute [local simp] Kx Bool.cond_eq_ite
theorem Aen (x : JL) : PK x = some (Mp x):=by
 obtain ⟨op,a,b,c,i⟩:=x
 unfold PK Mp
 by_cases h15 : op = 15
 ·simp [h15]
 ·have e15 : (op == 15) = false:=by simpa using h15
  by_cases h17 : op = 17
  ·simp [h17]
  ·have e17 : (op == 17) = false:=by simpa using h17
   simp [h15,e15,h17,e17]
theorem Aax (x : JL) : MN x = some (if x.Op = 16 ∨ x.Op = 17 then (x.A,true) else (0,false)):=by
 obtain ⟨op,a,b,c,i⟩:=x
 unfold MN
 by_cases h16 : op = 16
 ·simp [h16]
 ·have e16 : (op == 16) = false:=by simpa using h16
  by_cases h17 : op = 17
  ·simp [h17]
  ·have e17 : (op == 17) = false:=by simpa using h17
   simp [h16,e16,h17,e17]
theorem AfB (x : JL) : (Mp x).length ≤ 1:=by unfold Mp; split <;> simp
theorem Adh (x : JL) (hu : ∀ v ∈ Mp x,0 ≤ v ∧ v < 512) : Ma [] (Mp x) = Mp x:=by
 unfold Mp at hu ⊢
 split
 ·rename_i h
  rw [if_pos h] at hu
  have:=hu x.B (by simp)
  simp [Ma,Oo,Pe,this]
 ·rfl
theorem AhG {x : JL} {s : List Int} (hs : KE s) (hu : ∀ v ∈ Mp x,0 ≤ v ∧ v < 512) : TI x s = some (inN x s):=by
 have hl:=AfB x
 have h1:=Adj hu (by omega)
 rw [Adh x hu] at h1
 have h2:=Abk hs x.A
 have h3:=XN (hs.filter (· != x.A)) hu (by omega)
 have h4:=XN hs hu (by omega)
 unfold TI inN
 rw [Aax,Option.bind_some,Aen]
 by_cases h : x.Op = 16 ∨ x.Op = 17
 ·simp only [h,if_true,cond_true,Option.bind_some,h1,h2,h3]
 ·simp only [h,if_false,cond_false,Option.bind_some,h1,h4]
theorem AbN {a b : List Int} (ha : KE a) (hb : KE b) : ON a b = some (a.filter fun v=>!decide (v ∈ b)):=by
 obtain ⟨r,h1,h2⟩:=AbO a b (by have:=ha.length_le; omega) (by have:=hb.length_le; omega)
 rw [h1,h2.eq (OA.Aao (ha.filter fun v=>!decide (v ∈ b))) fun v _ _=>by simp [List.mem_filter]]
end Go.Proofs.YtcelninhkmhjkaaDoor
namespace Go.Proofs.YtcelninhkmhjkaaDoor
open Go Go.Dw Go.Proofs
attribute [local simp] Kx Bool.cond_eq_ite
theorem ZL : Lib.compact ([] : List Int) = []:=by simp [Lib.compact,Lib.compactUpTo]
theorem ZM (a : Int) : Lib.compact [a] = [a]:=by simp [Lib.compact,Lib.compactUpTo,List.range_succ,Lib.keeps]
theorem XO (a b : Int) : Lib.compact [a,b] = if a = b then [a] else [a,b]:=by
 by_cases h : a = b
 ·subst h; simp [Lib.compact,Lib.compactUpTo,List.range_succ,Lib.keeps]
 ·have h' : ¬ b = a:=fun e=>h e.symm
  simp [Lib.compact,Lib.compactUpTo,List.range_succ,Lib.keeps,h,h']
theorem AbI (a : Int) : LL [a] = [a]:=by simp [LL]
theorem AbH : LL [] = []:=by simp [LL]
theorem AeA (a b : Int) : LL [a,b] = if a ≤ b then [a,b] else [b,a]:=by
 unfold LL List.mergeSort
 by_cases h : a ≤ b <;> simp [List.MergeSort.Internal.splitInTwo,h]
theorem Aep {f : JO} {k : Nat} {x : JL} (h : f.Code[k]? = some x) (hk : k < 9223372036854775807) : TJ f (k : Int) = some (Mg x k):=by
 obtain ⟨hl,hx⟩:=List.getElem?_eq_some_iff.1 h
 have hnl : ¬ f.Code.length ≤ k:=by omega
 have w : IntKind.i64.wrap ((k : Int) + 1) = (k : Int) + 1:=wrap64 (by omega) (by omega)
 unfold TJ Uf Sc Mg Ql
 obtain ⟨op,a,b,c,i⟩:=x
 by_cases h20 : op = 20
 ·subst h20; simp [hx,hl,hnl,show ¬ (k : Int) < 0 by omega,AbI,ZM]
 ·have e20 : (op == 20) = false:=by simpa using h20
  by_cases h23 : op = 23
  ·subst h23; simp [hx,hl,hnl,show ¬ (k : Int) < 0 by omega,AbH,ZL]
  ·have e23 : (op == 23) = false:=by simpa using h23
   by_cases h24 : op = 24
   ·subst h24; simp [hx,hl,hnl,show ¬ (k : Int) < 0 by omega,AbH,ZL]
   ·have e24 : (op == 24) = false:=by simpa using h24
    by_cases h21 : op = 21
    ·subst h21
     simp [hx,hl,hnl,show ¬ (k : Int) < 0 by omega,w,AeA]
     by_cases hb : b < (k : Int) + 1
     ·simp [hb,show ¬ (k : Int) + 1 ≤ b by omega,XO,show ¬ b = (k : Int) + 1 by omega]
     ·by_cases hb' : (k : Int) + 1 < b
      ·simp [hb,hb',show (k : Int) + 1 ≤ b by omega,XO,show ¬ (k : Int) + 1 = b by omega]
      ·simp [XO,show (k : Int) + 1 = b by omega]
    ·have e21 : (op == 21) = false:=by simpa using h21
     simp [hx,hl,hnl,show ¬ (k : Int) < 0 by omega,w,e24,h20,h23,h24,h21,AbI,ZM]
end Go.Proofs.YtcelninhkmhjkaaDoor
namespace Go.Proofs.YtcelninhkmhjkaaDoor
open Go Go.Dw Go.Proofs
attribute [local simp] Kx
theorem Aes {s : List Int} (hs : s.Pairwise (· < ·)) {n : Int} {h : s.length - 1 < s.length} (hl : s[s.length - 1] < n) : ∀ v ∈ s,v < n:=by
 intro v hv
 obtain ⟨i,hi,rfl⟩:=List.getElem_of_mem hv
 by_cases e : i = s.length - 1
 ·subst e; exact hl
 ·have:=List.pairwise_iff_getElem.1 hs i (s.length - 1) hi h (by omega)
  omega
theorem AeC (s : List Int) (f : JO) (hs : s.length ≤ maxLen) : Hs (LP s f) fun b=>(b = false ↔ KI f.Slots.length s):=by
 have hm : maxLen ≤ 9223372036854775807:=by decide
 unfold LP
 rw [AcJ s (by omega),Option.bind_some]
 by_cases hc : TT none s = true
 ·have hset:=(AbV s).1 hc
  rw [hc]
  simp only [Bool.not_true,cond_false]
  refine .dec (fun hp=>?_) fun hp=>?_
  ·have hp : 0 < s.length:=by omega
   have hi : s.length - 1 < s.length:=by omega
   have w : IntKind.i64.wrap ((s.length : Int) - 1) = ((s.length - 1 : Nat) : Int):=by rw [wrap64 (by omega) (by omega)]; omega
   rw [w,Pk,List.getElem?_eq_getElem hi,Option.bind_some]
   refine .pure ⟨fun h=>⟨hset,Aes hset.1 (h:=hi) (by simpa using h)⟩,fun h=>?_⟩
   have:=h.2 _ (List.getElem_mem hi)
   simp; omega
  ·have : s = []:=List.length_eq_zero_iff.1 (by omega)
   subst this
   exact .pure ⟨fun _=>KI.nil _,fun _=>rfl⟩
 ·have hc' : TT none s = false:=by simpa using hc
  rw [hc']
  simp only [Bool.not_false,cond_true]
  exact .pure ⟨fun h=>(by cases h),fun h=>(hc ((AbV s).2 h.1)).elim⟩
theorem AaG (f : JO) (l : JV) (hl : l.Out.length ≤ maxLen) (hr : ∀ s ∈ l.Out,s.length ≤ maxLen) : Hs (ME f l) fun b=>(b = true ↔ Nk f l.Out):=by
 have hm : maxLen ≤ 9223372036854775807:=by decide
 unfold ME
 refine .beq (fun he=>?_) fun hne=>.pure ⟨fun h=>(by cases h),fun h=>(hne (by rw [h.1])).elim⟩
 have he : l.Out.length = f.Code.length:=by omega
 have key : Hs (KH l.Out f) fun i=>(0 ≤ i ↔ ¬ ∀ s ∈ l.Out,KI f.Slots.length s):=by
  unfold KH
  refine Hs.loop (fun i=>∃ k : Nat,i = (k : Int) ∧ k ≤ l.Out.length ∧ ∀ (j : Nat) s,j < k → l.Out[j]? = some s → KI f.Slots.length s) (fun i=>l.Out.length - i.toNat) ⟨0,rfl,Nat.zero_le _,fun j s h=>absurd h (Nat.not_lt_zero _)⟩ ?_
  rintro _ ⟨k,rfl,hk,hall⟩
  unfold Lo
  refine .dec (fun hlt=>?_) fun hge=>?_
  ·have hlt : k < l.Out.length:=by omega
   rw [Pk,List.getElem?_eq_getElem hlt,Option.bind_some]
   refine (AeC _ f (hr _ (List.getElem_mem hlt))).bind fun b hb=>.cond (fun h=>?_) fun h=>?_
   ·refine .lft (.pure ⟨fun _ hh=>?_,fun _=>by omega⟩)
    have:=hb.2 (hh _ (List.getElem_mem hlt))
    rw [h] at this; cases this
   ·rw [Kq (by omega)]
    refine .cnt ⟨⟨k + 1,rfl,hlt,fun j s hj hs=>?_⟩,by simp only; omega⟩
    by_cases e : j = k
    ·subst e
     rw [List.getElem?_eq_getElem hlt] at hs
     cases hs
     exact hb.1 h
    ·exact hall j s (by omega) hs
  ·refine .lft (.pure ⟨fun h=>by omega,fun h=>(h fun s hs=>?_).elim⟩)
   obtain ⟨j,hj⟩:=List.getElem?_of_mem hs
   exact hall j s (by have:=(List.getElem?_eq_some_iff.1 hj).1; omega) hj
 unfold KL
 refine Hs.bind (P:=fun b=>(b = true ↔ ¬ ∀ s ∈ l.Out,KI f.Slots.length s)) (key.bind fun i hi=>.pure (by simpa using hi)) fun b hb=>.pure ?_
 constructor
 ·intro h
  have hb' : b = false:=by simpa using h
  refine ⟨he,fun s hs=>?_⟩
  refine Classical.byContradiction fun hn=>?_
  have:=hb.2 fun hh=>hn (hh s hs)
  rw [hb'] at this; cases this
 ·intro h
  have : ¬ b = true:=fun hbt=>hb.1 hbt h.2
  simpa using this
def RM (f : JO) (l : List (List Int)) (k : Int) : List Int :=
 (Mg (JW f k) k).foldl (fun o j=>Ma o ((inN (JW f j) (Ke l j)).filter fun v=>!decide (v ∈ Ke l k))) []
theorem Nk.at {f : JO} {l : List (List Int)} (h : Nk f l) {j : Int} (h0 : 0 ≤ j) (h1 : j < f.Code.length) : l[j.toNat]? = some (Ke l j) ∧ KI f.Slots.length (Ke l j):=by
 have hl : j.toNat < l.length:=by have:=h.1; omega
 have : l[j.toNat]? = some (Ke l j):=by simp [Ke,hl]
 exact ⟨this,h.2 _ (List.mem_of_getElem? this)⟩
theorem KP.at {f : JO} (_h : KP f) {j : Int} (h0 : 0 ≤ j) (h1 : j < f.Code.length) : f.Code[j.toNat]? = some (JW f j) ∧ JW f j ∈ f.Code:=by
 have : f.Code[j.toNat]? = some (JW f j):=by simp [JW,show j.toNat < f.Code.length by omega]
 exact ⟨this,List.mem_of_getElem? this⟩
theorem KP.AfA {f : JO} (h : KP f) {x : JL} (hx : x ∈ f.Code) : ∀ v ∈ Mp x,0 ≤ v ∧ v < 512:=fun v hv=>by have:=h.uses x hx v hv; have:=h.slots; omega
theorem AaK {f : JO} (hf : KP f) {l : List (List Int)} (hl : Nk f l) {k j : Int} (_hk : 0 ≤ k ∧ k < f.Code.length) (hj : 0 ≤ j ∧ j < f.Code.length) {o : List Int} (ho : KI f.Slots.length o) :
  KI f.Slots.length (Ma o ((inN (JW f j) (Ke l j)).filter fun v=>!decide (v ∈ Ke l k))) ∧ ∀ v,v ∈ Ma o ((inN (JW f j) (Ke l j)).filter fun v=>!decide (v ∈ Ke l k)) ↔ v ∈ o ∨ (v ∈ inN (JW f j) (Ke l j) ∧ v ∉ Ke l k):=by
 have hsl:=hf.slots
 obtain ⟨g1,g2⟩:=TL hf (hf.at hj.1 hj.2).2 (hl.at hj.1 hj.2).2
 obtain ⟨g3,g4⟩:=QQ (n:=f.Slots.length) (by omega) (b:=(inN (JW f j) (Ke l j)).filter fun v=>!decide (v ∈ Ke l k)) ho fun x hx=>⟨(g1.1.2 x (List.mem_filter.1 hx).1).1,g1.2 x (List.mem_filter.1 hx).1⟩
 exact ⟨g3,fun v=>by rw [g4]; simp [List.mem_filter]⟩
theorem AaJ {f : JO} (hf : KP f) {l : List (List Int)} (hl : Nk f l) {k : Int} (hk : 0 ≤ k ∧ k < f.Code.length) : ∀ {js : List Int} {o : List Int},(∀ j ∈ js,0 ≤ j ∧ j < f.Code.length) → KI f.Slots.length o →
  KI f.Slots.length (js.foldl (fun o j=>Ma o ((inN (JW f j) (Ke l j)).filter fun v=>!decide (v ∈ Ke l k))) o) ∧ ∀ v,v ∈ js.foldl (fun o j=>Ma o ((inN (JW f j) (Ke l j)).filter fun v=>!decide (v ∈ Ke l k))) o ↔ v ∈ o ∨ ∃ j ∈ js,v ∈ inN (JW f j) (Ke l j) ∧ v ∉ Ke l k
 | [],o,_,ho=>⟨ho,fun v=>by simp⟩
 | j :: js,o,hj,ho=>by
  obtain ⟨h1,h2⟩:=AaK hf hl hk (hj j (List.mem_cons_self ..)) ho
  obtain ⟨h5,h6⟩:=AaJ hf hl hk (fun q hq=>hj q (List.mem_cons_of_mem _ hq)) h1
  refine ⟨h5,fun v=>?_⟩
  simp only [List.foldl_cons]
  rw [h6,h2]
  simp only [List.mem_cons,exists_eq_or_imp,or_assoc]
theorem Yz {f : JO} (hf : KP f) {l : List (List Int)} (hl : Nk f l) {k : Nat} (hk : k < f.Code.length) : KI f.Slots.length (RM f l k) ∧ ∀ v,v ∈ RM f l k ↔ ∃ j ∈ Mg (JW f k) k,v ∈ inN (JW f j) (Ke l j) ∧ v ∉ Ke l k:=by
 have hx : f.Code[k]? = some (JW f k):=by simp [JW,hk]
 obtain ⟨h1,h2⟩:=AaJ hf hl (k:=(k : Int)) ⟨by omega,by omega⟩ (hf.next k _ hx) (KI.nil _)
 exact ⟨h1,fun v=>by unfold RM; rw [h2]; simp⟩
theorem Afs (x : JL) (k : Int) : (Mg x k).length ≤ 2:=by unfold Mg; (repeat' split) <;> simp
theorem Acx {f : JO} (hf : KP f) {l : JV} (hl : Nk f l.Out) {k : Nat} (hk : k < f.Code.length) : KG f k l [] l k = some (true,RM f l.Out k):=by
 have hlen:=hf.len'
 have hx : f.Code[k]? = some (JW f k):=by simp [JW,hk]
 have hn:=hf.next k _ hx
 have h2:=Afs (JW f k) k
 obtain ⟨hk1,hk2⟩:=hl.at (j:=(k : Int)) (by omega) (by omega)
 simp only [Int.toNat_natCast] at hk1
 unfold KG
 rw [Aep hx (by omega),Option.bind_some]
 have:=NV (body:=fun s : List Int × Int=>Kw (Mg (JW f k) k) f l l k s.1 s.2) (Mg (JW f k) k) (fun (o : List Int) i=>(o,i)) (fun o _=>KI f.Slots.length o)
  (fun o js=>some (true,js.foldl (fun o j=>Ma o ((inN (JW f j) (Ke l.Out j)).filter fun v=>!decide (v ∈ Ke l.Out k))) o))
  (fun o _=>⟨_,by simp [Kw]; rfl,by simp⟩) (fun o i j r ho hd hi hj=>by
   left
   have wi:=Kq (show i < 9223372036854775807 by omega)
   have hjm:=hn j (List.mem_of_getElem? hj)
   obtain ⟨c1,c2⟩:=hf.at hjm.1 hjm.2
   obtain ⟨o1,o2⟩:=hl.at hjm.1 hjm.2
   obtain ⟨g1,g2⟩:=AaK hf hl (k:=(k : Int)) ⟨by omega,by omega⟩ hjm ho
   obtain ⟨s1,s2⟩:=TL hf c2 o2
   have hsl:=hf.slots
   have e1:=AhG o2.1 (hf.AfA c2)
   have e2:=AbN s1.1 hk2.1
   have e3:=XN ho.1 (b:=(inN (JW f j) (Ke l.Out j)).filter fun v=>!decide (v ∈ Ke l.Out k)) (fun x hx=>by have:=s1.1.2 x (List.mem_filter.1 hx).1; exact this) (by have:=(s1.1.filter fun v=>!decide (v ∈ Ke l.Out k)).length_le; omega)
   obtain ⟨_,hje⟩:=List.getElem?_eq_some_iff.1 hj
   refine ⟨_,g1,?_,rfl⟩
   simp [Kw,Nt,LK,hi,hje,Ye _ hjm.1,c1,o1,e1,hk1,e2,e3,wi]) [] (KI.nil _)
 exact this
def Abf (f : JO) (l : List (List Int)) (r : Int × Int × Bool) : Prop :=
 (Nk f l ∧ ∃ (k : Nat) (v : Int),k < f.Code.length ∧ (∀ j : Nat,j < k → RM f l j = []) ∧ (RM f l k)[0]? = some v ∧ r = ((k : Int),v,true)) ∨
 ((Nk f l → ∀ j : Nat,j < f.Code.length → RM f l j = []) ∧ r = (0,0,false))
def Acc (f : JO) (l : List (List Int)) : Prop:=Nk f l ∧ ∀ j : Nat,j < f.Code.length → RM f l j = []
theorem Abf.acc {f : JO} {l : List (List Int)} {r : Int × Int × Bool} (h : Abf f l r) (hl : Nk f l) : r.2.2 = false ↔ Acc f l:=by
 rcases h with ⟨h0,i,v,h1,h2,h3,rfl⟩ | ⟨h1,rfl⟩
 ·exact ⟨fun h=>(by cases h),fun h=>by rw [h.2 i h1] at h3; cases h3⟩
 ·exact ⟨fun _=>⟨hl,h1 hl⟩,fun _=>rfl⟩
def Zy (l : List (List Int)) : Prop:=l.length ≤ maxLen ∧ ∀ s ∈ l,s.length ≤ maxLen
theorem Aeo {f : JO} (hf : KP f) {l : JV} (hl : Zy l.Out) : Hs (Og f l) (Abf f l.Out):=by
 have hlen:=hf.len'
 unfold Og
 refine (AaG f l hl.1 hl.2).bind fun b hb=>.cond (fun h=>?_) fun h=>?_
 ·have hb' : ¬ b = true:=by simpa using h
  exact .pure (.inr ⟨fun hh=>(hb' (hb.2 hh)).elim,rfl⟩)
 ·have hb' : b = true:=by simpa using h
  have hok:=hb.1 hb'
  refine Hs.loop (fun i=>∃ k : Nat,i = (k : Int) ∧ k ≤ f.Code.length ∧ ∀ j : Nat,j < k → RM f l.Out j = []) (fun i=>f.Code.length - i.toNat) ⟨0,rfl,Nat.zero_le _,fun j h=>absurd h (Nat.not_lt_zero _)⟩ ?_
  rintro _ ⟨k,rfl,hk,hall⟩
  unfold PA
  refine .dec (fun hlt=>?_) fun hge=>?_
  ·have hlt : k < f.Code.length:=by omega
   rw [show Qh l = some l from rfl,Option.bind_some,Acx hf hok hlt,Option.bind_some]
   refine .dec (fun hp=>?_) fun hp=>?_
   ·have hp : 0 < (RM f l.Out k).length:=by simp only at hp; omega
    simp only [Aer]
    have hg : (RM f l.Out k)[0]? = some ((RM f l.Out k)[0]):=List.getElem?_eq_getElem hp
    rw [hg,Option.bind_some]
    exact .lft (.pure (.inl ⟨hok,k,_,hlt,hall,hg,rfl⟩))
   ·rw [Kq (by omega)]
    refine .cnt ⟨⟨k + 1,rfl,hlt,fun j hj=>?_⟩,by simp only; omega⟩
    by_cases e : j = k
    ·subst e; exact List.length_eq_zero_iff.1 (by simp only at hp; omega)
    ·exact hall j (by omega)
  ·exact .lft (.pure (.inr ⟨fun _ j hj=>hall j (by omega),rfl⟩))
theorem Abm {f : JO} (hf : KP f) {l : JV} (hl : Zy l.Out) : Hs (Nb f l) fun e=>(e = 0 ∨ e = 11) ∧ (e = 0 ↔ Acc f l.Out):=by
 unfold Nb
 refine (AaG f l hl.1 hl.2).bind fun b hb=>.cond (fun h=>?_) fun h=>?_
 ·have hb' : ¬ b = true:=by simpa using h
  exact .pure ⟨.inr rfl,fun h=>by omega,fun h=>(hb' (hb.2 h.1)).elim⟩
 ·have hb' : b = true:=by simpa using h
  refine (Aeo hf hl).bind fun r hr=>.cond (fun h=>.pure ⟨.inr rfl,fun h=>by omega,fun h'=>?_⟩) fun h=>.pure ⟨.inl rfl,fun _=>(hr.acc (hb.1 hb')).1 h,fun _=>rfl⟩
  rw [(hr.acc h'.1).2 h'] at h; cases h
theorem Nk.len {f : JO} (hf : KP f) {l : List (List Int)} (h : Nk f l) : Zy l:=by
 have hm : (100000 : Nat) ≤ maxLen:=by decide
 have:=hf.len'; have:=h.1
 exact ⟨by omega,fun s hs=>by have:=(h.2 s hs).1.length_le; omega⟩
theorem AeH {f : JO} (hf : KP f) {l : List (List Int)} (hl : Nk f l) : Acc f l ↔ LE (Nf f l) l:=by
 constructor
 ·rintro ⟨_,h⟩ k s t hs ht v hv
  have hk : k < f.Code.length:=by have:=(List.getElem?_eq_some_iff.1 ht).1; have:=hl.1; omega
  have e1 : s = Re f l k:=by simp [Nf,hk] at hs; exact hs.symm
  have e2 : t = Ke l k:=by simp [Ke,ht]
  subst e1 e2
  rw [(Te hf hl hk).2] at hv
  obtain ⟨j,hj,hv⟩:=hv
  refine Classical.byContradiction fun hn=>?_
  have : v ∈ RM f l k:=((Yz hf hl hk).2 v).2 ⟨j,hj,hv,hn⟩
  rw [h k hk] at this; cases this
 ·intro h
  refine ⟨hl,fun k hk=>?_⟩
  refine List.eq_nil_iff_forall_not_mem.2 fun v hv=>?_
  obtain ⟨j,hj,h1,h2⟩:=((Yz hf hl hk).2 v).1 hv
  refine h2 (h k (Re f l k) (Ke l k) (by simp [Nf,hk]) ?_ v (((Te hf hl hk).2 v).2 ⟨j,hj,h1⟩))
  have:=(hl.at (j:=(k : Int)) (by omega) (by omega)).1
  simpa using this
theorem Acc.mem {f : JO} (hf : KP f) {l : List (List Int)} (h : Acc f l) {k : Nat} (hk : k < f.Code.length) {j v : Int} (hj : j ∈ Mg (JW f k) k) (hv : v ∈ inN (JW f j) (Ke l j)) : v ∈ Ke l k:=by
 refine Classical.byContradiction fun hn=>?_
 have : v ∈ RM f l k:=((Yz hf h.1 hk).2 v).2 ⟨j,hj,hv,hn⟩
 rw [h.2 k hk] at this; cases this
theorem Aau.acc {f : JO} (hf : KP f) {l : List (List Int)} (h : Aau f l) : Acc f l:=by
 rw [AeH hf h.ok,h.fix]
 intro k s t hs ht v hv
 rw [hs] at ht; cases ht; exact hv
end Go.Proofs.YtcelninhkmhjkaaDoor
namespace Go.Proofs.YtcelninhkmhjkaaDoor
open Go Go.Dw Go.Proofs
def I64 (v : Int) : Prop:=-9223372036854775808 ≤ v ∧ v ≤ 9223372036854775807
theorem Afm (n : Int) : I64 (IntKind.i64.wrap n):=by
 unfold I64; simp [IntKind.wrap,IntKind.signed,IntKind.bits]; omega
theorem AcW {c : JJ} (h : okC c) : Hs (Nx c) fun p=>okC p.2 ∧ I64 p.1:=by
 unfold Nx
 refine (Kj h (by omega) (by omega)).bind fun r hr=>.beq (fun _=>?_) fun _=>?_
 ·refine (Kj hr.1 (by simp) (by simp)).bind fun q hq=>.chk ?_ ?_
  ·simp at hq; simp; omega
  ·refine (Hs.get hq.2.1 (by simpa using hq.2.2) fun x hx=>List.mem_of_getElem? hx).bind fun x hx=>.pure ⟨hq.1,?_⟩
   simp at hx
   unfold I64
   simp only
   omega
 ·exact (Kj hr.1 (by omega) (by omega)).bind fun q hq=>(Kj hq.1 (by omega) (by omega)).bind fun u hu=>.chk hu.2.1 (.pure ⟨hu.1,Afm _⟩)
def WQ (l : List (List Int)) : Prop:=∀ s ∈ l,s.length ≤ 512 ∧ ∀ v ∈ s,I64 v
def RP (l : List (List Int)) : Prop:=∀ s ∈ l,KE s
theorem RP.rows {l : List (List Int)} (h : RP l) : WQ l:=fun s hs=>⟨(h s hs).length_le,fun v hv=>by have:=(h s hs).2 v hv; unfold I64; omega⟩
theorem RP.set {l : List (List Int)} (h : RP l) {k : Nat} {s : List Int} (hs : KE s) : RP (l.set k s):=by
 intro t ht
 rcases List.mem_or_eq_of_mem_set ht with h1 | rfl
 ·exact h t h1
 ·exact hs
theorem KE.add {s : List Int} (h : KE s) (n : Int) : KE (Oo n s):=by
 unfold Oo
 split
 ·exact h.Pe (by assumption)
 ·exact h
theorem Afo {c : JJ} (h : okC c) {f : JO} (hf : KP f) : Hs (NZ c f) fun p=>okC p.2 ∧ p.1.Out.length ≤ f.Code.length ∧ WQ p.1.Out:=by
 have hlen:=hf.len
 have hlen':=hf.len'
 have hsl:=hf.slots
 unfold NZ
 refine (AbF hf).bind fun l hl=>(Kj h (by omega) (by omega)).bind fun r hr=>.beq (fun _=>?_) fun _=>?_
 ·exact .pure ⟨hr.1,by have:=hl.ok.1; simp only; omega,RP.rows fun s hs=>(hl.ok.2 s hs).1⟩
 ·refine .chk (by have:=hl.ok.1; simp; omega) ((Kj hr.1 (by omega) (by omega)).bind fun q hq=>?_)
  have j1 : ∀ {l : List Int} {a : Int} {x : List (List Int)},okC ⟨l,a⟩ → x.length = f.Code.length → RP x → Hs (MG l a x) fun p=>okC p.2 ∧ p.1.Out.length ≤ f.Code.length ∧ WQ p.1.Out:=by
   intro l a x hc hx hs
   unfold MG
   refine (Kj hc (by omega) (by omega)).bind fun r hr=>.beq (fun _=>?_) fun _=>.beq (fun _=>?_) fun _=>?_
   ·refine .chk (by omega) (.pure ⟨hr.1,by simp; omega,fun s hm=>hs.rows s (List.mem_of_mem_drop hm)⟩)
   ·refine (AcW hr.1).bind fun u hu=>(AcW hu.1).bind fun v hv=>.chk (by omega) ((Hs.get (by omega) (by omega) fun x hx=>hx).bind fun _ _=>.pure ⟨hv.1,by simp; omega,fun s hm=>?_⟩)
    rcases List.mem_or_eq_of_mem_set hm with h1 | rfl
    ·exact hs.rows s h1
    ·refine ⟨by simp,fun w hw=>?_⟩
     simp at hw
     rcases hw with rfl | rfl
     ·exact hu.2
     ·exact hv.2
   ·exact .pure ⟨hr.1,by simp only; omega,hs.rows⟩
  refine Hs.loop (fun s=>okC ⟨s.1,s.2.1⟩ ∧ s.2.2.1.length = f.Code.length ∧ RP s.2.2.1 ∧ 0 ≤ s.2.2.2 ∧ s.2.2.2 < 4) (fun s=>s.2.2.2.toNat) ⟨hq.1,by simpa using hl.ok.1,fun s hs=>(hl.ok.2 s (by simpa using hs)).1,hq.2⟩ ?_
  rintro ⟨l,a,x,n⟩ ⟨hc,hx,hs,hn0,hn1⟩
  simp only at hc hx hs hn0 hn1
  have w : IntKind.i64.wrap (n - 1) = n - 1:=wrap64 (by omega) (by omega)
  unfold Pt
  refine .dec (fun hlt=>.dec (fun hsl0=>?_) fun _=>.lft (j1 hc hx hs)) fun _=>.lft (j1 hc hx hs)
  have hlt : 0 < n:=hlt
  unfold Pv
  have j4 : ∀ {l : List Int} {a : Int} {y : List (List Int)},okC ⟨l,a⟩ → y.length = f.Code.length → RP y → Hs (LU n l a y) (Rnd (fun s : List Int × Int × List (List Int) × Int=>okC ⟨s.1,s.2.1⟩ ∧ s.2.2.1.length = f.Code.length ∧ RP s.2.2.1 ∧ 0 ≤ s.2.2.2 ∧ s.2.2.2 < 4) (fun s=>s.2.2.2.toNat) (‹List Int›,‹Int›,x,n) (fun p : JV × JJ=>okC p.2 ∧ p.1.Out.length ≤ f.Code.length ∧ WQ p.1.Out)):=by
   intro l a y hc hy hs
   unfold LU
   exact .cnt ⟨⟨hc,hy,hs,by simp only [w]; omega,by simp only [w]; omega⟩,by simp only [w]; omega⟩
  refine (Kj hc (by omega) (by omega)).bind fun u hu=>(Kj hu.1 (by omega) (by omega)).bind fun v hv=>.beq (fun _=>?_) fun _=>?_
  ·refine Hs.loop (fun s=>s.1.length = f.Code.length ∧ RP s.1 ∧ 0 ≤ s.2 ∧ s.2 ≤ f.Code.length) (fun s=>f.Code.length - s.2.toNat) ⟨hx,hs,by simp,by simp⟩ ?_
   rintro ⟨y,k⟩ ⟨hy,hys,hk0,hk1⟩
   simp only at hy hys hk0 hk1
   unfold Pu
   refine .dec (fun hk=>?_) fun _=>.lft (j4 hv.1 hy hys)
   have hk : k < y.length:=hk
   have wk : IntKind.i64.wrap (k + 1) = k + 1:=wrap64 (by omega) (by omega)
   refine .chk ⟨hk0,hk⟩ ((Hs.get hk0 hk fun z hz=>hys z (List.mem_of_getElem? hz)).bind fun z hz=>?_)
   rw [add_eq z u.1 (by have:=hz.length_le; omega),Option.bind_some]
   refine .chk ⟨hk0,hk⟩ ((Hs.get hk0 hk fun z hz=>hz).bind fun _ _=>.cnt ⟨⟨by simpa using hy,hys.set (hz.add _),by simp only [wk]; omega,by simp only [wk]; omega⟩,by simp only [wk]; omega⟩)
  ·refine (Kj hv.1 (n:=(x.length : Int)) (by omega) (by omega)).bind fun k hk=>(Kj hk.1 (by omega) (by omega)).bind fun t ht=>.beq (fun _=>?_) fun _=>?_
   ·refine .chk hk.2 ((Hs.get hk.2.1 hk.2.2 fun z hz=>hs z (List.mem_of_getElem? hz)).bind fun z hz=>?_)
    rw [add_eq z u.1 (by have:=hz.length_le; omega),Option.bind_some]
    exact .chk hk.2 ((Hs.get hk.2.1 hk.2.2 fun z hz=>hz).bind fun _ _=>j4 ht.1 (by simpa using hx) (hs.set (hz.add _)))
   ·refine .chk hk.2 ((Hs.get hk.2.1 hk.2.2 fun z hz=>hs z (List.mem_of_getElem? hz)).bind fun z hz=>?_)
    rw [AaL z u.1 (by have:=hz.length_le; omega),Option.bind_some]
    exact .chk hk.2 ((Hs.get hk.2.1 hk.2.2 fun z hz=>hz).bind fun _ _=>j4 ht.1 (by simpa using hx) (hs.set (hz.filter _)))
end Go.Proofs.YtcelninhkmhjkaaDoor
namespace Go.Proofs.YtcelninhkmhjkaaDoor
open Go Go.Dw Go.Proofs
theorem WQ.len {f : JO} (hf : KP f) {l : List (List Int)} (h1 : l.length ≤ f.Code.length) (h2 : WQ l) : Zy l:=by
 have hm : (100000 : Nat) ≤ maxLen:=by decide
 have:=hf.len'
 exact ⟨by omega,fun s hs=>by have:=(h2 s hs).1; omega⟩
theorem AfF {f : JO} (hf : KP f) {l : List (List Int)} (hl : Nk f l) (h : ∀ k : Nat,k < f.Code.length → ∀ j ∈ Mg (JW f k) k,∀ v ∈ inN (JW f j) (Ke l j),v ∈ Ke l k) : Acc f l:=by
 refine ⟨hl,fun k hk=>List.eq_nil_iff_forall_not_mem.2 fun v hv=>?_⟩
 obtain ⟨j,hj,h1,h2⟩:=((Yz hf hl hk).2 v).1 hv
 exact h2 (h k hk j hj v h1)
theorem Afr {f : JO} (hf : KP f) {k : Nat} (hk : k < f.Code.length) {j : Int} (hj : j ∈ Mg (JW f k) k) : 0 ≤ j ∧ j < f.Code.length :=
 hf.next k _ (by simp [JW,hk]) j hj
theorem AcZ {l : List (List Int)} {g : List Int → List Int} {j : Int} (h1 : j.toNat < l.length) : Ke (l.map g) j = g (Ke l j):=by
 simp [Ke,h1]
theorem AeG {f : JO} (hf : KP f) {l : List (List Int)} (h : Acc f l) {u : Int} (hu : 0 ≤ u ∧ u < f.Slots.length) : Acc f (l.map (Oo u)):=by
 have hsl:=hf.slots
 have hl : Nk f (l.map (Oo u)):=by
  refine ⟨by simpa using h.1.1,fun s hs=>?_⟩
  obtain ⟨t,ht,rfl⟩:=List.mem_map.1 hs
  exact (KI.add (h.1.2 t ht) hu (by omega)).1
 have mem : ∀ s,KI f.Slots.length s → ∀ v,v ∈ Oo u s ↔ v = u ∨ v ∈ s:=fun s hs=>(KI.AfG (n:=f.Slots.length) hs hu (by omega)).2.2
 refine AfF hf hl fun k hk j hj v hv=>?_
 have hjm:=Afr hf hk hj
 have hll:=h.1.1
 obtain ⟨o1,o2⟩:=h.1.at hjm.1 hjm.2
 obtain ⟨q1,q2⟩:=h.1.at (j:=(k : Int)) (by omega) (by omega)
 obtain ⟨p1,p2⟩:=hl.at hjm.1 hjm.2
 rw [AcZ (by omega)] at hv p2 ⊢
 rw [(TL hf (hf.at hjm.1 hjm.2).2 p2).2,mem _ o2] at hv
 rw [mem _ q2]
 by_cases e : v = u
 ·exact .inl e
 ·refine .inr (h.mem hf hk hj ?_)
  rw [(TL hf (hf.at hjm.1 hjm.2).2 o2).2]
  rcases hv with ⟨h1,h2⟩ | h1
  ·rcases h1 with h1 | h1
   ·exact (e h1).elim
   ·exact .inl ⟨h1,h2⟩
  ·exact .inr h1
def Tj (u : Int) (l : List (List Int)) (k : Nat) : List (List Int):=(l.take k).map (Oo u) ++ l.drop k
theorem Acg (u : Int) (l : List (List Int)) : Tj u l 0 = l:=by simp [Tj]
theorem AcG (u : Int) (l : List (List Int)) : Tj u l l.length = l.map (Oo u):=by simp [Tj]
theorem Abg (u : Int) (l : List (List Int)) {k : Nat} (hk : k ≤ l.length) : (Tj u l k).length = l.length:=by simp [Tj]; omega
theorem AcH {u : Int} {l : List (List Int)} {k : Nat} (hk : k < l.length) : (Tj u l k)[k]? = some l[k]:=by
 unfold Tj
 rw [List.getElem?_append_right (by simp; omega)]
 simp [show min k l.length = k by omega,hk]
theorem AcI {u : Int} {l : List (List Int)} {k : Nat} (hk : k < l.length) : (Tj u l k).set k (Oo u l[k]) = Tj u l (k + 1):=by
 unfold Tj
 rw [List.set_append_right _ _ (by simp; omega)]
 have e1 : k - ((l.take k).map (Oo u)).length = 0:=by simp; omega
 rw [e1,List.drop_eq_getElem_cons hk,List.set_cons_zero,List.take_succ_eq_append_getElem hk,List.map_append,List.append_assoc]
 rfl
end Go.Proofs.YtcelninhkmhjkaaDoor
namespace Go.Proofs.YtcelninhkmhjkaaDoor
open Go Go.Dw Go.Proofs
def Abb (f : JO) : Prop:=∀ x ∈ f.Code,(x.Op = 16 ∨ x.Op = 17) → 0 ≤ x.A ∧ x.A < f.Slots.length
theorem RO.defs {ps : List Int} {i most : Int} {f : JO} (h : RO ps i most f) : Abb f:=by
 intro x hx hop
 obtain ⟨k,hk⟩:=List.getElem?_of_mem hx
 have hkl:=(List.getElem?_eq_some_iff.1 hk).1
 by_cases hk1 : k + 1 < f.Code.length
 ·have hins:=h.body k x hk hk1
  cases hins with
  | store a b h0 h1 h2=>exact ⟨h0,h1⟩
  | move a b h0 h1 h2=>exact ⟨h0.1,h0.2.1⟩
  | bin op a b c h1 h2 h3 h4 h5 h6=>simp only at hop; omega
  | un op a h1 h2=>simp only at hop; omega
  | _=>simp at hop
 ·have he:=h.last x (by rw [show f.Code.length - 1 = k by omega]; exact hk)
  rcases he with rfl | ⟨w,_,rfl⟩ <;> simp at hop
def Mf (x : JL) (v : Int) : Bool:=x.Op == 17 && x.B == v
def Mk (_ : JL) (_ : Int) : Bool:=false
def Abe (mv : JL → Int → Bool) (f : JO) (l : List (List Int)) (k : Nat) (a v : Int) : Prop :=
 a = (JW f k).A ∧ ((JW f k).Op = 16 ∨ (JW f k).Op = 17) ∧ ¬ ((JW f k).Op = 17 ∧ (JW f k).A = (JW f k).B) ∧ v ∈ Ke l k ∧ v ≠ a ∧ mv (JW f k) v = false
def SH (mv : JL → Int → Bool) (f : JO) (l : List (List Int)) (k : Nat) (a v : Int) : Prop:=∃ j < k,Abe mv f l j a v
def Ed (mv : JL → Int → Bool) (f : JO) (l : List (List Int)) (a v : Int) : Prop:=SH mv f l f.Code.length a v
def UF (mv : JL → Int → Bool) (f : JO) (l : List (List Int)) (k i : Nat) (a v : Int) : Prop :=
 SH mv f l k a v ∨ (a = (JW f k).A ∧ v ∈ (Ke l k).take i ∧ v ≠ a ∧ mv (JW f k) v = false)
theorem AaF {mv : JL → Int → Bool} {f : JO} {l : List (List Int)} {k : Nat} {a v : Int} : SH mv f l (k + 1) a v ↔ SH mv f l k a v ∨ Abe mv f l k a v:=by
 constructor
 ·rintro ⟨j,hj,h⟩
  by_cases e : j = k
  ·subst e; exact .inr h
  ·exact .inl ⟨j,by omega,h⟩
 ·rintro (⟨j,hj,h⟩ | h)
  ·exact ⟨j,by omega,h⟩
  ·exact ⟨k,by omega,h⟩
theorem AaE {mv : JL → Int → Bool} {f : JO} {l : List (List Int)} {k : Nat} {a v : Int} : UF mv f l k 0 a v ↔ SH mv f l k a v:=by simp [UF]
theorem Abr {mv : JL → Int → Bool} {f : JO} {l : List (List Int)} {k : Nat} {a v : Int} (h1 : (JW f k).Op = 16 ∨ (JW f k).Op = 17) (h2 : ¬ ((JW f k).Op = 17 ∧ (JW f k).A = (JW f k).B)) :
  UF mv f l k (Ke l k).length a v ↔ SH mv f l (k + 1) a v:=by
 rw [AaF]
 simp only [UF,List.take_length,Abe]
 constructor
 ·rintro (h | ⟨h3,h4,h5,h6⟩)
  ·exact .inl h
  ·exact .inr ⟨h3,h1,h2,h4,h5,h6⟩
 ·rintro (h | ⟨h3,_,_,h4,h5,h6⟩)
  ·exact .inl h
  ·exact .inr ⟨h3,h4,h5,h6⟩
theorem Zd {mv : JL → Int → Bool} {f : JO} {l : List (List Int)} {k i : Nat} {x a v : Int} (hx : (Ke l k)[i]? = some x) :
  UF mv f l k (i + 1) a v ↔ UF mv f l k i a v ∨ (a = (JW f k).A ∧ v = x ∧ x ≠ a ∧ mv (JW f k) x = false):=by
 have ht : (Ke l k).take (i + 1) = (Ke l k).take i ++ [x]:=by rw [List.take_add_one,hx]; rfl
 simp only [UF,ht,List.mem_append,List.mem_singleton]
 constructor
 ·rintro (h | ⟨h1,h2 | rfl,h3,h4⟩)
  ·exact .inl (.inl h)
  ·exact .inl (.inr ⟨h1,h2,h3,h4⟩)
  ·exact .inr ⟨h1,rfl,h3,h4⟩
 ·rintro ((h | ⟨h1,h2,h3,h4⟩) | ⟨h1,rfl,h3,h4⟩)
  ·exact .inl h
  ·exact .inr ⟨h1,.inl h2,h3,h4⟩
  ·exact .inr ⟨h1,.inr rfl,h3,h4⟩
theorem XF {mv : JL → Int → Bool} {f : JO} {l : List (List Int)} {k : Nat} {a v : Int} (h : ((JW f k).Op ≠ 16 ∧ (JW f k).Op ≠ 17) ∨ ((JW f k).Op = 17 ∧ (JW f k).A = (JW f k).B)) :
  SH mv f l (k + 1) a v ↔ SH mv f l k a v:=by
 rw [AaF]
 constructor
 ·rintro (h1 | ⟨_,h2,h3,_⟩)
  ·exact h1
  ·rcases h with ⟨h4,h5⟩ | h4
   ·omega
   ·exact (h3 h4).elim
 ·exact .inl
theorem AaD {mv : JL → Int → Bool} {f : JO} {l : List (List Int)} {k i : Nat} {x a v : Int} (hx : (Ke l k)[i]? = some x) (h : x = (JW f k).A ∨ mv (JW f k) x = true) :
  UF mv f l k (i + 1) a v ↔ UF mv f l k i a v:=by
 rw [Zd hx]
 constructor
 ·rintro (h1 | ⟨h1,h2,h3,h4⟩)
  ·exact h1
  ·rcases h with h | h
   ·exact (h3 (by rw [h,h1])).elim
   ·rw [h] at h4; cases h4
 ·exact .inl
def Sr (m : List (List Bool)) (a v : Nat) : Bool:=(((m[a]?).getD [])[v]?).getD false
def Md (n : Nat) (m : List (List Bool)) (P : Int → Int → Prop) : Prop :=
 m.length = n ∧ (∀ row ∈ m,row.length = n) ∧ ∀ a v : Nat,a < n → v < n → (Sr m a v = true ↔ P a v ∨ P v a)
theorem Md.congr {n : Nat} {m : List (List Bool)} {P Q : Int → Int → Prop} (h : Md n m P) (hq : ∀ a v,Q a v ↔ P a v) : Md n m Q :=
 ⟨h.1,h.2.1,fun a v ha hv=>by rw [h.2.2 a v ha hv,hq,hq]⟩
theorem AaC {n : Nat} {m : List (List Bool)} (hl : m.length = n) {d : Nat} (hd : d < n) (r : List Bool) (a v : Nat) : Sr (m.set d r) a v = if a = d then (r[v]?).getD false else Sr m a v:=by
 unfold Sr
 by_cases e : a = d
 ·subst e
  rw [if_pos rfl,List.getElem?_set_self (by omega)]; rfl
 ·rw [if_neg e,List.getElem?_set_ne (fun h=>e h.symm)]
theorem Abv {n : Nat} {r : List Bool} (hl : r.length = n) {v : Nat} (hv : v < n) (b : Nat) : ((r.set v true)[b]?).getD false = if b = v then true else (r[b]?).getD false:=by
 by_cases e : b = v
 ·subst e; rw [if_pos rfl,List.getElem?_set_self (by omega)]; rfl
 ·rw [if_neg e,List.getElem?_set_ne (fun h=>e h.symm)]
theorem Md.set {n : Nat} {m : List (List Bool)} {P : Int → Int → Prop} (h : Md n m P) {d v : Nat} {r1 r2 : List Bool} (hd : d < n) (hv : v < n) (hne : d ≠ v) (h1 : m[d]? = some r1) (h2 : m[v]? = some r2) :
  Md n ((m.set d (r1.set v true)).set v (r2.set d true)) (fun a b=>P a b ∨ (a = d ∧ b = v)):=by
 obtain ⟨hl,hr,hc⟩:=h
 have l1:=hr _ (List.mem_of_getElem? h1)
 have l2:=hr _ (List.mem_of_getElem? h2)
 refine ⟨by simp [hl],fun row hrow=>?_,fun a b ha hb=>?_⟩
 ·rcases List.mem_or_eq_of_mem_set hrow with h | rfl
  ·rcases List.mem_or_eq_of_mem_set h with h | rfl
   ·exact hr _ h
   ·simp [l1]
  ·simp [l2]
 ·rw [AaC (n:=n) (by simp [hl]) hv,AaC hl hd,Abv l2 hd,Abv l1 hv]
  have e1 : (r1[b]?).getD false = Sr m d b:=by simp [Sr,h1]
  have e2 : (r2[b]?).getD false = Sr m v b:=by simp [Sr,h2]
  rw [e1,e2]
  have hab:=hc a b ha hb
  by_cases ea : a = v
  ·subst ea
   rw [if_pos rfl]
   by_cases eb : b = d
   ·subst eb; rw [if_pos rfl]; simp
   ·rw [if_neg eb,hab]
    constructor
    ·rintro (h | h)
     ·exact .inl (.inl h)
     ·exact .inr (.inl h)
    ·rintro ((h | ⟨h,_⟩) | (h | ⟨h,_⟩))
     ·exact .inl h
     ·omega
     ·exact .inr h
     ·omega
  ·rw [if_neg ea]
   by_cases ed : a = d
   ·subst ed
    rw [if_pos rfl]
    by_cases eb : b = v
    ·subst eb; rw [if_pos rfl]; simp
    ·rw [if_neg eb,hab]
     constructor
     ·rintro (h | h)
      ·exact .inl (.inl h)
      ·exact .inr (.inl h)
     ·rintro ((h | ⟨_,h⟩) | (h | ⟨h,_⟩))
      ·exact .inl h
      ·omega
      ·exact .inr h
      ·omega
   ·rw [if_neg ed,hab]
    constructor
    ·rintro (h | h)
     ·exact .inl (.inl h)
     ·exact .inr (.inl h)
    ·rintro ((h | ⟨h,_⟩) | (h | ⟨_,h⟩))
     ·exact .inl h
     ·omega
     ·exact .inr h
     ·omega
def Mq (n : Nat) (out : List (List Int)) (Q : Nat → Int → Prop) : Prop:=out.length = n ∧ ∀ (a : Nat) s,out[a]? = some s → KI n s ∧ ∀ v,v ∈ s ↔ Q a v
theorem Mq.congr {n : Nat} {out : List (List Int)} {P Q : Nat → Int → Prop} (h : Mq n out P) (hq : ∀ a v,a < n → (Q a v ↔ P a v)) : Mq n out Q :=
 ⟨h.1,fun a s hs=>⟨(h.2 a s hs).1,fun v=>by rw [(h.2 a s hs).2 v,hq a v (by have:=(List.getElem?_eq_some_iff.1 hs).1; have:=h.1; omega)]⟩⟩
theorem Mq.ext {n : Nat} {o1 o2 : List (List Int)} {Q : Nat → Int → Prop} (h1 : Mq n o1 Q) (h2 : Mq n o2 Q) : o1 = o2:=by
 apply List.ext_getElem?
 intro a
 by_cases ha : a < n
 ·have e1 : o1[a]? = some (o1[a]'(by have:=h1.1; omega)):=List.getElem?_eq_getElem _
  have e2 : o2[a]? = some (o2[a]'(by have:=h2.1; omega)):=List.getElem?_eq_getElem _
  rw [e1,e2,(h1.2 a _ e1).1.1.ext (h2.2 a _ e2).1.1 fun v=>by rw [(h1.2 a _ e1).2 v,(h2.2 a _ e2).2 v]]
 ·rw [List.getElem?_eq_none (by have:=h1.1; omega),List.getElem?_eq_none (by have:=h2.1; omega)]
theorem Mq.nil (n : Nat) {Q : Nat → Int → Prop} (hq : ∀ a v,¬ Q a v) : Mq n (List.replicate n []) Q :=
 ⟨by simp,fun a s hs=>by
  rw [List.getElem?_replicate] at hs
  split at hs
  ·cases hs; exact ⟨KI.nil _,fun v=>⟨fun h=>(by cases h),fun h=>(hq a v h).elim⟩⟩
  ·cases hs⟩
theorem Mq.set {n : Nat} {out : List (List Int)} {P Q : Nat → Int → Prop} (h : Mq n out P) {d : Nat} {s : List Int} (hd : d < n) (hs : KI n s) (h1 : ∀ v,v ∈ s ↔ Q d v) (h2 : ∀ a v,a ≠ d → (Q a v ↔ P a v)) : Mq n (out.set d s) Q:=by
 refine ⟨by simp [h.1],fun a t ht=>?_⟩
 by_cases e : a = d
 ·subst e
  rw [List.getElem?_set_self (by have:=h.1; omega)] at ht
  cases ht
  exact ⟨hs,h1⟩
 ·rw [List.getElem?_set_ne (fun h=>e h.symm)] at ht
  exact ⟨(h.2 a t ht).1,fun v=>by rw [(h.2 a t ht).2 v,h2 a v e]⟩
def Tb (mv : JL → Int → Bool) (f : JO) (l : List (List Int)) (r : List (List Int) × Int) : Prop :=
 (r.2 = 0 ∧ Acc f l ∧ Mq f.Slots.length r.1 fun a v=>Ed mv f l a v ∨ Ed mv f l v a) ∨ (r.2 = 11 ∧ ¬ Acc f l ∧ r.1 = [])
end Go.Proofs.YtcelninhkmhjkaaDoor
namespace Go.Proofs.YtcelninhkmhjkaaDoor
open Go Go.Dw Go.Proofs
end Go.Proofs.YtcelninhkmhjkaaDoor
namespace Go.Proofs.YtcelninhkmhjkaaDoor
open Go Go.Dw Go.Proofs
theorem AcA (x : JL) (v : Int) : Nh x v = some (Mf x v):=by
 unfold Nh Mf
 cases (x.Op == 17) <;> simp
theorem AbT (x : JL) (v : Int) : NP x v = some (Mk x v):=rfl
def Ach (n : Nat) (m : List (List Bool)) (a : Nat) (v : Int) : Prop:=0 ≤ v ∧ v < n ∧ Sr m a v.toNat = true
theorem AbB {n : Nat} {m : List (List Bool)} (hl : m.length = n) (hr : ∀ row ∈ m,row.length = n) (hn : n ≤ 500) : Hs (Ls m) fun out=>Mq n out (Ach n m):=by
 unfold Ls
 refine .chk (by omega) ?_
 refine Hs.loop (fun s=>∃ k : Nat,s.2 = (k : Int) ∧ k ≤ n ∧ Mq n s.1 fun a v=>a < k ∧ Ach n m a v) (fun s=>n - s.2.toNat) ⟨0,rfl,Nat.zero_le _,?_⟩ ?_
 ·rw [Int.toNat_natCast,hl]
  exact Mq.nil _ fun a v h=>absurd h.1 (Nat.not_lt_zero _)
 rintro ⟨out,_⟩ ⟨k,rfl,hk,hs⟩
 replace hs : Mq n out _:=hs
 unfold MZ
 refine .dec (fun hlt=>?_) fun hge=>.lft (.pure (hs.congr fun a v ha=>⟨fun h=>⟨by simp only at hge; omega,h⟩,fun h=>h.2⟩))
 have hlt : k < n:=by simp only at hlt; omega
 have hg : m[k]? = some (m[k]'(by omega)):=List.getElem?_eq_getElem _
 have hrl:=hr _ (List.getElem_mem (show k < m.length by omega))
 generalize m[k]'(by omega) = row at hg hrl
 simp only [Pk,hg,Option.bind_some]
 refine Hs.loop (fun s=>∃ i : Nat,s.2 = (i : Int) ∧ i ≤ n ∧ Mq n s.1 fun a v=>(a < k ∨ (a = k ∧ v < i)) ∧ Ach n m a v) (fun s=>n - s.2.toNat) ⟨0,rfl,Nat.zero_le _,hs.congr fun a v _=>?_⟩ ?_
 ·constructor
  ·rintro ⟨h | ⟨_,h⟩,hc⟩
   ·exact ⟨h,hc⟩
   ·have:=hc.1; omega
  ·exact fun h=>⟨.inl h.1,h.2⟩
 rintro ⟨out2,_⟩ ⟨i,rfl,hi,hs2⟩
 replace hs2 : Mq n out2 _:=hs2
 unfold Na
 refine .dec (fun hlt2=>?_) fun hge2=>?_
 ·have hlt2 : i < n:=by simp only at hlt2; omega
  have hb : row[i]? = some (row[i]'(by omega)):=List.getElem?_eq_getElem _
  generalize row[i]'(by omega) = bit at hb
  have hcell : Sr m k i = bit:=by simp [Sr,hg,hb]
  have w:=Kq (show i < 9223372036854775807 by omega)
  simp only [Pk,hb,Option.bind_some]
  refine .cond (fun ht=>?_) fun hf=>?_
  ·have hs0 : out2[k]? = some (out2[k]'(by have:=hs2.1; omega)):=List.getElem?_eq_getElem _
   generalize out2[k]'(by have:=hs2.1; omega) = s at hs0
   have q:=hs2.2 k s hs0
   have hsl:=q.1.1.length_le
   have hol:=hs2.1
   refine .chk (by omega) ?_
   rw [Int.toNat_natCast,hs0,Option.bind_some]
   refine .chk (by simp only [List.length_singleton]; omega) (.chk (by omega) ?_)
   rw [w]
   refine .cnt ⟨⟨i + 1,rfl,hlt2,?_⟩,by simp only; omega⟩
   have hlt' : ∀ x ∈ s,x < (i : Int):=fun x hx=>by
    rcases ((q.2 x).1 hx).1 with h | ⟨_,h⟩
    ·omega
    ·exact h
   refine hs2.set hlt ⟨q.1.1.snoc (by omega) hlt',fun x hx=>?_⟩ (fun v=>?_) fun a v ha=>?_
   ·rcases List.mem_append.1 hx with h | h
    ·exact q.1.2 x h
    ·rw [List.mem_singleton] at h; omega
   ·rw [List.mem_append,List.mem_singleton,q.2 v]
    constructor
    ·rintro (⟨h | ⟨_,h⟩,hc⟩ | rfl)
     ·omega
     ·exact ⟨.inr ⟨rfl,by omega⟩,hc⟩
     ·exact ⟨.inr ⟨rfl,by omega⟩,by omega,by omega,by rw [Int.toNat_natCast,hcell,ht]⟩
    ·rintro ⟨h | ⟨_,h⟩,hc⟩
     ·omega
     ·by_cases e : v = i
      ·exact .inr e
      ·exact .inl ⟨.inr ⟨rfl,by omega⟩,hc⟩
   ·constructor
    ·rintro ⟨h | ⟨h,_⟩,hc⟩
     ·exact ⟨.inl h,hc⟩
     ·exact (ha h).elim
    ·rintro ⟨h | ⟨h,_⟩,hc⟩
     ·exact ⟨.inl h,hc⟩
     ·exact (ha h).elim
  ·rw [w]
   refine .cnt ⟨⟨i + 1,rfl,hlt2,hs2.congr fun a v _=>?_⟩,by simp only; omega⟩
   constructor
   ·rintro ⟨h | ⟨h,h2⟩,hc⟩
    ·exact ⟨.inl h,hc⟩
    ·refine ⟨.inr ⟨h,?_⟩,hc⟩
     have h3 : v ≠ i:=fun e=>by
      have:=hc.2.2
      rw [h,e,Int.toNat_natCast,hcell,hf] at this
      cases this
     omega
   ·rintro ⟨h | ⟨h,h2⟩,hc⟩
    ·exact ⟨.inl h,hc⟩
    ·exact ⟨.inr ⟨h,by omega⟩,hc⟩
 ·rw [Kq (by omega)]
  refine .lft (.cnt ⟨⟨k + 1,rfl,hlt,hs2.congr fun a v _=>?_⟩,by simp only; omega⟩)
  constructor
  ·rintro ⟨h,hc⟩
   refine ⟨?_,hc⟩
   by_cases e : a = k
   ·exact .inr ⟨e,by have:=hc.2.1; simp only at hge2; omega⟩
   ·exact .inl (by omega)
  ·rintro ⟨h | ⟨h,_⟩,hc⟩
   ·exact ⟨by omega,hc⟩
   ·exact ⟨by omega,hc⟩
theorem Aam {mv : JL → Int → Bool} {f : JO} (hf : KP f) (hd : Abb f) {l : List (List Int)} (hl : Nk f l) {a v : Int} (h : Ed mv f l a v) : (0 ≤ a ∧ a < f.Slots.length) ∧ (0 ≤ v ∧ v < f.Slots.length):=by
 obtain ⟨j,hj,rfl,h2,_,h4,_⟩:=h
 have hx:=hf.at (j:=(j : Int)) (by omega) (by omega)
 have hrow:=hl.at (j:=(j : Int)) (by omega) (by omega)
 rw [Int.toNat_natCast] at hrow
 exact ⟨hd _ hx.2 h2,(hrow.2.1.2 v h4).1,hrow.2.2 v h4⟩
theorem Abz {n : Nat} {m : List (List Bool)} {P : Int → Int → Prop} (hl : m.length = n) (h : ∀ (j : Nat) row,m[j]? = some row → row = List.replicate n false) (hp : ∀ a v,¬ P a v) : Md n m P:=by
 refine ⟨hl,fun row hr=>?_,fun a v ha hv=>?_⟩
 ·obtain ⟨j,hj⟩:=List.getElem?_of_mem hr
  rw [h j row hj,List.length_replicate]
 ·have e : m[a]? = some (m[a]'(by omega)):=List.getElem?_eq_getElem _
  have:=h a _ e
  have hc : Sr m a v = false:=by unfold Sr; rw [e,this]; simp [hv]
  rw [hc]
  exact ⟨fun h=>(by cases h),fun h=>by rcases h with h | h <;> exact (hp _ _ h).elim⟩
end Go.Proofs.YtcelninhkmhjkaaDoor
namespace Go.Proofs.YtcelninhkmhjkaaDoor
open Go Go.Dw Go.Proofs
theorem AcR {n : Nat} {m : List (List Bool)} {P : Int → Int → Prop} (hm : Md n m P) {d y : Nat} (hd : d < n) (hy : y < n) (hne : d ≠ y) (t : Bool) {i : Nat} (hi : i < 1000000) :
  ∃ m',KF m ((d : Int),t) (y : Int) (i : Int) true = some (.inl (m',((i + 1 : Nat) : Int))) ∧ Md n m' fun a b=>P a b ∨ (a = d ∧ b = y):=by
 have e1 : m[d]? = some (m[d]'(by have:=hm.1; omega)):=List.getElem?_eq_getElem _
 have e2 : m[y]? = some (m[y]'(by have:=hm.1; omega)):=List.getElem?_eq_getElem _
 generalize m[d]'(by have:=hm.1; omega) = r1 at e1
 generalize m[y]'(by have:=hm.1; omega) = r2 at e2
 have l1:=hm.2.1 _ (List.mem_of_getElem? e1)
 have l2:=hm.2.1 _ (List.mem_of_getElem? e2)
 have hl:=hm.1
 have g1 : r1[y]? = some (r1[y]'(by omega)):=List.getElem?_eq_getElem _
 have g2 : r2[d]? = some (r2[d]'(by omega)):=List.getElem?_eq_getElem _
 have c1 : 0 ≤ (d : Int) ∧ (d : Int) < m.length:=by omega
 have c2 : 0 ≤ (y : Int) ∧ (y : Int) < m.length:=by omega
 have c3 : 0 ≤ (y : Int) ∧ (y : Int) < r1.length:=by omega
 have c4 : 0 ≤ (d : Int) ∧ (d : Int) < r2.length:=by omega
 have w:=Kq (show i < 9223372036854775807 by omega)
 exact ⟨_,by simp only [KF,cond_true,Int.toNat_natCast,e1,e2,Option.bind_some,Kx hne,Kx c1,Kx c2,Kx c3,Kx c4,g1,g2,w,AbW],hm.set hd hy hne e1 e2⟩
theorem AcQ {f : JO} (hf : KP f) (hd : Abb f) {l : JV} (hl : Zy l.Out) : Hs (Of f l) (Tb Mf f l.Out):=by
 have hlen:=hf.len'
 have hsl:=hf.slots
 unfold Of
 refine Hs.bind (P:=Tb Mf f l.Out) ?_ fun r hr=>.pure hr
 unfold Mi
 refine (Abm hf hl).bind fun e he=>.bne (fun h=>.pure (.inr ⟨he.1.resolve_left h,fun ha=>h (he.2.2 ha),rfl⟩)) fun h=>?_
 have hacc : Acc f l.Out:=he.2.1 h
 refine .chk (by omega) ?_
 refine Hs.loop (fun s=>∃ k : Nat,s.2 = (k : Int) ∧ k ≤ f.Slots.length ∧ s.1.length = f.Slots.length ∧ ∀ (j : Nat) row,j < k → s.1[j]? = some row → row = List.replicate f.Slots.length false) (fun s=>f.Slots.length - s.2.toNat) ⟨0,rfl,Nat.zero_le _,by simp,fun j row h=>absurd h (Nat.not_lt_zero _)⟩ ?_
 rintro ⟨m,_⟩ ⟨k,rfl,hk,hml,hrows⟩
 unfold My
 simp only [List.length_replicate,Int.toNat_natCast] at hml hrows ⊢
 refine .dec (fun hlt=>?_) fun hge=>.lft ?_
 ·have hlt : k < f.Slots.length:=by omega
  have hg : m[k]? = some (m[k]'(by omega)):=List.getElem?_eq_getElem _
  refine .chk (by omega) (.chk (by omega) ?_)
  rw [hg,Option.bind_some,Kq (by omega)]
  refine .cnt ⟨⟨k + 1,rfl,hlt,by simp [hml],fun j row hj hr=>?_⟩,by simp only; omega⟩
  by_cases e : j = k
  ·subst e
   rw [List.getElem?_set_self (by omega)] at hr
   exact (Option.some.inj hr).symm
  ·rw [List.getElem?_set_ne (fun h=>e h.symm)] at hr
   exact hrows j row (by omega) hr
 have hkk : k = f.Slots.length:=by omega
 have hm0 : Md f.Slots.length m (SH Mf f l.Out 0):=Abz hml (fun j row hr=>hrows j row (by have:=(List.getElem?_eq_some_iff.1 hr).1; omega) hr) fun a v h=>by rcases h with ⟨j,hj,_⟩; omega
 show Hs (LA f l m) (Tb Mf f l.Out)
 clear hrows hml hge hkk hk k
 unfold LA
 refine Hs.loop (fun s=>∃ k : Nat,s.2 = (k : Int) ∧ k ≤ f.Code.length ∧ Md f.Slots.length s.1 (SH Mf f l.Out k)) (fun s=>f.Code.length - s.2.toNat) ⟨0,rfl,Nat.zero_le _,hm0⟩ ?_
 clear hm0 m
 rintro ⟨m,_⟩ ⟨k,rfl,hk,hm⟩
 replace hm : Md f.Slots.length m _:=hm
 unfold Mz
 refine .dec (fun hlt=>?_) fun hge=>.lft ?_
 ·have hlt : k < f.Code.length:=by simp only at hlt; omega
  have hx:=hf.at (j:=(k : Int)) (by omega) (by omega)
  rw [Int.toNat_natCast] at hx
  have hrow:=hacc.1.at (j:=(k : Int)) (by omega) (by omega)
  rw [Int.toNat_natCast] at hrow
  have hlo:=hrow.2.1.length_le
  simp only [Pk,hx.1,Option.bind_some,Aax]
  have w:=Kq (show k < 9223372036854775807 by omega)
  by_cases hdef : (JW f k).Op = 16 ∨ (JW f k).Op = 17
  ·rw [if_pos hdef]
   simp only [Bool.not_true,cond_false]
   have hA:=hd _ hx.2 hdef
   have inner : ¬ ((JW f k).Op = 17 ∧ (JW f k).A = (JW f k).B) → ∀ p q,Hs (Lk l (k : Int) ((JW f k).A,true) (JW f k) m p q) (Rnd (fun s=>∃ k : Nat,s.2 = (k : Int) ∧ k ≤ f.Code.length ∧ Md f.Slots.length s.1 (SH Mf f l.Out k)) (fun s=>f.Code.length - s.2.toNat) (m,(k : Int)) (Tb Mf f l.Out)):=by
    intro hnm p q
    unfold Lk
    rw [Pk,hrow.1,Option.bind_some]
    refine Hs.loop (fun s=>∃ i : Nat,s.2 = (i : Int) ∧ i ≤ (Ke l.Out k).length ∧ Md f.Slots.length s.1 (UF Mf f l.Out k i)) (fun s=>(Ke l.Out k).length - s.2.toNat) ⟨0,rfl,Nat.zero_le _,hm.congr fun a v=>AaE⟩ ?_
    rintro ⟨m2,_⟩ ⟨i,rfl,hi,hm2⟩
    replace hm2 : Md f.Slots.length m2 _:=hm2
    unfold MA
    refine .dec (fun hlt2=>?_) fun hge2=>?_
    ·have hlt2 : i < (Ke l.Out k).length:=by simp only at hlt2; omega
     have hgx : (Ke l.Out k)[i]? = some (Ke l.Out k)[i]:=List.getElem?_eq_getElem _
     have hxm:=List.getElem_mem hlt2
     generalize (Ke l.Out k)[i] = x at hgx hxm
     have hx0:=hrow.2.1.2 x hxm
     have hxn:=hrow.2.2 x hxm
     simp only [Pk,hgx,Option.bind_some,AcA]
     have w2:=Kq (show i < 9223372036854775807 by omega)
     have skip : x = (JW f k).A ∨ Mf (JW f k) x = true → Hs (KF m2 ((JW f k).A,true) x (i : Int) false) (Rnd (fun s=>∃ i : Nat,s.2 = (i : Int) ∧ i ≤ (Ke l.Out k).length ∧ Md f.Slots.length s.1 (UF Mf f l.Out k i)) (fun s=>(Ke l.Out k).length - s.2.toNat) (m2,(i : Int)) (Rnd (fun s=>∃ k : Nat,s.2 = (k : Int) ∧ k ≤ f.Code.length ∧ Md f.Slots.length s.1 (SH Mf f l.Out k)) (fun s=>f.Code.length - s.2.toNat) (m,(k : Int)) (Tb Mf f l.Out))):=by
      intro hh
      unfold KF
      rw [cond_false,w2]
      exact .cnt ⟨⟨i + 1,rfl,hlt2,hm2.congr fun a v=>AaD hgx hh⟩,by simp only; omega⟩
     refine .bne (fun hne=>?_) fun he=>skip (.inl he)
     cases hmf : Mf (JW f k) x
     ·rw [Bool.not_false]
      obtain ⟨d,hde⟩ : ∃ d : Nat,(JW f k).A = (d : Int):=⟨_,(Int.toNat_of_nonneg hA.1).symm⟩
      obtain ⟨y,rfl⟩ : ∃ y : Nat,x = (y : Int):=⟨_,(Int.toNat_of_nonneg hx0.1).symm⟩
      obtain ⟨m',h1,h2⟩:=AcR hm2 (d:=d) (y:=y) (by omega) (by omega) (by omega) true (i:=i) (by omega)
      rw [hde,h1]
      refine .pure ⟨⟨i + 1,rfl,hlt2,h2.congr fun a v=>?_⟩,by simp only; omega⟩
      rw [Zd hgx,hde]
      constructor
      ·rintro (h | ⟨h1,h2,_⟩)
       ·exact .inl h
       ·exact .inr ⟨h1,h2⟩
      ·rintro (h | ⟨h1,h2⟩)
       ·exact .inl h
       ·exact .inr ⟨h1,h2,by omega,hmf⟩
     ·rw [Bool.not_true]
      exact skip (.inr hmf)
    ·have hi : i = (Ke l.Out k).length:=by simp only at hge2; omega
     subst hi
     rw [w]
     exact .lft (.cnt ⟨⟨k + 1,rfl,hlt,hm2.congr fun a v=>(Abr hdef hnm).symm⟩,by simp only; omega⟩)
   refine .beq (fun h17=>.beq (fun hab=>?_) fun hab=>inner (fun hh=>hab hh.2) _ _) fun h17=>inner (fun hh=>h17 hh.1) _ _
   rw [w]
   exact .cnt ⟨⟨k + 1,rfl,hlt,hm.congr fun a v=>XF (.inr ⟨h17,hab⟩)⟩,by simp only; omega⟩
  ·rw [if_neg hdef]
   simp only [Bool.not_false,cond_true]
   rw [w]
   exact .cnt ⟨⟨k + 1,rfl,hlt,hm.congr fun a v=>XF (.inl (by omega))⟩,by simp only; omega⟩
 ·have hk : k = f.Code.length:=by simp only at hge; omega
  subst hk
  refine (AbB hm.1 hm.2.1 hsl).bind fun out ho=>.pure (.inl ⟨rfl,hacc,ho.congr fun a v ha=>?_⟩)
  constructor
  ·intro h
   have hr : 0 ≤ v ∧ v < f.Slots.length:=by
    rcases h with h | h
    ·exact (Aam hf hd hacc.1 h).2
    ·exact (Aam hf hd hacc.1 h).1
   refine ⟨hr.1,hr.2,(hm.2.2 a v.toNat ha (by omega)).2 ?_⟩
   rw [Int.toNat_of_nonneg hr.1]
   exact h
  ·rintro ⟨h0,h1,hc⟩
   have:=(hm.2.2 a v.toNat ha (by omega)).1 hc
   rw [Int.toNat_of_nonneg h0] at this
   exact this
end Go.Proofs.YtcelninhkmhjkaaDoor
namespace Go.Proofs.YtcelninhkmhjkaaDoor
open Go Go.Dw Go.Proofs
theorem Acz {n : Nat} {m : List (List Bool)} {P : Int → Int → Prop} (hm : Md n m P) {d y : Nat} (hd : d < n) (hy : y < n) (hne : d ≠ y) (t : Bool) {i : Nat} (hi : i < 1000000) :
  ∃ m',Kz m ((d : Int),t) (y : Int) (i : Int) true = some (.inl (m',((i + 1 : Nat) : Int))) ∧ Md n m' fun a b=>P a b ∨ (a = d ∧ b = y):=by
 have e1 : m[d]? = some (m[d]'(by have:=hm.1; omega)):=List.getElem?_eq_getElem _
 have e2 : m[y]? = some (m[y]'(by have:=hm.1; omega)):=List.getElem?_eq_getElem _
 generalize m[d]'(by have:=hm.1; omega) = r1 at e1
 generalize m[y]'(by have:=hm.1; omega) = r2 at e2
 have l1:=hm.2.1 _ (List.mem_of_getElem? e1)
 have l2:=hm.2.1 _ (List.mem_of_getElem? e2)
 have hl:=hm.1
 have g1 : r1[y]? = some (r1[y]'(by omega)):=List.getElem?_eq_getElem _
 have g2 : r2[d]? = some (r2[d]'(by omega)):=List.getElem?_eq_getElem _
 have c1 : 0 ≤ (d : Int) ∧ (d : Int) < m.length:=by omega
 have c2 : 0 ≤ (y : Int) ∧ (y : Int) < m.length:=by omega
 have c3 : 0 ≤ (y : Int) ∧ (y : Int) < r1.length:=by omega
 have c4 : 0 ≤ (d : Int) ∧ (d : Int) < r2.length:=by omega
 have w:=Kq (show i < 9223372036854775807 by omega)
 exact ⟨_,by simp only [Kz,cond_true,Int.toNat_natCast,e1,e2,Option.bind_some,Kx hne,Kx c1,Kx c2,Kx c3,Kx c4,g1,g2,w,AbW],hm.set hd hy hne e1 e2⟩
theorem Acy {f : JO} (hf : KP f) (hd : Abb f) {l : JV} (hl : Zy l.Out) : Hs (NA f l) (Tb Mk f l.Out):=by
 have hlen:=hf.len'
 have hsl:=hf.slots
 unfold NA
 refine Hs.bind (P:=Tb Mk f l.Out) ?_ fun r hr=>.pure hr
 unfold LV
 refine (Abm hf hl).bind fun e he=>.bne (fun h=>.pure (.inr ⟨he.1.resolve_left h,fun ha=>h (he.2.2 ha),rfl⟩)) fun h=>?_
 have hacc : Acc f l.Out:=he.2.1 h
 refine .chk (by omega) ?_
 refine Hs.loop (fun s=>∃ k : Nat,s.2 = (k : Int) ∧ k ≤ f.Slots.length ∧ s.1.length = f.Slots.length ∧ ∀ (j : Nat) row,j < k → s.1[j]? = some row → row = List.replicate f.Slots.length false) (fun s=>f.Slots.length - s.2.toNat) ⟨0,rfl,Nat.zero_le _,by simp,fun j row h=>absurd h (Nat.not_lt_zero _)⟩ ?_
 rintro ⟨m,_⟩ ⟨k,rfl,hk,hml,hrows⟩
 unfold Mm
 simp only [List.length_replicate,Int.toNat_natCast] at hml hrows ⊢
 refine .dec (fun hlt=>?_) fun hge=>.lft ?_
 ·have hlt : k < f.Slots.length:=by omega
  have hg : m[k]? = some (m[k]'(by omega)):=List.getElem?_eq_getElem _
  refine .chk (by omega) (.chk (by omega) ?_)
  rw [hg,Option.bind_some,Kq (by omega)]
  refine .cnt ⟨⟨k + 1,rfl,hlt,by simp [hml],fun j row hj hr=>?_⟩,by simp only; omega⟩
  by_cases e : j = k
  ·subst e
   rw [List.getElem?_set_self (by omega)] at hr
   exact (Option.some.inj hr).symm
  ·rw [List.getElem?_set_ne (fun h=>e h.symm)] at hr
   exact hrows j row (by omega) hr
 have hkk : k = f.Slots.length:=by omega
 have hm0 : Md f.Slots.length m (SH Mk f l.Out 0):=Abz hml (fun j row hr=>hrows j row (by have:=(List.getElem?_eq_some_iff.1 hr).1; omega) hr) fun a v h=>by rcases h with ⟨j,hj,_⟩; omega
 show Hs (Lw f l m) (Tb Mk f l.Out)
 clear hrows hml hge hkk hk k
 unfold Lw
 refine Hs.loop (fun s=>∃ k : Nat,s.2 = (k : Int) ∧ k ≤ f.Code.length ∧ Md f.Slots.length s.1 (SH Mk f l.Out k)) (fun s=>f.Code.length - s.2.toNat) ⟨0,rfl,Nat.zero_le _,hm0⟩ ?_
 clear hm0 m
 rintro ⟨m,_⟩ ⟨k,rfl,hk,hm⟩
 replace hm : Md f.Slots.length m _:=hm
 unfold Mn
 refine .dec (fun hlt=>?_) fun hge=>.lft ?_
 ·have hlt : k < f.Code.length:=by simp only at hlt; omega
  have hx:=hf.at (j:=(k : Int)) (by omega) (by omega)
  rw [Int.toNat_natCast] at hx
  have hrow:=hacc.1.at (j:=(k : Int)) (by omega) (by omega)
  rw [Int.toNat_natCast] at hrow
  have hlo:=hrow.2.1.length_le
  simp only [Pk,hx.1,Option.bind_some,Aax]
  have w:=Kq (show k < 9223372036854775807 by omega)
  by_cases hdef : (JW f k).Op = 16 ∨ (JW f k).Op = 17
  ·rw [if_pos hdef]
   simp only [Bool.not_true,cond_false]
   have hA:=hd _ hx.2 hdef
   have inner : ¬ ((JW f k).Op = 17 ∧ (JW f k).A = (JW f k).B) → ∀ p q,Hs (Lf l (k : Int) ((JW f k).A,true) (JW f k) m p q) (Rnd (fun s=>∃ k : Nat,s.2 = (k : Int) ∧ k ≤ f.Code.length ∧ Md f.Slots.length s.1 (SH Mk f l.Out k)) (fun s=>f.Code.length - s.2.toNat) (m,(k : Int)) (Tb Mk f l.Out)):=by
    intro hnm p q
    unfold Lf
    rw [Pk,hrow.1,Option.bind_some]
    refine Hs.loop (fun s=>∃ i : Nat,s.2 = (i : Int) ∧ i ≤ (Ke l.Out k).length ∧ Md f.Slots.length s.1 (UF Mk f l.Out k i)) (fun s=>(Ke l.Out k).length - s.2.toNat) ⟨0,rfl,Nat.zero_le _,hm.congr fun a v=>AaE⟩ ?_
    rintro ⟨m2,_⟩ ⟨i,rfl,hi,hm2⟩
    replace hm2 : Md f.Slots.length m2 _:=hm2
    unfold Mo
    refine .dec (fun hlt2=>?_) fun hge2=>?_
    ·have hlt2 : i < (Ke l.Out k).length:=by simp only at hlt2; omega
     have hgx : (Ke l.Out k)[i]? = some (Ke l.Out k)[i]:=List.getElem?_eq_getElem _
     have hxm:=List.getElem_mem hlt2
     generalize (Ke l.Out k)[i] = x at hgx hxm
     have hx0:=hrow.2.1.2 x hxm
     have hxn:=hrow.2.2 x hxm
     simp only [Pk,hgx,Option.bind_some,AbT]
     have w2:=Kq (show i < 9223372036854775807 by omega)
     have skip : x = (JW f k).A ∨ Mk (JW f k) x = true → Hs (Kz m2 ((JW f k).A,true) x (i : Int) false) (Rnd (fun s=>∃ i : Nat,s.2 = (i : Int) ∧ i ≤ (Ke l.Out k).length ∧ Md f.Slots.length s.1 (UF Mk f l.Out k i)) (fun s=>(Ke l.Out k).length - s.2.toNat) (m2,(i : Int)) (Rnd (fun s=>∃ k : Nat,s.2 = (k : Int) ∧ k ≤ f.Code.length ∧ Md f.Slots.length s.1 (SH Mk f l.Out k)) (fun s=>f.Code.length - s.2.toNat) (m,(k : Int)) (Tb Mk f l.Out))):=by
      intro hh
      unfold Kz
      rw [cond_false,w2]
      exact .cnt ⟨⟨i + 1,rfl,hlt2,hm2.congr fun a v=>AaD hgx hh⟩,by simp only; omega⟩
     refine .bne (fun hne=>?_) fun he=>skip (.inl he)
     cases hmf : Mk (JW f k) x
     ·rw [Bool.not_false]
      obtain ⟨d,hde⟩ : ∃ d : Nat,(JW f k).A = (d : Int):=⟨_,(Int.toNat_of_nonneg hA.1).symm⟩
      obtain ⟨y,rfl⟩ : ∃ y : Nat,x = (y : Int):=⟨_,(Int.toNat_of_nonneg hx0.1).symm⟩
      obtain ⟨m',h1,h2⟩:=Acz hm2 (d:=d) (y:=y) (by omega) (by omega) (by omega) true (i:=i) (by omega)
      rw [hde,h1]
      refine .pure ⟨⟨i + 1,rfl,hlt2,h2.congr fun a v=>?_⟩,by simp only; omega⟩
      rw [Zd hgx,hde]
      constructor
      ·rintro (h | ⟨h1,h2,_⟩)
       ·exact .inl h
       ·exact .inr ⟨h1,h2⟩
      ·rintro (h | ⟨h1,h2⟩)
       ·exact .inl h
       ·exact .inr ⟨h1,h2,by omega,hmf⟩
     ·rw [Bool.not_true]
      exact skip (.inr hmf)
    ·have hi : i = (Ke l.Out k).length:=by simp only at hge2; omega
     subst hi
     rw [w]
     exact .lft (.cnt ⟨⟨k + 1,rfl,hlt,hm2.congr fun a v=>(Abr hdef hnm).symm⟩,by simp only; omega⟩)
   refine .beq (fun h17=>.beq (fun hab=>?_) fun hab=>inner (fun hh=>hab hh.2) _ _) fun h17=>inner (fun hh=>h17 hh.1) _ _
   rw [w]
   exact .cnt ⟨⟨k + 1,rfl,hlt,hm.congr fun a v=>XF (.inr ⟨h17,hab⟩)⟩,by simp only; omega⟩
  ·rw [if_neg hdef]
   simp only [Bool.not_false,cond_true]
   rw [w]
   exact .cnt ⟨⟨k + 1,rfl,hlt,hm.congr fun a v=>XF (.inl (by omega))⟩,by simp only; omega⟩
 ·have hk : k = f.Code.length:=by simp only at hge; omega
  subst hk
  refine (AbB hm.1 hm.2.1 hsl).bind fun out ho=>.pure (.inl ⟨rfl,hacc,ho.congr fun a v ha=>?_⟩)
  constructor
  ·intro h
   have hr : 0 ≤ v ∧ v < f.Slots.length:=by
    rcases h with h | h
    ·exact (Aam hf hd hacc.1 h).2
    ·exact (Aam hf hd hacc.1 h).1
   refine ⟨hr.1,hr.2,(hm.2.2 a v.toNat ha (by omega)).2 ?_⟩
   rw [Int.toNat_of_nonneg hr.1]
   exact h
  ·rintro ⟨h0,h1,hc⟩
   have:=(hm.2.2 a v.toNat ha (by omega)).1 hc
   rw [Int.toNat_of_nonneg h0] at this
   exact this
end Go.Proofs.YtcelninhkmhjkaaDoor
namespace Go.Proofs.YtcelninhkmhjkaaDoor
open Go Go.Dw Go.Proofs
theorem AcE (codes : List Int) (hc : qL (Np .u8) codes) : Hs (Rc codes) fun p=>okC p.2.2 ∧ (∃ ps i,RO ps i 16 p.1) ∧ p.2.1.Out.length ≤ p.1.Code.length ∧ WQ p.2.1.Out:=by
 unfold Rc
 obtain ⟨c,e1,hcok⟩:=AhL codes 250 hc (by omega) (by omega)
 rw [e1,Option.bind_some]
 refine (AcB hcok (by omega) (by omega) (by omega) (by omega)).bind fun p hp=>?_
 obtain ⟨ps,hps,hz,hp1,hp2,hfl,hall⟩:=hp.2
 refine (Kj hp.1 (by omega) (by omega)).bind fun k hk=>?_
 refine (Hs.ix hk.2.1 hk.2.2 fun f hf=>hall _ f hf).bind fun f hf=>?_
 exact (Afo hk.1 (hf.AhI (by omega))).bind fun l hl=>.pure ⟨hl.1,⟨_,_,hf⟩,hl.2⟩
attribute [local simp] Kx Bool.cond_eq_ite
theorem AcV (s : List JY) (v : JY) (h : s.length ≤ 1000000) : Lh s v = some (decide (v ∈ s)):=by
 unfold Lh LX
 have:=NV (body:=fun i : Int=>KA s v i) s (fun (k : Nat) i=>i) (fun k i=>k = i) (fun k l=>some (match l.findIdx? (· == v) with | none=>-1 | some j=>((k + j : Nat) : Int)))
  (fun k _=>⟨-1,by simp [KA],by simp⟩) (fun k i x r hk hd hi hx=>by
   subst hk
   have w:=Kq (show k < 9223372036854775807 by omega)
   obtain ⟨_,rfl⟩:=List.getElem?_eq_some_iff.1 hx
   by_cases e : s[k] = v
   ·refine .inr ⟨(k : Int),?_,?_⟩
    ·subst e; simp [KA,hi]
    ·simp [List.findIdx?_cons,e]
   ·refine .inl ⟨k + 1,rfl,?_,?_⟩
    ·have hne : ¬ (v.a0 = s[k].a0 ∧ v.a1 = s[k].a1):=fun hh=>e (by
      generalize s[k] = y at hh
      cases y; cases v; simp_all)
     simp [KA,hi,hne,w]
    ·have hb : (s[k] == v) = false:=by simpa using e
     simp only [List.findIdx?_cons,hb,Bool.false_eq_true,if_false]
     cases r.findIdx? (· == v) with
     | none=>rfl
     | some j=>simp; omega) 0 rfl
 rw [show Ks (fun s_1=>KA s v s_1) 0 = _ from this]
 simp only [Option.bind_some]
 congr 1
 by_cases hm : v ∈ s
 ·cases hfi : s.findIdx? (· == v) with
  | none =>
   rw [List.findIdx?_eq_none_iff] at hfi
   have:=hfi v hm
   simp at this
  | some j=>simp [hm]
 ·have : s.findIdx? (· == v) = none:=by
   rw [List.findIdx?_eq_none_iff]
   intro x hx
   simp only [beq_eq_false_iff_ne]
   rintro rfl
   exact hm hx
  simp [this,hm]
def Nu (l : List JL) (out : List JY) : List JY :=
 l.foldl (fun out x=>if x.Op = 17 ∧ x.A ≠ x.B ∧ (⟨x.A,x.B⟩ : JY) ∉ out then out ++ [⟨x.A,x.B⟩] else out) out
theorem YL : ∀ (l : List JL) (out : List JY),(Nu l out).length ≤ out.length + l.length
 | [],out=>by simp [Nu]
 | x :: l,out=>by
  have:=YL l (if x.Op = 17 ∧ x.A ≠ x.B ∧ (⟨x.A,x.B⟩ : JY) ∉ out then out ++ [⟨x.A,x.B⟩] else out)
  show (Nu l _).length ≤ _
  refine Nat.le_trans this ?_
  split <;> simp <;> omega
theorem AbA (f : JO) (h : f.Code.length ≤ 1000000) : MY f = some (Nu f.Code []):=by
 unfold MY
 have:=NV (body:=fun s : List JY × Int=>Ln f s.1 s.2) f.Code (fun (out : List JY) i=>(out,i)) (fun out i=>out.length ≤ i) (fun out l=>some (Nu l out))
  (fun out _=>⟨out,by simp [Ln],by simp [Nu]⟩) (fun out i x r ho hd hi hx=>by
   have w:=Kq (show i < 9223372036854775807 by omega)
   obtain ⟨_,rfl⟩:=List.getElem?_eq_some_iff.1 hx
   have hc:=AcV out ⟨f.Code[i].A,f.Code[i].B⟩ (by omega)
   left
   by_cases h17 : f.Code[i].Op = 17
   ·by_cases hab : f.Code[i].A = f.Code[i].B
    ·exact ⟨out,by omega,by simp [Ln,hi,h17,hab,w],by simp [Nu,h17,hab]⟩
    ·by_cases hm : (⟨f.Code[i].A,f.Code[i].B⟩ : JY) ∈ out
     ·exact ⟨out,by omega,by simp [Ln,hi,h17,hab,hc,hm,w],by simp [Nu,h17,hab,hm]⟩
     ·exact ⟨out ++ [⟨f.Code[i].A,f.Code[i].B⟩],by simp; omega,by simp [Ln,hi,h17,hab,hc,hm,w,show out.length ≤ 16777215 by omega],by simp [Nu,h17,hab,hm]⟩
   ·exact ⟨out,by omega,by simp [Ln,hi,h17,w],by simp [Nu,h17]⟩) [] (by simp)
 simpa using this
theorem AcT : Rb = some true:=by
 unfold Rb
 rw [AbA _ (by simp)]
 simp [Nu]
end Go.Proofs.YtcelninhkmhjkaaDoor
namespace Go.Proofs.YtcelninhkmhjkaaDoor
open Go Go.Dw Go.Proofs
theorem Aeu {c : JJ} (h : okC c) {f : JO} (hf : KP f) : Hs (Ny c f) fun p=>okC p.2 ∧ Acc f p.1.Out:=by
 have hlen:=hf.len
 have hlen':=hf.len'
 have hsl:=hf.slots
 unfold Ny
 refine (AbF hf).bind fun l hl=>.chk (by have:=hl.ok.1; simp; omega) ((Kj h (by omega) (by omega)).bind fun r hr=>?_)
 refine Hs.loop (fun s=>okC ⟨s.1,s.2.1⟩ ∧ Acc f s.2.2.1 ∧ 0 ≤ s.2.2.2 ∧ s.2.2.2 < 3) (fun s=>s.2.2.2.toNat) ⟨hr.1,by simpa using hl.acc hf,hr.2⟩ ?_
 rintro ⟨l,a,x,n⟩ ⟨hc,hx,hn0,hn1⟩
 simp only at hc hx hn0 hn1
 have w : IntKind.i64.wrap (n - 1) = n - 1:=wrap64 (by omega) (by omega)
 unfold OT
 refine .dec (fun hlt=>.dec (fun hsl0=>?_) fun _=>.lft (.pure ⟨hc,hx⟩)) fun _=>.lft (.pure ⟨hc,hx⟩)
 have hlt : 0 < n:=hlt
 unfold OV
 refine (Kj hc (by omega) (by omega)).bind fun u hu=>?_
 have hxl:=hx.1.1
 refine Hs.loop (fun s=>∃ k : Nat,s.2 = (k : Int) ∧ k ≤ x.length ∧ s.1 = Tj u.1 x k) (fun s=>x.length - s.2.toNat) ⟨0,rfl,Nat.zero_le _,(Acg _ _).symm⟩ ?_
 rintro ⟨y,i⟩ ⟨k,hi,hk,hy⟩
 simp only at hi hy
 subst hi hy
 have hyl:=Abg u.1 x hk
 unfold OU
 refine .dec (fun hlt=>?_) fun hge=>?_
 ·have hlt : k < x.length:=by simp only at hlt; omega
  refine .chk (by omega) ?_
  have hs:=hx.1.2 _ (List.getElem_mem hlt)
  rw [Int.toNat_natCast,AcH hlt,Option.bind_some,add_eq _ _ (by have:=hs.1.length_le; omega),Option.bind_some]
  refine .chk (by omega) ?_
  rw [Option.bind_some,AcI hlt,Kq (by omega)]
  exact .cnt ⟨⟨k + 1,rfl,hlt,rfl⟩,by simp only; omega⟩
 ·obtain rfl : k = x.length:=by simp only at hge; omega
  rw [AcG]
  unfold OW
  exact .lft (.cnt ⟨⟨hu.1,AeG hf hx hu.2,by simp only [w]; omega,by simp only [w]; omega⟩,by simp only [w]; omega⟩)
end Go.Proofs.YtcelninhkmhjkaaDoor
namespace Go.Proofs.YtcelninhkmhjkaaDoor
open Go Go.Dw Go.Proofs
theorem ZU {v : JY} : ∀ (l : List JL) (out : List JY),v ∈ out → v ∈ Nu l out
 | [],out,h=>h
 | x :: l,out,h=>by
  show v ∈ Nu l (if x.Op = 17 ∧ x.A ≠ x.B ∧ (⟨x.A,x.B⟩ : JY) ∉ out then out ++ [⟨x.A,x.B⟩] else out)
  refine ZU l _ ?_
  split
  ·exact List.mem_append_left _ h
  ·exact h
theorem Aan {x : JL} (h17 : x.Op = 17) (hab : x.A ≠ x.B) : ∀ (l : List JL) (out : List JY),x ∈ l → (⟨x.A,x.B⟩ : JY) ∈ Nu l out
 | [],out,h=>by cases h
 | y :: l,out,h=>by
  rcases List.mem_cons.1 h with rfl | h
  ·show (⟨x.A,x.B⟩ : JY) ∈ Nu l (if x.Op = 17 ∧ x.A ≠ x.B ∧ (⟨x.A,x.B⟩ : JY) ∉ out then out ++ [⟨x.A,x.B⟩] else out)
   refine ZU l _ ?_
   by_cases hm : (⟨x.A,x.B⟩ : JY) ∈ out
   ·rw [if_neg (fun hh=>hh.2.2 hm)]; exact hm
   ·rw [if_pos ⟨h17,hab,hm⟩]; simp
  ·exact Aan h17 hab l _ h
theorem Aem {f : JO} (hf : KP f) {l : List (List Int)} {a v : Int} (h : Ed Mk f l a v) : Ed Mf f l a v ∨ (⟨a,v⟩ : JY) ∈ Nu f.Code []:=by
 obtain ⟨j,hj,h1,h2,h3,h4,h5,h6⟩:=h
 cases hm : Mf (JW f j) v
 ·exact .inl ⟨j,hj,h1,h2,h3,h4,h5,hm⟩
 ·right
  simp only [Mf,Bool.and_eq_true,beq_iff_eq] at hm
  have hx:=hf.at (j:=(j : Int)) (by omega) (by omega)
  have hne : (JW f j).A ≠ (JW f j).B:=by rw [hm.2,← h1]; exact fun e=>h5 e.symm
  have:=Aan hm.1 hne f.Code [] hx.2
  rw [← h1,hm.2] at this
  exact this
theorem RB (codes : List Int) (hc : qL (Np .u8) codes) : Hs (Ky codes) fun b=>b = true:=by
 unfold Ky
 rw [AcT]
 simp only [Option.bind_some,Bool.not_true,cond_false]
 refine (AcE codes hc).bind fun p ⟨hcok,⟨ps,i,hfo⟩,h1,h2⟩=>?_
 have hf:=hfo.AhI (by omega)
 have hd:=hfo.defs
 have hlen:=hf.len'
 have hsl:=hf.slots
 refine (Aeu hcok hf).bind fun q ⟨_,hacc⟩=>?_
 have hlo:=hacc.1.len hf
 refine (AcQ hf hd hlo).bind fun g hg=>(Acy hf hd hlo).bind fun s hs=>?_
 rcases hg with ⟨g0,_,hg⟩ | ⟨_,hn,_⟩
 rotate_left
 ·exact (hn hacc).elim
 rcases hs with ⟨s0,_,hs⟩ | ⟨_,hn,_⟩
 rotate_left
 ·exact (hn hacc).elim
 refine .bne (fun h=>(h g0).elim) fun _=>.bne (fun h=>(h s0).elim) fun _=>.bne (fun h=>(h (by rw [hg.1])).elim) fun _=>.bne (fun h=>(h (by rw [hs.1])).elim) fun _=>?_
 unfold KZ
 rw [AbA _ (by omega),Option.bind_some]
 have hml:=YL p.1.Code []
 have hmv : ∀ a v : Int,Ed Mk p.1 q.1.Out a v → Ed Mf p.1 q.1.Out a v ∨ (⟨a,v⟩ : JY) ∈ Nu p.1.Code []:=fun a v h=>Aem hf h
 generalize Nu p.1.Code [] = mv at hml hmv
 simp only [List.length_nil] at hml
 refine Hs.loop (fun i=>∃ k : Nat,i = (k : Int) ∧ k ≤ s.1.length) (fun i=>s.1.length - i.toNat) ⟨0,rfl,by omega⟩ ?_
 rintro _ ⟨k,rfl,hk⟩
 unfold KW
 have hsn:=hs.1
 have hgn:=hg.1
 refine .dec (fun hlt=>?_) fun _=>.lft (.pure rfl)
 have hlt : k < s.1.length:=by omega
 have e1 : s.1[k]? = some s.1[k]:=List.getElem?_eq_getElem _
 have e2 : g.1[k]? = some (g.1[k]'(by omega)):=List.getElem?_eq_getElem _
 generalize s.1[k] = rs at e1
 generalize g.1[k]'(by omega) = rg at e2
 have q1:=hs.2 k rs e1
 have q2:=hg.2 k rg e2
 have l1:=q1.1.1.length_le
 have l2:=q2.1.1.length_le
 refine Hs.loop (fun i=>∃ j : Nat,i = (j : Int) ∧ j ≤ rs.length) (fun i=>rs.length - i.toNat) ⟨0,rfl,by omega⟩ ?_
 rintro _ ⟨j,rfl,hj⟩
 unfold KX
 simp only [Pk,e1,e2,Option.bind_some]
 refine .dec (fun hlt2=>?_) fun _=>?_
 ·have hlt2 : j < rs.length:=by omega
  have ey : rs[j]? = some rs[j]:=List.getElem?_eq_getElem _
  have hym:=List.getElem_mem hlt2
  generalize rs[j] = y at ey hym
  simp only [ey,Option.bind_some,AhJ rg y (by omega)]
  have hy : y ∈ rg ∨ (⟨(k : Int),y⟩ : JY) ∈ mv ∨ (⟨y,(k : Int)⟩ : JY) ∈ mv:=by
   rcases (q1.2 y).1 hym with h | h
   ·rcases hmv _ _ h with h | h
    ·exact .inl ((q2.2 y).2 (.inl h))
    ·exact .inr (.inl h)
   ·rcases hmv _ _ h with h | h
    ·exact .inl ((q2.2 y).2 (.inr h))
    ·exact .inr (.inr h)
  refine Hs.loop (fun s=>∃ t : Nat,s.2 = (t : Int) ∧ t ≤ mv.length ∧ (s.1 = true ↔ y ∈ rg ∨ ∃ (u : Nat) (z : JY),u < t ∧ mv[u]? = some z ∧ (z = ⟨(k : Int),y⟩ ∨ z = ⟨y,(k : Int)⟩))) (fun s=>mv.length - s.2.toNat) ⟨0,rfl,Nat.zero_le _,?_⟩ ?_
  ·simp only [decide_eq_true_eq]
   exact ⟨.inl,fun h=>h.elim id fun ⟨u,_,hu,_⟩=>absurd hu (Nat.not_lt_zero _)⟩
  rintro ⟨moved,_⟩ ⟨t,rfl,ht,hmd⟩
  replace hmd : moved = true ↔ _:=hmd
  unfold KY
  refine .dec (fun hlt3=>?_) fun hge3=>?_
  ·have hlt3 : t < mv.length:=by simp only at hlt3; omega
   have ez : mv[t]? = some mv[t]:=List.getElem?_eq_getElem _
   generalize mv[t] = z at ez
   have w:=Kq (show t < 9223372036854775807 by omega)
   have up : ∀ b : Bool,(b = true ↔ moved = true ∨ z = ⟨(k : Int),y⟩ ∨ z = ⟨y,(k : Int)⟩) → (b = true ↔ y ∈ rg ∨ ∃ (u : Nat) (z : JY),u < t + 1 ∧ mv[u]? = some z ∧ (z = ⟨(k : Int),y⟩ ∨ z = ⟨y,(k : Int)⟩)):=by
    intro b hb
    rw [hb,hmd]
    constructor
    ·rintro ((h | ⟨u,x,hu,hx,h⟩) | h)
     ·exact .inl h
     ·exact .inr ⟨u,x,by omega,hx,h⟩
     ·exact .inr ⟨t,z,by omega,ez,h⟩
    ·rintro (h | ⟨u,x,hu,hx,h⟩)
     ·exact .inl (.inl h)
     ·by_cases e : u = t
      ·subst e
       rw [ez] at hx
       obtain rfl:=Option.some.inj hx
       exact .inr h
      ·exact .inl (.inr ⟨u,x,by omega,hx,h⟩)
   have hz : ∀ a b : Int,z = ⟨a,b⟩ ↔ z.a0 = a ∧ z.a1 = b:=fun a b=>by cases z; simp
   refine .cond (fun hm=>?_) fun hm=>?_
   ·replace hm : moved = true:=hm
    rw [w]
    exact .cnt ⟨⟨t + 1,rfl,hlt3,up true ⟨fun _=>.inl hm,fun _=>rfl⟩⟩,by simp only; omega⟩
   ·replace hm : moved = false:=hm
    refine .chk (by omega) ?_
    rw [Int.toNat_natCast,ez,Option.bind_some]
    refine .cond (fun hb=>?_) fun hb=>?_
    ·rw [w]
     refine .cnt ⟨⟨t + 1,rfl,hlt3,up true ?_⟩,by simp only; omega⟩
     rw [hz,hz]
     simp only [Bool.and_true,Bool.and_eq_true,beq_iff_eq] at hb
     exact ⟨fun _=>.inr (.inl hb),fun _=>rfl⟩
    ·refine .chk (by omega) ?_
     rw [w]
     simp only [Bool.and_true] at hb ⊢
     refine .cnt ⟨⟨t + 1,rfl,hlt3,up _ ?_⟩,by simp only; omega⟩
     show (z.a0 == y && z.a1 == (k : Int)) = true ↔ _
     rw [hz,hz,hm]
     have hb' : ¬ (z.a0 = (k : Int) ∧ z.a1 = y):=fun h=>by simp [h.1,h.2] at hb
     simp only [Bool.and_eq_true,beq_iff_eq,Bool.false_eq_true,false_or]
     exact ⟨.inr,fun h=>h.resolve_left hb'⟩
  ·have ht : t = mv.length:=by simp only at hge3; omega
   have hm : moved = true:=hmd.2 (by
    rcases hy with h | h | h
    ·exact .inl h
    ·obtain ⟨u,hu⟩:=List.getElem?_of_mem h
     exact .inr ⟨u,_,by have:=(List.getElem?_eq_some_iff.1 hu).1; omega,hu,.inl rfl⟩
    ·obtain ⟨u,hu⟩:=List.getElem?_of_mem h
     exact .inr ⟨u,_,by have:=(List.getElem?_eq_some_iff.1 hu).1; omega,hu,.inr rfl⟩)
   rw [hm]
   simp only [Bool.not_true,cond_false]
   unfold Lb
   rw [Kq (by omega)]
   exact .lft (.cnt ⟨⟨j + 1,rfl,hlt2⟩,by simp only; omega⟩)
 ·unfold La
  rw [Kq (by omega)]
  exact .lft (.cnt ⟨⟨k + 1,rfl,hlt⟩,by simp only; omega⟩)
theorem QJ (codes : List Int) (hc : qL (Np .u8) codes) : Ky codes = some true:=by
 obtain ⟨r,h,rfl⟩:=RB codes hc
 exact h
end Go.Proofs.YtcelninhkmhjkaaDoor
