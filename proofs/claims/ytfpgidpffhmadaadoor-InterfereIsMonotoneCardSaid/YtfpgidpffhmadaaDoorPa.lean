/-
  Plain laws about the typed programs.
-/
import Derived.Test.YtfpgidpffhmadaaDoorDc
import Derived.Test.YtfpgidpffhmadaaDoorDxP
namespace Go.Dw
section
variable {ι R α : Type} {body : ι → Option (ι ⊕ R)} {v : R}
theorem LL {α β : Type} (s : List α) (mk : β → Int → ι) (I : β → Nat → Prop) (F : β → List α → Option R)
  (hnil : ∀ acc,I acc s.length → ∃ v,body (mk acc s.length) = some (.inr v) ∧ F acc [] = some v)
  (hcons : ∀ acc (i : Nat) x r,I acc i → s.drop i = x :: r → i < s.length → s[i]? = some x →
   (∃ acc',I acc' (i + 1) ∧ body (mk acc i) = some (.inl (mk acc' ((i + 1 : Nat) : Int))) ∧ F acc (x :: r) = F acc' r) ∨ (∃ v,body (mk acc i) = some (.inr v) ∧ F acc (x :: r) = some v))
  (acc : β) (h0 : I acc 0) : JL body (mk acc 0) = F acc s:=by
 have : ∀ k i acc,i + k = s.length → I acc i → JL body (mk acc (i : Nat)) = F acc (s.drop i):=by
  intro k
  induction k with
  | zero =>
   intro i acc hi hI
   simp only [Nat.add_zero] at hi
   subst hi
   obtain ⟨v,h1,h2⟩:=hnil acc hI
   rw [Zp,h1,List.drop_length,h2]
  | succ k ih =>
   intro i acc hi hI
   have hl : i < s.length:=by omega
   have hd:=List.drop_eq_getElem_cons hl
   rw [hd]
   rcases hcons acc i _ _ hI hd hl (List.getElem?_eq_getElem hl) with ⟨acc',h1,h2,h3⟩ | ⟨v,h1,h2⟩
   ·rw [Zp,h2,h3]
    exact ih (i + 1) acc' (by omega) h1
   ·rw [Zp,h1,h2]
 have:=this s.length 0 acc (by omega) h0
 simpa using this
@[simp] theorem Pa (l : List α) (i : Nat) : ixO l (i : Int) = l[i]?:=by
 unfold ixO
 rw [if_neg (by omega)]
 simp
theorem Vs (l : List α) {i : Int} (h : 0 ≤ i) : ixO l i = l[i.toNat]?:=by
 unfold ixO
 rw [if_neg (by omega)]
@[simp] theorem Akb (l : List α) (i : Nat) : ixO l ((i : Int) + 1) = l[i + 1]?:=by
 have:=Pa l (i + 1)
 simpa using this
@[simp] theorem Aga (l : List α) : ixO l 0 = l[0]?:=Vs l (Int.le_refl 0)
theorem wrap64 {n : Int} (h0 : -9223372036854775808 ≤ n) (h1 : n ≤ 9223372036854775807) : IntKind.i64.wrap n = n:=AgL h0 h1
@[simp] theorem Aki : IntKind.i64.wrap 0 = 0:=by decide
@[simp] theorem Akj : IntKind.i64.wrap 1 = 1:=by decide
@[simp] theorem Akk : IntKind.i64.wrap 2 = 2:=by decide
@[simp] theorem Akl : IntKind.i64.wrap 3 = 3:=by decide
theorem JG {i : Nat} (h : i < 9223372036854775807) : IntKind.i64.wrap ((i : Int) + 1) = ((i + 1 : Nat) : Int):=by
 rw [wrap64 (by omega) (by omega)]; rfl
@[simp] theorem Akd (r : R) : (lft (some r) : Option (ι ⊕ R)) = some (.inr r):=rfl
@[simp] theorem Akc : (lft none : Option (ι ⊕ R)) = none:=rfl
@[simp] theorem Adt (s : ι) : (cnt s : Option (ι ⊕ R)) = some (.inl s):=rfl
theorem AjD {a : Int} (h0 : 0 ≤ a) (h1 : a ≤ 9223372036854775807) : IntKind.i64.wrap ((IntKind.u64.wrap (IntKind.i64.wrap a)).fdiv (2 ^ (Nat.min (1 : Int).toNat IntKind.u64.bits))) = a / 2:=by
 rw [wrap64 (by omega) h1]
 have e1 : IntKind.u64.wrap a = a:=by simp [IntKind.wrap,IntKind.signed,IntKind.bits]; omega
 have e2 : (2 : Int) ^ (Nat.min (1 : Int).toNat IntKind.u64.bits) = 2:=by decide
 rw [e1,e2,Int.fdiv_eq_ediv_of_nonneg _ (by omega),wrap64 (by omega) (by omega)]
theorem Agx (a b : Int) : UM a b = min a b:=by unfold UM; split <;> omega
end
end Go.Dw
namespace Go.Dw
open Go
def Hs {α : Type} (m : Option α) (P : α → Prop) : Prop:=∃ r,m = some r ∧ P r
section
variable {α β ι R : Type}
theorem Hs.pure {a : α} {P : α → Prop} (h : P a) : Hs (some a) P:=⟨a,rfl,h⟩
theorem Hs.bind {m : Option α} {f : α → Option β} {P : α → Prop} {Q : β → Prop} (h : Hs m P) (hf : ∀ r,P r → Hs (f r) Q) : Hs (m.bind f) Q:=by
 obtain ⟨r,rfl,hr⟩:=h
 exact hf r hr
theorem Hs.mono {m : Option α} {P Q : α → Prop} (h : Hs m P) (hf : ∀ r,P r → Q r) : Hs m Q:=by
 obtain ⟨r,h1,hr⟩:=h
 exact ⟨r,h1,hf r hr⟩
theorem Hs.chk {p : Prop} [Decidable p] {m : Option α} {P : α → Prop} (hp : p) (h : Hs m P) : Hs (chk p m) P:=by
 rw [JQ hp]; exact h
theorem Hs.cond {b : Bool} {x y : Option α} {P : α → Prop} (h1 : b = true → Hs x P) (h2 : b = false → Hs y P) : Hs (bif b then x else y) P:=by
 cases b
 ·exact h2 rfl
 ·exact h1 rfl
theorem Hs.dec {p : Prop} [Decidable p] {x y : Option α} {P : α → Prop} (h1 : p → Hs x P) (h2 : ¬ p → Hs y P) : Hs (bif decide p then x else y) P :=
 Hs.cond (fun h=>h1 (of_decide_eq_true h)) (fun h=>h2 (of_decide_eq_false h))
theorem Hs.beq {a b : Int} {x y : Option α} {P : α → Prop} (h1 : a = b → Hs x P) (h2 : a ≠ b → Hs y P) : Hs (bif a == b then x else y) P :=
 Hs.cond (fun h=>h1 (by simpa using h)) (fun h=>h2 (by simpa using h))
theorem Hs.bne {a b : Int} {x y : Option α} {P : α → Prop} (h1 : a ≠ b → Hs x P) (h2 : a = b → Hs y P) : Hs (bif a != b then x else y) P :=
 Hs.cond (fun h=>h1 (by simpa using h)) (fun h=>h2 (by simpa using h))
theorem Hs.cnt {s : ι} {P : ι ⊕ R → Prop} (h : P (.inl s)) : Hs (Go.Dw.cnt s) P:=⟨_,rfl,h⟩
theorem Hs.lft {m : Option R} {P : ι ⊕ R → Prop} (h : Hs m fun r=>P (.inr r)) : Hs (Go.Dw.lft m) P:=by
 obtain ⟨r,rfl,h⟩:=h
 exact ⟨_,rfl,h⟩
def Rnd (I : ι → Prop) (μ : ι → Nat) (s : ι) (Q : R → Prop) : ι ⊕ R → Prop
 | .inl s'=>I s' ∧ μ s' < μ s
 | .inr r=>Q r
theorem Hs.loop {body : ι → Option (ι ⊕ R)} {s : ι} {Q : R → Prop} (I : ι → Prop) (μ : ι → Nat) (h0 : I s) (hb : ∀ s,I s → Hs (body s) (Rnd I μ s Q)) : Hs (JL body s) Q:=by
 refine Yp I Q μ h0 fun s hs=>?_
 obtain ⟨z,hz,hq⟩:=hb s hs
 cases z with
 | inl s'=>exact .inl ⟨s',hz,hq⟩
 | inr r=>exact .inr ⟨r,hz,hq⟩
theorem Hs.get {l : List α} {i : Int} {P : α → Prop} (h0 : 0 ≤ i) (h1 : i < l.length) (h : ∀ x,l[i.toNat]? = some x → P x) : Hs (l[i.toNat]?) P:=by
 have : l[i.toNat]? = some (l[i.toNat]'(by omega)):=List.getElem?_eq_getElem _
 exact ⟨_,this,h _ this⟩
theorem Hs.ix {l : List α} {i : Int} {P : α → Prop} (h0 : 0 ≤ i) (h1 : i < l.length) (h : ∀ x,l[i.toNat]? = some x → P x) : Hs (ixO l i) P:=by
 rw [Vs _ h0]; exact Hs.get h0 h1 h
end
theorem AaJ (n : Int) : 0 ≤ IntKind.u64.wrap n ∧ IntKind.u64.wrap n < 18446744073709551616:=by
 simp [IntKind.wrap,IntKind.signed,IntKind.bits]; omega
end Go.Dw
namespace Go.Proofs.YtfpgidpffhmadaaDoor
open Go Go.Dw Go.Proofs
attribute [local simp] JQ Bool.cond_eq_ite
theorem Ags (n : Int) : SE n = some (decide (0 ≤ n ∧ n < 512)):=by
 unfold SE
 by_cases h : 0 ≤ n <;> simp [h]
theorem Aee (s : List Int) (n : Int) (hs : s.length ≤ 9223372036854775807) : Um s n = some (decide (n ∈ s)):=by
 unfold Um
 refine LL s (fun (_ : Unit) i=>i) (fun _ _=>True) (fun _ l=>some (decide (n ∈ l))) (fun _ _=>⟨_,by simp [Qj],rfl⟩) (fun _ i x r _ hd hi hx=>?_) () trivial
 have w:=JG (show i < 9223372036854775807 by omega)
 by_cases h : x = n
 ·exact .inr ⟨true,by simp [Qj,hi,(List.getElem?_eq_some_iff.1 hx).2,h],by simp [h]⟩
 ·refine .inl ⟨(),trivial,?_,?_⟩
  ·obtain ⟨_,rfl⟩:=List.getElem?_eq_some_iff.1 hx
   simp [Qj,hi,h,w]
  ·have : n ≠ x:=fun e=>h e.symm
   simp [this]
def OU (n : Int) : List Int → List Int
 | []=>[n]
 | x :: r=>if x < n then x :: OU n r else if x = n then x :: r else n :: x :: r
theorem Aba (n : Int) : ∀ s,(OU n s).length ≤ s.length + 1
 | []=>by simp [OU]
 | x :: r=>by
  have:=Aba n r
  simp only [OU]
  split
  ·simp; omega
  ·split <;> simp
def NU (n : Int) (s : List Int) : List Int:=if 0 ≤ n ∧ n < 512 then OU n s else s
theorem add_eq (s : List Int) (n : Int) (hs : s.length ≤ 1000000) : Om s n = some (NU n s):=by
 unfold Om NU
 rw [Ags]
 simp only [Option.bind_some]
 have key : ∀ d : Bool,JL (fun s_1 : List Int × Bool × Int=>Ls s n s_1.1 s_1.2.1 s_1.2.2) ([],d,0) = some (if d then s else OU n s):=by
  intro d
  have:=LL (body:=fun s_1 : List Int × Bool × Int=>Ls s n s_1.1 s_1.2.1 s_1.2.2) s (fun (p : List Int × Bool) i=>(p.1,p.2,i)) (fun p i=>p.1.length ≤ i + (if p.2 then 1 else 0)) (fun p l=>some (p.1 ++ (if p.2 then l else OU n l)))
   (fun p hp=>by
    obtain ⟨out,done⟩:=p
    cases done <;> simp only [if_true,Bool.false_eq_true,if_false] at hp
    ·exact ⟨out ++ [n],by simp [Ls,show out.length ≤ 16777215 by omega],by simp [OU]⟩
    ·exact ⟨out,by simp [Ls],by simp⟩)
   (fun p i x r hp hd hi hx=>by
    obtain ⟨out,done⟩:=p
    have w:=JG (show i < 9223372036854775807 by omega)
    obtain ⟨_,rfl⟩:=List.getElem?_eq_some_iff.1 hx
    left
    cases done <;> simp only [if_true,Bool.false_eq_true,if_false] at hp
    ·by_cases h1 : n ≤ s[i]
     ·by_cases h2 : n < s[i]
      ·refine ⟨(out ++ [n] ++ [s[i]],true),by simp; omega,?_,?_⟩
       ·simp [Ls,NA,MD,hi,h1,h2,w,show out.length ≤ 16777215 by omega,show out.length ≤ 16777214 by omega]
       ·simp [OU,show ¬ s[i] < n by omega,show ¬ s[i] = n by omega]
      ·refine ⟨(out ++ [s[i]],true),by simp; omega,?_,?_⟩
       ·simp [Ls,NA,MD,hi,h1,h2,w,show out.length ≤ 16777215 by omega]
       ·simp [OU,show ¬ s[i] < n by omega,show s[i] = n by omega]
     ·refine ⟨(out ++ [s[i]],false),by simp; omega,?_,?_⟩
      ·simp [Ls,NA,MD,hi,h1,w,show out.length ≤ 16777215 by omega]
      ·simp [OU,show s[i] < n by omega]
    ·refine ⟨(out ++ [s[i]],true),by simp; omega,?_,?_⟩
     ·simp [Ls,NA,MD,hi,w,show out.length ≤ 16777215 by omega]
     ·simp)
   ([],d) (by simp)
  simpa using this
 rw [key]
 by_cases h : 0 ≤ n ∧ n < 512 <;> simp [h]
def Rk : Option Int → List Int → Bool
 | _,[]=>true
 | p,x :: r=>decide (0 ≤ x ∧ x < 512) && (match p with | none=>true | some y=>decide (y < x)) && Rk (some x) r
def JR (s : List Int) : Prop:=s.Pairwise (· < ·) ∧ ∀ x ∈ s,0 ≤ x ∧ x < 512
theorem AcB : ∀ (p : Option Int) (s : List Int),Rk p s = true ↔ JR s ∧ ∀ y,p = some y → ∀ x ∈ s,y < x
 | p,[]=>by simp [Rk,JR]
 | p,x :: r=>by
  simp only [Rk,Bool.and_eq_true,AcB (some x) r,decide_eq_true_eq,JR,List.pairwise_cons,List.mem_cons,forall_eq_or_imp,Option.some.injEq]
  constructor
  ·rintro ⟨⟨h1,h2⟩,⟨h3,h4⟩,h5⟩
   have h5':=h5 x rfl
   refine ⟨⟨⟨h5',h3⟩,h1,h4⟩,fun y hy=>?_⟩
   subst hy
   simp only [decide_eq_true_eq] at h2
   exact ⟨h2,fun z hz=>Int.lt_trans h2 (h5' z hz)⟩
  ·rintro ⟨⟨⟨h1,h2⟩,h3,h4⟩,h5⟩
   refine ⟨⟨h3,?_⟩,⟨h2,h4⟩,fun y hy z hz=>by subst hy; exact h1 z hz⟩
   cases p with
   | none=>rfl
   | some y=>simpa using (h5 y rfl).1
theorem AaF (s : List Int) : Rk none s = true ↔ JR s:=by
 rw [AcB]; simp
theorem JR.length_le {s : List Int} (h : JR s) : s.length ≤ 512:=by
 have : ∀ (s : List Int) (a : Int),s.Pairwise (· < ·) → (∀ x ∈ s,a ≤ x ∧ x < 512) → a ≤ 512 → (s.length : Int) ≤ 512 - a:=by
  intro s
  induction s with
  | nil=>intro a _ _ ha; simp; omega
  | cons x r ih =>
   intro a hp hb ha
   rw [List.pairwise_cons] at hp
   have hx:=hb x (by simp)
   have:=ih (x + 1) hp.2 (fun y hy=>⟨by have:=hp.1 y hy; omega,(hb y (by simp [hy])).2⟩) (by omega)
   simp only [List.length_cons]
   omega
 have:=this s 0 h.1 h.2 (by omega)
 omega
theorem Vw (n m : Int) : ∀ s,m ∈ OU n s ↔ m = n ∨ m ∈ s
 | []=>by simp [OU]
 | x :: r=>by
  simp only [OU]
  split
  ·simp only [List.mem_cons,Vw n m r]
   constructor
   ·rintro (h | h | h) <;> simp [h]
   ·rintro (h | h | h) <;> simp [h]
  ·split
   ·rename_i h; subst h; simp
   ·simp
theorem JR.OU {n : Int} {s : List Int} (h : JR s) (hn : 0 ≤ n ∧ n < 512) : JR (Proofs.YtfpgidpffhmadaaDoor.OU n s):=by
 refine ⟨?_,fun x hx=>?_⟩
 ·replace h:=h.1
  clear hn
  induction s with
  | nil=>simp [Proofs.YtfpgidpffhmadaaDoor.OU]
  | cons x r ih =>
   rw [List.pairwise_cons] at h
   simp only [Proofs.YtfpgidpffhmadaaDoor.OU]
   split
   ·rw [List.pairwise_cons]
    refine ⟨fun y hy=>?_,ih h.2⟩
    rw [Vw] at hy
    rcases hy with rfl | hy
    ·assumption
    ·exact h.1 y hy
   ·split
    ·rw [List.pairwise_cons]; exact h
    ·rw [List.pairwise_cons,List.pairwise_cons]
     refine ⟨fun y hy=>?_,h⟩
     rcases List.mem_cons.1 hy with rfl | hy
     ·omega
     ·have:=h.1 y hy; omega
 ·rw [Vw] at hx
  rcases hx with rfl | hx
  ·exact hn
  ·exact h.2 x hx
theorem JR.nil : JR []:=⟨List.Pairwise.nil,fun x hx=>by cases hx⟩
end Go.Proofs.YtfpgidpffhmadaaDoor
namespace Go.Proofs.YtfpgidpffhmadaaDoor
open Go Go.Dw Go.Proofs
attribute [local simp] JQ Bool.cond_eq_ite
theorem AaD (n : Int) : KI n = some (decide (0 ≤ n ∧ n < 512)):=by
 unfold KI
 by_cases h : 0 ≤ n <;> simp [h]
theorem YR {n : Int} (h : 0 ≤ n ∧ n < 512) : KI n = some true:=by rw [AaD,decide_eq_true h]
theorem Adi {n : Int} (h : ¬ (0 ≤ n ∧ n < 512)) : KI n = some false:=by rw [AaD,decide_eq_false h]
theorem TZ (s : List Int) (hs : s.length ≤ 9223372036854775807) : Ov s = some (Rk none s):=by
 unfold Ov
 refine LL s (fun (_ : Option Int) i=>i) (fun p i=>match i with | 0=>p = none | k + 1=>s[k]? = p ∧ p ≠ none) (fun p l=>some (Rk p l)) (fun _ _=>⟨true,by simp [LH],by simp [Rk]⟩) (fun p i x r hp hd hi hx=>?_) none rfl
 have w:=JG (show i < 9223372036854775807 by omega)
 obtain ⟨_,rfl⟩:=List.getElem?_eq_some_iff.1 hx
 by_cases hg : 0 ≤ s[i] ∧ s[i] < 512
 ·cases i with
  | zero =>
   simp only at hp
   subst hp
   exact .inl ⟨some s[0],⟨hx,by simp⟩,by simp [LH,hi,YR hg],by simp [Rk,hg]⟩
  | succ k =>
   obtain ⟨hp,hpn⟩:=hp
   have hk : k < s.length:=by omega
   rw [List.getElem?_eq_getElem hk] at hp
   subst hp
   have w : IntKind.i64.wrap ((k : Int) + 1 + 1) = (k : Int) + 1 + 1:=wrap64 (by omega) (by omega)
   have wp : IntKind.i64.wrap (k : Int) = k:=wrap64 (by omega) (by omega)
   have e0 : (k : Int) + 1 - 1 = k:=by omega
   by_cases hlt : s[k] < s[k + 1]
   ·exact .inl ⟨some s[k + 1],⟨hx,by simp⟩,by simp [LH,hi,YR hg,w,wp,e0,hk,show ¬ s[k + 1] ≤ s[k] by omega,show (0 : Int) < k + 1 by omega,show (k : Int) + 1 < s.length by omega],by simp [Rk,hg,hlt]⟩
   ·exact .inr ⟨false,by simp [LH,hi,YR hg,w,wp,e0,hk,show s[k + 1] ≤ s[k] by omega,show (0 : Int) < k + 1 by omega,show (k : Int) + 1 < s.length by omega],by simp [Rk,hlt]⟩
 ·exact .inr ⟨false,by simp [LH,hi,Adi hg],by simp [Rk,hg]⟩
end Go.Proofs.YtfpgidpffhmadaaDoor
namespace Go.Proofs.YtfpgidpffhmadaaDoor
open Go Go.Dw Go.Proofs
attribute [local simp] JQ Bool.cond_eq_ite
theorem AgC (a b : List Int) (h : a.length ≤ 9223372036854775807) : SC a b = some (decide (a = b)):=by
 unfold SC
 by_cases hl : a.length = b.length
 ·have:=LL (body:=fun i : Int=>NX a b i) a (fun (_ : List Int) i=>i) (fun acc i=>b.drop i = acc) (fun acc l=>some (decide (l = acc)))
   (fun acc hacc=>⟨true,by simp [NX],by rw [hl] at hacc; simp at hacc; simp [← hacc]⟩) (fun acc i x r hacc hd hi hx=>by
    have w:=JG (show i < 9223372036854775807 by omega)
    obtain ⟨_,rfl⟩:=List.getElem?_eq_some_iff.1 hx
    have hib : i < b.length:=by omega
    have hdb:=List.drop_eq_getElem_cons hib
    by_cases e : a[i] = b[i]
    ·exact .inl ⟨b.drop (i + 1),rfl,by simp [NX,hi,hib,e,w],by rw [← hacc,hdb]; simp only [List.cons.injEq,e,true_and]⟩
    ·exact .inr ⟨false,by simp [NX,hi,hib,e],by rw [← hacc,hdb]; simp only [List.cons.injEq,e,false_and,decide_false]⟩)
   b (by simp)
  simpa [hl] using this
 ·have : ¬ a = b:=fun e=>hl (by rw [e])
  simp [this,show ¬ (a.length : Int) = b.length by omega]
end Go.Proofs.YtfpgidpffhmadaaDoor
namespace Go.Proofs.YtfpgidpffhmadaaDoor
open Go Go.Dw Go.Proofs
attribute [local simp] JQ Bool.cond_eq_ite
theorem AdO (a b : List (List Int)) (h : a.length ≤ 9223372036854775807) (hr : ∀ s ∈ a,s.length ≤ 9223372036854775807) : Pb a b = some (decide (a = b)):=by
 unfold Pb
 by_cases hl : a.length = b.length
 ·have:=LL (body:=fun i : Int=>Md a b i) a (fun (_ : List (List Int)) i=>i) (fun acc i=>b.drop i = acc) (fun acc l=>some (decide (l = acc)))
   (fun acc hacc=>⟨true,by simp [Md],by rw [hl] at hacc; simp at hacc; simp [← hacc]⟩) (fun acc i x r hacc hd hi hx=>by
    have w:=JG (show i < 9223372036854775807 by omega)
    obtain ⟨_,rfl⟩:=List.getElem?_eq_some_iff.1 hx
    have hib : i < b.length:=by omega
    have hdb:=List.drop_eq_getElem_cons hib
    have hs:=AgC a[i] b[i] (hr _ (List.getElem_mem _))
    by_cases e : a[i] = b[i]
    ·refine .inl ⟨b.drop (i + 1),rfl,?_,by rw [← hacc,hdb]; simp only [List.cons.injEq,e,true_and]⟩
     rw [decide_eq_true e] at hs
     simp [Md,hi,hib,hs,w]
    ·refine .inr ⟨false,?_,by rw [← hacc,hdb]; simp only [List.cons.injEq,e,false_and,decide_false]⟩
     rw [decide_eq_false e] at hs
     simp [Md,hi,hib,hs])
   b (by simp)
  simpa [hl] using this
 ·have : ¬ a = b:=fun e=>hl (by rw [e])
  simp [this,show ¬ (a.length : Int) = b.length by omega]
end Go.Proofs.YtfpgidpffhmadaaDoor
namespace Go.Proofs.YtfpgidpffhmadaaDoor
open Go Go.Dw Go.Proofs
attribute [local simp] JQ Bool.cond_eq_ite
theorem Ace (s : List Int) (n : Int) (hs : s.length ≤ 16777215) : Oz s n = some (s.filter (· != n)):=by
 unfold Oz
 have:=LL (body:=fun p : List Int × Int=>ME s n p.1 p.2) s (fun (out : List Int) i=>(out,i)) (fun out i=>out.length ≤ i) (fun out l=>some (out ++ l.filter (· != n)))
  (fun out _=>⟨out,by simp [ME],by simp⟩) (fun out i x r ho hd hi hx=>by
   have w:=JG (show i < 9223372036854775807 by omega)
   obtain ⟨_,rfl⟩:=List.getElem?_eq_some_iff.1 hx
   left
   by_cases h : s[i] = n
   ·exact ⟨out,by omega,by simp [ME,hi,h,w],by simp [h]⟩
   ·exact ⟨out ++ [s[i]],by simp; omega,by simp [ME,hi,h,w,show out.length ≤ 16777215 by omega],by simp [h]⟩)
  [] (by simp)
 simpa using this
def Lv (a b : List Int) : List Int:=b.foldl (fun o x=>NU x o) a
theorem Adj (n : Int) (s : List Int) : (NU n s).length ≤ s.length + 1:=by
 unfold NU
 split
 ·exact Aba n s
 ·omega
theorem union_eq (a b : List Int) (h : a.length + b.length ≤ 1000000) : On a b = some (Lv a b):=by
 unfold On Lv
 rw [JQ (by simp; omega)]
 have:=LL (body:=fun p : List Int × Int=>Ou b p.1 p.2) b (fun (out : List Int) i=>(out,i)) (fun out i=>out.length ≤ a.length + i) (fun out l=>some (l.foldl (fun o x=>NU x o) out))
  (fun out _=>⟨out,by simp [Ou],by simp⟩) (fun out i x r ho hd hi hx=>by
   have w:=JG (show i < 9223372036854775807 by omega)
   obtain ⟨_,rfl⟩:=List.getElem?_eq_some_iff.1 hx
   have hl:=Adj b[i] out
   left
   exact ⟨NU b[i] out,by omega,by simp [Ou,hi,add_eq out b[i] (by omega),w],by simp⟩)
  a (by simp)
 simpa using this
theorem AbI : ∀ {a b : List Int},a.Pairwise (· < ·) → b.Pairwise (· < ·) → (∀ v ∈ a,v ∈ b) → a.Sublist b
 | [],_,_,_,_=>List.nil_sublist _
 | x :: a,[],_,_,h=>by have:=h x (List.mem_cons_self ..); cases this
 | x :: a,y :: b,ha,hb,h=>by
  rw [List.pairwise_cons] at ha hb
  by_cases e : x = y
  ·subst e
   refine (AbI ha.2 hb.2 fun v hv=>?_).cons_cons x
   rcases List.mem_cons.1 (h v (List.mem_cons_of_mem _ hv)) with h1 | h1
   ·have:=ha.1 v hv; omega
   ·exact h1
  ·have hx : x ∈ b:=by
    rcases List.mem_cons.1 (h x (List.mem_cons_self ..)) with h1 | h1
    ·exact (e h1).elim
    ·exact h1
   have hyx:=hb.1 x hx
   refine (AbI (List.pairwise_cons.2 ha) hb.2 fun v hv=>?_).cons y
   rcases List.mem_cons.1 (h v hv) with h1 | h1
   ·subst h1
    rcases List.mem_cons.1 hv with h2 | h2
    ·omega
    ·have:=ha.1 v h2; omega
   ·exact h1
theorem JR.sub {a b : List Int} (ha : JR a) (hb : JR b) (h : ∀ v ∈ a,v ∈ b) : a.Sublist b:=AbI ha.1 hb.1 h
theorem JR.ext {a b : List Int} (ha : JR a) (hb : JR b) (h : ∀ v,v ∈ a ↔ v ∈ b) : a = b :=
 (ha.sub hb fun v hv=>(h v).1 hv).eq_of_length_le (hb.sub ha fun v hv=>(h v).2 hv).length_le
theorem JR.filter {a : List Int} (ha : JR a) (p : Int → Bool) : JR (a.filter p) :=
 ⟨ha.1.sublist List.filter_sublist,fun x hx=>ha.2 x ((List.mem_filter.1 hx).1)⟩
theorem Kc.AgP {n m : Int} {s : List Int} (h : JR s ∧ ∀ x ∈ s,x < n) (hm : 0 ≤ m ∧ m < n) (hn : n ≤ 512) : JR (NU m s) ∧ (∀ x ∈ NU m s,x < n) ∧ ∀ v,v ∈ NU m s ↔ v = m ∨ v ∈ s:=by
 unfold NU
 rw [if_pos (by omega)]
 refine ⟨h.1.OU (by omega),fun x hx=>?_,fun v=>Vw _ _ _⟩
 rw [Vw] at hx
 rcases hx with rfl | hx
 ·exact hm.2
 ·exact h.2 x hx
theorem QU {n : Int} (hn : n ≤ 512) : ∀ {b a : List Int},(JR a ∧ ∀ x ∈ a,x < n) → (∀ x ∈ b,0 ≤ x ∧ x < n) → (JR (Lv a b) ∧ ∀ x ∈ Lv a b,x < n) ∧ ∀ v,v ∈ Lv a b ↔ v ∈ a ∨ v ∈ b
 | [],a,ha,_=>⟨ha,fun v=>by simp [Lv]⟩
 | x :: b,a,ha,hb=>by
  obtain ⟨h1,h2,h3⟩:=Kc.AgP ha (hb x (List.mem_cons_self ..)) hn
  obtain ⟨h4,h5⟩:=QU hn ⟨h1,h2⟩ fun y hy=>hb y (List.mem_cons_of_mem _ hy)
  refine ⟨h4,fun v=>?_⟩
  show v ∈ Lv (NU x a) b ↔ _
  rw [h5,h3,List.mem_cons]
  constructor
  ·rintro ((h | h) | h)
   ·exact .inr (.inl h)
   ·exact .inl h
   ·exact .inr (.inr h)
  ·rintro (h | h | h)
   ·exact .inl (.inr h)
   ·exact .inl (.inl h)
   ·exact .inr h
end Go.Proofs.YtfpgidpffhmadaaDoor
namespace Go.Proofs.YtfpgidpffhmadaaDoor
open Go Go.Dw Go.Proofs
attribute [local simp] JQ Bool.cond_eq_ite
def Og (l : List Int) (p : Int → Prop) : Prop:=JR l ∧ ∀ v,v ∈ l ↔ (0 ≤ v ∧ v < 512) ∧ p v
theorem Og.eq {l m : List Int} {p q : Int → Prop} (h : Og l p) (k : Og m q) (e : ∀ v,0 ≤ v → v < 512 → (p v ↔ q v)) : l = m :=
 h.1.ext k.1 fun v=>by
  rw [h.2,k.2]
  exact ⟨fun ⟨a,b⟩=>⟨a,(e v a.1 a.2).1 b⟩,fun ⟨a,b⟩=>⟨a,(e v a.1 a.2).2 b⟩⟩
theorem Og.Abx {l : List Int} (h : JR l) : Og l (· ∈ l):=⟨h,fun v=>⟨fun k=>⟨h.2 v k,k⟩,fun k=>k.2⟩⟩
theorem Og.mono {l : List Int} {p q : Int → Prop} (h : Og l p) (e : ∀ v,0 ≤ v → v < 512 → (p v ↔ q v)) : Og l q :=
 ⟨h.1,fun v=>by rw [h.2]; exact ⟨fun ⟨a,b⟩=>⟨a,(e v a.1 a.2).1 b⟩,fun ⟨a,b⟩=>⟨a,(e v a.1 a.2).2 b⟩⟩⟩
abbrev BS:=Jf
def LS (t : BS) : Prop:=∀ w ∈ t.toList,WW w
theorem BS.len (t : BS) : t.toList.length = 8:=rfl
def Py (t : BS) (i : Nat) : Int:=(t.toList[i]?).getD 0
def hasB (t : BS) (v : Int) : Bool:=Vj (Py t (v.toNat / 64)) (v.toNat % 64)
theorem Uo {t : BS} {i : Nat} (h : i < 8) : t.toList[i]? = some (Py t i):=by
 have : t.toList[i]? = some (t.toList[i]'(show i < 8 from h)):=List.getElem?_eq_getElem _
 simp [Py,this]
theorem LS.word {t : BS} (h : LS t) {i : Nat} (hi : i < 8) : WW (Py t i):=h _ (List.mem_of_getElem? (Uo hi))
theorem Aci {t : BS} {i j : Nat} {w : Int} (hi : i < 8) : Py (t.set i w) j = if i = j then w else Py t j:=by
 unfold Py
 rw [Ly,List.getElem?_set]
 by_cases h : i = j
 ·subst h
  simp [show i < (Jf.toList t).length from hi]
 ·simp [h]
theorem LS.set {t : BS} (h : LS t) {i : Nat} {w : Int} (hw : WW w) : LS (t.set i w):=by
 intro x hx
 rw [Ly] at hx
 rcases List.mem_or_eq_of_mem_set hx with h1 | rfl
 ·exact h x h1
 ·exact hw
theorem LS.zero : LS ⟨0,0,0,0,0,0,0,0⟩:=by
 intro w hw
 simp [Jf.toList] at hw
 subst hw
 exact ⟨by omega,by omega⟩
theorem Aed (v : Int) : hasB ⟨0,0,0,0,0,0,0,0⟩ v = false:=by
 have : Py ⟨0,0,0,0,0,0,0,0⟩ (v.toNat / 64) = 0:=by
  unfold Py
  have hl : ∀ i : Nat,(([0,0,0,0,0,0,0,0] : List Int)[i]?).getD 0 = 0:=by
   intro i
   match i with
   | 0 | 1 | 2 | 3 | 4 | 5 | 6 | 7=>rfl
   | n + 8=>rfl
  exact hl _
 unfold hasB
 rw [this]
 simp [Vj]
theorem Agp (n : Int) : 0 ≤ (IntKind.u64.wrap n).tmod 64 ∧ (0 ≤ n → n < 512 → ((IntKind.u64.wrap n).tmod 64).toNat = n.toNat % 64):=by
 obtain ⟨h0,h1⟩:=AaJ n
 rw [Int.tmod_eq_emod_of_nonneg h0]
 refine ⟨by omega,fun ha hb=>?_⟩
 rw [Aev ⟨ha,by omega⟩]
 omega
theorem Ago {n : Int} (h0 : 0 ≤ n) (h1 : n < 512) : IntKind.i64.wrap (n.tdiv 64) = ((n.toNat / 64 : Nat) : Int):=by
 rw [Int.tdiv_eq_ediv_of_nonneg h0,wrap64 (by omega) (by omega)]
 omega
theorem AgQ {n : Int} (h0 : 0 ≤ n) (h1 : n < 512) : IntKind.u64.wrap (1 * 2 ^ (Nat.min ((IntKind.u64.wrap n).tmod 64).toNat IntKind.u64.bits)) = ((2 ^ (n.toNat % 64) : Nat) : Int):=by
 rw [(Agp n).2 h0 h1]
 have e : Nat.min (n.toNat % 64) IntKind.u64.bits = n.toNat % 64:=Nat.min_eq_left (by show n.toNat % 64 ≤ 64; omega)
 rw [e,Int.one_mul]
 have hp : 2 ^ (n.toNat % 64) < 18446744073709551616:=by
  have:=Nat.pow_lt_pow_right (a:=2) (by decide) (show n.toNat % 64 < 64 by omega)
  simpa using this
 have:=Xy hp
 rw [Int.natCast_pow] at this ⊢
 exact this
theorem AcY (j : Nat) (h : j < 64) : 2 ^ j < 18446744073709551616:=by
 have:=Nat.pow_lt_pow_right (a:=2) (by decide) h
 simpa using this
theorem AjC {n v : Int} (h0 : 0 ≤ n) (h0' : 0 ≤ v) (hne : v ≠ n) (h : n.toNat / 64 = v.toNat / 64) : v.toNat % 64 ≠ n.toNat % 64:=by omega
theorem Aen {t : BS} (ht : LS t) (n : Int) (b : Bool) : Hs (Lp t n b) fun r=>LS r ∧ ∀ v,0 ≤ v → v < 512 → hasB r v = if v = n then b else hasB t v:=by
 unfold Lp
 refine .chk (Agp n).1 ?_
 rw [AaD,Option.bind_some]
 by_cases h : 0 ≤ n ∧ n < 512
 ·rw [decide_eq_true h]
  obtain ⟨h0,h1⟩:=h
  have hi : n.toNat / 64 < 8:=by omega
  have hb:=AgQ h0 h1
  have hw:=ht.word hi
  have hp : WW ((2 ^ (n.toNat % 64) : Nat) : Int):=WW.nat (AcY _ (by omega))
  have fin : ∀ (x : Nat),x < 18446744073709551616 → (∀ j,j < 64 → x.testBit j = if j = n.toNat % 64 then b else (Py t (n.toNat / 64)).toNat.testBit j) →
    LS (t.set (n.toNat / 64) (x : Int)) ∧ ∀ v,0 ≤ v → v < 512 → hasB (t.set (n.toNat / 64) (x : Int)) v = if v = n then b else hasB t v:=by
   intro x hx hbit
   refine ⟨ht.set (WW.nat hx),fun v hv0 hv1=>?_⟩
   unfold hasB
   rw [Aci hi]
   by_cases he : v = n
   ·subst he
    rw [if_pos rfl,if_pos rfl]
    show (x : Int).toNat.testBit _ = b
    rw [Int.toNat_natCast,hbit _ (by omega),if_pos rfl]
   ·rw [if_neg he]
    by_cases hq : n.toNat / 64 = v.toNat / 64
    ·rw [if_pos hq]
     show (x : Int).toNat.testBit _ = _
     rw [Int.toNat_natCast,hbit _ (by omega),if_neg (AjC h0 hv0 he hq),hq]
     rfl
    ·rw [if_neg hq]
  cases b with
  | true =>
   simp only [Bool.not_true,cond_false,cond_true]
   rw [Ago h0 h1]
   refine .chk (by omega) ?_
   rw [Int.toNat_natCast,Uo hi,Option.bind_some]
   refine .chk (by omega) ?_
   rw [Option.bind_some]
   refine .pure ?_
   rw [hb,AjF hw hp,Int.toNat_natCast]
   refine fin _ (Ael hw.toNat_lt (AcY _ (by omega))) fun j hj=>?_
   rw [Nat.testBit_or,Nat.testBit_two_pow]
   by_cases e : j = n.toNat % 64
   ·simp [e]
   ·rw [if_neg e]
    simp [show ¬ n.toNat % 64 = j from fun h=>e h.symm]
  | false =>
   simp only [Bool.not_true,cond_false]
   rw [Ago h0 h1]
   refine .chk (by omega) ?_
   rw [Int.toNat_natCast,Uo hi,Option.bind_some]
   refine .chk (by omega) ?_
   rw [Option.bind_some]
   refine .pure ?_
   rw [hb,AcA hw hp,Int.toNat_natCast]
   refine fin _ (AbH hw.toNat_lt) fun j hj=>?_
   rw [AcH hw.toNat_lt (AcY _ (by omega)),Nat.testBit_two_pow]
   by_cases e : j = n.toNat % 64
   ·simp [e]
   ·rw [if_neg e]
    simp [show ¬ n.toNat % 64 = j from fun h=>e h.symm]
 ·rw [decide_eq_false h]
  simp only [Bool.not_false,cond_true]
  exact .pure ⟨ht,fun v h0 h1=>by rw [if_neg (fun e=>h (by omega))]⟩
theorem AaG (l : List Int) (hl : l.length ≤ 9000000000000000000) : Hs (KX l) fun r=>LS r ∧ ∀ v,0 ≤ v → v < 512 → hasB r v = decide (v ∈ l):=by
 unfold KX
 refine Hs.loop (fun s=>LS s.1 ∧ ∃ k : Nat,s.2 = (k : Int) ∧ k ≤ l.length ∧ ∀ v,0 ≤ v → v < 512 → hasB s.1 v = decide (v ∈ l.take k)) (fun s=>l.length - s.2.toNat) ⟨LS.zero,0,rfl,Nat.zero_le _,fun v _ _=>by simp [Aed]⟩ ?_
 rintro ⟨t,k'⟩ ⟨ht,k,hk',hk,hall⟩
 simp only at ht hk' hall
 subst hk'
 unfold Qz
 refine .dec (fun hlt=>?_) fun hge=>?_
 ·have hlt : k < l.length:=by omega
  refine Hs.bind (P:=fun x=>l[k]? = some x) ⟨l[k],by simp [hlt],by simp [hlt]⟩ fun x hx=>(Aen ht x true).bind fun r hr=>.cnt ?_
  rw [JG (by omega)]
  refine ⟨⟨hr.1,k + 1,rfl,hlt,fun v h0 h1=>?_⟩,by simp only; omega⟩
  simp only
  rw [hr.2 v h0 h1,hall v h0 h1,List.take_add_one,hx]
  by_cases e : v = x
  ·simp [e]
  ·simp [e]
 ·have : k = l.length:=by omega
  subst this
  exact .lft (.pure ⟨ht,fun v h0 h1=>by rw [hall v h0 h1,List.take_length]⟩)
theorem JR.snoc {l : List Int} (h : JR l) {z : Int} (h0 : 0 ≤ z ∧ z < 512) (hz : ∀ x ∈ l,x < z) : JR (l ++ [z]):=by
 refine ⟨List.pairwise_append.2 ⟨h.1,List.pairwise_singleton _ _,fun a ha b hb=>?_⟩,fun x hx=>?_⟩
 ·simp only [List.mem_singleton] at hb; subst hb; exact hz a ha
 ·simp only [List.mem_append,List.mem_singleton] at hx
  rcases hx with h1 | rfl
  ·exact h.2 x h1
  ·exact h0
theorem Xv {t : BS} (ht : LS t) : Hs (Ko t) fun r=>r.2 = t ∧ Og r.1 (fun v=>hasB t v = true):=by
 unfold Ko
 refine Hs.loop (fun s=>∃ i : Nat,s.2 = (i : Int) ∧ i ≤ 8 ∧ Og s.1 (fun v=>v < 64 * i ∧ hasB t v = true)) (fun s=>8 - s.2.toNat) ⟨0,rfl,by omega,⟨JR.nil,fun v=>by simp; omega⟩⟩ ?_
 rintro ⟨l,i'⟩ ⟨i,hi',hi,hs⟩
 simp only at hi' hs
 subst hi'
 unfold Nn
 refine .dec (fun hlt=>?_) fun hge=>?_
 ·have hlt : i < 8:=by omega
  refine .chk (by omega) ?_
  rw [Int.toNat_natCast,Uo hlt,Option.bind_some]
  have hw:=ht.word hlt
  refine Hs.loop (fun s=>WW s.2 ∧ ∃ c : Nat,c ≤ 64 ∧ Og s.1 (fun v=>v < 64 * i + c ∧ hasB t v = true) ∧ ∀ j,j < 64 → Vj s.2 j = (decide (c ≤ j) && Vj (Py t i) j)) (fun s=>s.2.toNat) ⟨hw,0,by omega,by simpa using hs,fun j _=>by simp⟩ ?_
  rintro ⟨m,x⟩ ⟨hx,c,hc,hm,hb⟩
  simp only at hx hm hb
  unfold Np
  refine .bne (fun hne=>?_) fun he=>?_
  ·have hx0 : 0 < x.toNat:=by have:=hx.1; omega
   obtain ⟨k1,k2,k3,k4⟩:=Age hx0 hx.toNat_lt
   generalize hk : Lib.ctz 64 x.toNat = k at k1 k2 k3 k4
   have ek : ZE x = some (k : Int):=by
    unfold ZE
    rw [JQ (show 0 ≤ x ∧ x < 18446744073709551616 from hx),hk]
   rw [ek,Option.bind_some]
   have hck : c ≤ k:=by
    have:=hb k k1
    unfold Vj at this
    rw [k2] at this
    simp at this
    exact this.1
   have hwk : Vj (Py t i) k = true:=by
    have:=hb k k1
    unfold Vj at this
    rw [k2] at this
    simp at this
    exact this.2
   have e1 : IntKind.i64.wrap (IntKind.i64.wrap (64 * (i : Int)) + (k : Int)) = ((64 * i + k : Nat) : Int):=by
    rw [wrap64 (n:=64 * (i : Int)) (by omega) (by omega),wrap64 (by omega) (by omega)]; omega
   have e2 : IntKind.u64.wrap (x - 1) = x - 1:=Aev ⟨by omega,by have:=hx.2; omega⟩
   have e3 : (x - 1).toNat = x.toNat - 1:=by omega
   have hz : ∀ v ∈ m,v < ((64 * i + k : Nat) : Int):=fun v hv=>by
    have:=((hm.2 v).1 hv).2.1
    omega
   have hlen:=hm.1.length_le
   refine .chk (by simp; omega) (.cnt ?_)
   rw [e1,e2,AjI hx ⟨by omega,by have:=hx.2; omega⟩,e3]
   refine ⟨⟨WW.nat (AbH hx.toNat_lt),k + 1,by omega,⟨hm.1.snoc (by omega) hz,fun v=>?_⟩,fun j hj=>?_⟩,?_⟩
   ·simp only [List.mem_append,List.mem_singleton,hm.2]
    constructor
    ·rintro (⟨a,b,d⟩ | rfl)
     ·exact ⟨a,by omega,d⟩
     ·refine ⟨by omega,by omega,?_⟩
      unfold hasB
      have q1 : (((64 * i + k : Nat) : Int).toNat) / 64 = i:=by omega
      have q2 : (((64 * i + k : Nat) : Int).toNat) % 64 = k:=by omega
      rw [q1,q2]
      exact hwk
    ·rintro ⟨a,b,d⟩
     by_cases e : v = ((64 * i + k : Nat) : Int)
     ·exact .inr e
     ·refine .inl ⟨a,?_,d⟩
      refine Int.not_le.1 fun hle=>?_
      have q1 : v.toNat / 64 = i:=by omega
      have q3 : v.toNat % 64 < k:=by omega
      have q4 : c ≤ v.toNat % 64:=by omega
      have q5:=hb (v.toNat % 64) (by omega)
      unfold Vj at q5
      rw [k3 _ q3] at q5
      unfold hasB at d
      rw [q1] at d
      unfold Vj at d
      rw [d] at q5
      simp [q4] at q5
   ·simp only
    unfold Vj
    rw [Int.toNat_natCast,k4]
    have q:=hb j hj
    unfold Vj at q
    by_cases h1 : j < k
    ·rw [k3 _ h1]
     simp [show ¬ k + 1 ≤ j by omega]
    ·by_cases h2 : j = k
     ·subst h2
      simp [show ¬ j + 1 ≤ j by omega]
     ·rw [q]
      simp [h2,show c ≤ j by omega,show k + 1 ≤ j by omega]
   ·simp only [Int.toNat_natCast]
    have : x.toNat &&& (x.toNat - 1) ≤ x.toNat - 1:=Nat.and_le_right
    omega
  ·have he : x = 0:=he
   subst he
   refine .lft (.cnt ?_)
   rw [JG (by omega)]
   refine ⟨⟨i + 1,rfl,hlt,hm.mono fun v h0 h1=>⟨fun ⟨a,b⟩=>⟨by omega,b⟩,fun ⟨a,b⟩=>⟨?_,b⟩⟩⟩,by simp only; omega⟩
   refine Int.not_le.1 fun hle=>?_
   have q1 : v.toNat / 64 = i:=by omega
   have q4 : c ≤ v.toNat % 64:=by omega
   have q5:=hb (v.toNat % 64) (by omega)
   unfold hasB at b
   rw [q1] at b
   rw [b] at q5
   simp [q4,Vj] at q5
 ·have : i = 8:=by omega
  subst this
  exact .lft (.pure ⟨rfl,hs.mono fun v h0 h1=>⟨fun h=>h.2,fun h=>⟨by omega,h⟩⟩⟩)
theorem Aex {x y : Int} (hx : WW x) (hy : WW y) : Ot x y = some ((x.toNat ||| y.toNat : Nat) : Int):=by
 unfold Ot; rw [AjF hx hy]
theorem Aek {x y : Int} (hx : WW x) (hy : WW y) : Oq x y = some ((AcG x.toNat y.toNat : Nat) : Int):=by
 unfold Oq; rw [AcA hx hy]
theorem AdE {s t : BS} (hs : LS s) (ht : LS t) (g : Nat → Nat → Nat) (hg : ∀ x y,x < 18446744073709551616 → y < 18446744073709551616 → g x y < 18446744073709551616) (p : Bool → Bool → Bool)
  (hp : ∀ x y j,x < 18446744073709551616 → y < 18446744073709551616 → j < 64 → (g x y).testBit j = p (x.testBit j) (y.testBit j))
  {body : BS × Int → Option ((BS × Int) ⊕ (BS × BS × BS))} (hend : ∀ x,body (x,8) = some (.inr (x,s,t)))
  (hstep : ∀ x (i : Nat),i < 8 → body (x,(i : Int)) = some (.inl (x.set i ((g (Py s i).toNat (Py t i).toNat : Nat) : Int),((i + 1 : Nat) : Int)))) :
  Hs (JL body (⟨0,0,0,0,0,0,0,0⟩,0)) fun r=>LS r.1 ∧ ∀ v,0 ≤ v → v < 512 → hasB r.1 v = p (hasB s v) (hasB t v):=by
 refine Hs.loop (fun q=>LS q.1 ∧ ∃ i : Nat,q.2 = (i : Int) ∧ i ≤ 8 ∧ ∀ j,j < i → Py q.1 j = ((g (Py s j).toNat (Py t j).toNat : Nat) : Int)) (fun q=>8 - q.2.toNat) ⟨LS.zero,0,rfl,by omega,fun j hj=>by omega⟩ ?_
 rintro ⟨x,i'⟩ ⟨hx,i,hi',hi,hall⟩
 simp only at hx hi' hall
 subst hi'
 by_cases hlt : i < 8
 ·refine ⟨_,hstep x i hlt,⟨hx.set (WW.nat (hg _ _ (hs.word hlt).toNat_lt (ht.word hlt).toNat_lt)),i + 1,rfl,hlt,fun j hj=>?_⟩,by simp only; omega⟩
  simp only
  rw [Aci hlt]
  by_cases e : i = j
  ·subst e; rw [if_pos rfl]
  ·rw [if_neg e]; exact hall j (by omega)
 ·obtain rfl : i = 8:=by omega
  refine ⟨_,hend x,hx,fun v h0 h1=>?_⟩
  have hv : v.toNat / 64 < 8:=by omega
  unfold hasB
  simp only
  rw [hall _ hv]
  unfold Vj
  rw [Int.toNat_natCast,hp _ _ _ (hs.word hv).toNat_lt (ht.word hv).toNat_lt (by omega)]
theorem Acs {s t : BS} (hs : LS s) (ht : LS t) : Hs (Kr s t) fun r=>LS r.1 ∧ ∀ v,0 ≤ v → v < 512 → hasB r.1 v = (hasB s v || hasB t v):=by
 unfold Kr
 refine AdE hs ht (· ||| ·) (fun x y=>Ael) (· || ·) (fun x y j _ _ _=>Nat.testBit_or ..) (fun x=>by simp [KA]) fun x i hi=>?_
 have w:=JG (show i < 9223372036854775807 by omega)
 simp [KA,Uo hi,Aex (hs.word hi) (ht.word hi),w,show (i : Int) < 8 by omega]
theorem Acr {s t : BS} (hs : LS s) (ht : LS t) : Hs (Kq s t) fun r=>LS r.1 ∧ ∀ v,0 ≤ v → v < 512 → hasB r.1 v = (hasB s v && !hasB t v):=by
 unfold Kq
 refine AdE hs ht AcG (fun x y hx _=>AbH hx) (fun a b=>a && !b) (fun x y j hx hy _=>AcH hx hy) (fun x=>by simp [Kz]) fun x i hi=>?_
 have w:=JG (show i < 9223372036854775807 by omega)
 simp [Kz,Uo hi,Aek (hs.word hi) (ht.word hi),w,show (i : Int) < 8 by omega]
theorem AeB (l : List Int) (hl : l.length ≤ 9000000000000000000) : Hs (Qs l) fun r=>Og r (· ∈ l):=by
 unfold Qs
 exact (AaG l hl).bind fun r hr=>(Xv hr.1).bind fun q hq=>.pure (hq.2.mono fun v h0 h1=>by rw [hr.2 v h0 h1]; simp)
theorem AcE (l : List Int) (n : Int) (hl : l.length ≤ 9000000000000000000) : Hs (NV l n) fun r=>Og r (fun v=>v ∈ l ∧ v ≠ n):=by
 unfold NV
 refine (AaG l hl).bind fun r hr=>(Aen hr.1 n false).bind fun u hu=>(Xv hu.1).bind fun q hq=>.pure (hq.2.mono fun v h0 h1=>?_)
 rw [hu.2 v h0 h1,hr.2 v h0 h1]
 by_cases e : v = n <;> simp [e]
theorem Adm (a b : List Int) (ha : a.length ≤ 9000000000000000000) (hb : b.length ≤ 9000000000000000000) : Hs (Mw a b) fun r=>Og r (fun v=>v ∈ a ∨ v ∈ b):=by
 unfold Mw
 refine (AaG a ha).bind fun r hr=>(AaG b hb).bind fun u hu=>(Acs hr.1 hu.1).bind fun x hx=>(Xv hx.1).bind fun q hq=>.pure (hq.2.mono fun v h0 h1=>?_)
 rw [hx.2 v h0 h1,hr.2 v h0 h1,hu.2 v h0 h1]; simp
theorem Adl (a b : List Int) (ha : a.length ≤ 9000000000000000000) (hb : b.length ≤ 9000000000000000000) : Hs (Ow a b) fun r=>Og r (fun v=>v ∈ a ∧ v ∉ b):=by
 unfold Ow
 refine (AaG a ha).bind fun r hr=>(AaG b hb).bind fun u hu=>(Acr hr.1 hu.1).bind fun x hx=>(Xv hx.1).bind fun q hq=>.pure (hq.2.mono fun v h0 h1=>?_)
 rw [hx.2 v h0 h1,hr.2 v h0 h1,hu.2 v h0 h1]; simp
theorem AcD {s : List Int} (hs : JR s) (n : Int) : NV s n = some (s.filter (· != n)):=by
 obtain ⟨r,h1,h2⟩:=AcE s n (by have:=hs.length_le; omega)
 rw [h1,h2.eq (Og.Abx (hs.filter (· != n))) fun v _ _=>by simp [List.mem_filter]]
theorem YI {a b : List Int} (ha : JR a) (hb : ∀ x ∈ b,0 ≤ x ∧ x < 512) (hl : b.length ≤ 1000) : Mw a b = some (Lv a b):=by
 obtain ⟨r,h1,h2⟩:=Adm a b (by have:=ha.length_le; omega) (by omega)
 obtain ⟨h3,h4⟩:=QU (n:=512) (by omega) (b:=b) ⟨ha,fun x hx=>(ha.2 x hx).2⟩ hb
 rw [h1,h2.eq (Og.Abx h3.1) fun v _ _=>by rw [h4]]
theorem AeA {b : List Int} (hb : ∀ x ∈ b,0 ≤ x ∧ x < 512) (hl : b.length ≤ 1000) : Qs b = some (Lv [] b):=by
 obtain ⟨r,h1,h2⟩:=AeB b (by omega)
 obtain ⟨h3,h4⟩:=QU (n:=512) (by omega) (b:=b) ⟨JR.nil,fun x hx=>by cases hx⟩ hb
 rw [h1,h2.eq (Og.Abx h3.1) fun v _ _=>by rw [h4]; simp]
end Go.Proofs.YtfpgidpffhmadaaDoor
namespace Go.Proofs.YtfpgidpffhmadaaDoor
open Go Go.Dw Go.Proofs
attribute [local simp] JQ Bool.cond_eq_ite
def okC (c : Jd) : Prop:=0 ≤ c.at_ ∧ c.at_ ≤ c.list.length ∧ c.list.length ≤ 1000 ∧ ∀ v ∈ c.list,0 ≤ v ∧ v ≤ 255
theorem AjE (l : List Int) (n : Int) (hl : qL (MS .u8) l) (h0 : 0 ≤ n) (h1 : n ≤ 1000) : ∃ c,Vp l n = some c ∧ okC c:=by
 unfold Vp
 have e : UM (l.length : Int) n = min (l.length : Int) n:=Agx _ _
 rw [e]
 refine ⟨_,by rw [JQ (by omega)],by simp,?_,?_,?_⟩
 ·simp
 ·simp only [List.length_take]; omega
 ·intro v hv
  have:=hl.2 v (List.mem_of_mem_take hv)
  simpa [MS,IntKind.min,IntKind.max,IntKind.signed,IntKind.bits] using this
theorem AgB (c : Jd) (h : okC c) (n : Int) (h1 : n ≤ 1099511627776) : ∃ r c',Jn c n = some (r,c') ∧ okC c' ∧ 0 ≤ r ∧ (r < n ∨ r = 0):=by
 obtain ⟨ha,hb,hc,hd⟩:=h
 unfold Jn Pg
 by_cases hl : c.at_ < c.list.length
 ·by_cases hn : n < 1
  ·exact ⟨0,c,by simp [hl,hn],⟨ha,hb,hc,hd⟩,by omega,.inr rfl⟩
  ·have hx : c.list[c.at_.toNat]? = some (c.list[c.at_.toNat]'(by omega)):=List.getElem?_eq_getElem _
   have hv:=hd _ (List.getElem_mem (show c.at_.toNat < c.list.length by omega))
   generalize hq : c.list[c.at_.toNat]'(by omega) = v at hx hv
   have e1 : IntKind.i64.wrap v = v:=wrap64 (by omega) (by omega)
   have hm0 : 0 ≤ v * n:=Int.mul_nonneg hv.1 (by omega)
   have hm1 : v * n ≤ 255 * n:=Int.mul_le_mul_of_nonneg_right hv.2 (by omega)
   have e2 : IntKind.i64.wrap (v * n) = v * n:=wrap64 (by omega) (by omega)
   have e3 : (v * n).tdiv 256 = v * n / 256:=Int.tdiv_eq_ediv_of_nonneg hm0
   have e4 : IntKind.i64.wrap (v * n / 256) = v * n / 256:=wrap64 (by omega) (by omega)
   have e5 : IntKind.i64.wrap (c.at_ + 1) = c.at_ + 1:=wrap64 (by omega) (by omega)
   refine ⟨v * n / 256,⟨c.list,c.at_ + 1⟩,?_,⟨by simp only; omega,by simp only; omega,hc,hd⟩,by omega,.inl (by omega)⟩
   simp [hl,hn,Pm,Vs _ ha,hx,e1,e2,e3,e4,e5]
 ·exact ⟨0,c,by simp [hl],⟨ha,hb,hc,hd⟩,by omega,.inr rfl⟩
end Go.Proofs.YtfpgidpffhmadaaDoor
namespace Go.Proofs.YtfpgidpffhmadaaDoor
open Go Go.Dw Go.Proofs
theorem Agy {c : Jd} (h : okC c) {n : Int} (h1 : n ≤ 1099511627776) : Hs (Jn c n) fun p=>okC p.2 ∧ 0 ≤ p.1 ∧ (p.1 < n ∨ p.1 = 0):=by
 obtain ⟨r,c',e,h2,h3,h4⟩:=AgB c h n h1
 exact ⟨(r,c'),e,h2,h3,h4⟩
theorem JD {c : Jd} (h : okC c) {n : Int} (h0 : 1 ≤ n) (h1 : n ≤ 1099511627776) : Hs (Jn c n) fun p=>okC p.2 ∧ 0 ≤ p.1 ∧ p.1 < n :=
 (Agy h h1).mono fun r hr=>⟨hr.1,hr.2.1,by omega⟩
def YS (s : JK) : Prop:=s.Size ∈ ([8,4,8,1,2,16,8] : List Int) ∧ s.Align ∈ ([8,4,1,8,16,2,32,64] : List Int)
def W64 (w : Int) : Prop:=0 ≤ w ∧ w < 18446744073709551616
def Reg (a : Int) : Prop:=0 ≤ a ∧ a < 4
theorem AgD {c : Jd} (h : okC c) : Hs (NJ c) fun p=>okC p.2 ∧ YS p.1:=by
 unfold NJ
 refine (JD h (by omega) (by omega)).bind fun r hr=>.chk (by simp; omega) ?_
 refine (Hs.get hr.2.1 (by simp; omega) fun x hx=>List.mem_of_getElem? hx).bind fun x hx=>?_
 refine (JD hr.1 (by omega) (by omega)).bind fun r' hr'=>.chk (by simp; omega) ?_
 refine (Hs.get hr'.2.1 (by simp; omega) fun x hx=>List.mem_of_getElem? hx).bind fun y hy=>?_
 exact .pure ⟨hr'.1,hx,hy⟩
theorem Agj {c : Jd} (h : okC c) {m : Int} (hm : 0 ≤ m) (hm' : m ≤ 1000) : Hs (Nb c m) fun p=>okC p.2 ∧ (p.1.length : Int) ≤ m ∧ ∀ s ∈ p.1,YS s:=by
 unfold Nb
 have w : IntKind.i64.wrap (m + 1) = m + 1:=wrap64 (by omega) (by omega)
 rw [w]
 refine (JD h (by omega) (by omega)).bind fun r hr=>?_
 refine Hs.loop (fun s=>okC ⟨s.1,s.2.1⟩ ∧ (s.2.2.1.length : Int) + s.2.2.2 ≤ m ∧ (∀ x ∈ s.2.2.1,YS x) ∧ 0 ≤ s.2.2.2) (fun s=>s.2.2.2.toNat) ⟨hr.1,by simp; omega,by simp,hr.2.1⟩ ?_
 rintro ⟨l,a,sl,n⟩ ⟨hc,hl,hs,hn⟩
 simp only at hc hl hs hn
 unfold OM
 refine .dec (fun hlt=>?_) fun hlt=>?_
 ·have hlt : 0 < n:=hlt
  have w : IntKind.i64.wrap (n - 1) = n - 1:=wrap64 (by omega) (by omega)
  refine (AgD hc).bind fun x hx=>.chk (by simp; omega) (.cnt ⟨⟨hx.1,?_,?_,?_⟩,?_⟩)
  ·simp only [w,List.length_append,List.length_singleton]; omega
  ·intro y hy
   rcases List.mem_append.1 hy with h1 | h1
   ·exact hs y h1
   ·rw [List.mem_singleton] at h1; subst h1; exact hx.2
  ·simp only [w]; omega
  ·simp only [w]; omega
 ·exact .lft (.pure ⟨hc,by simp only; omega,hs⟩)
theorem AdF {c : Jd} (h : okC c) : Hs (My c) fun p=>okC p.2 ∧ W64 p.1:=by
 unfold My
 refine (JD h (by omega) (by omega)).bind fun r hr=>.beq (fun _=>?_) fun _=>.beq (fun _=>?_) fun _=>.beq (fun _=>?_) fun _=>?_
 ·exact (JD hr.1 (by omega) (by omega)).bind fun r' hr'=>.pure ⟨hr'.1,AaJ _⟩
 ·exact (JD hr.1 (by omega) (by omega)).bind fun r' hr'=>.chk hr'.2.1 (.pure ⟨hr'.1,AaJ _⟩)
 ·exact .pure ⟨hr.1,by simp only; unfold W64; omega⟩
 ·exact (JD hr.1 (by omega) (by omega)).bind fun r' hr'=>.pure ⟨hr'.1,AaJ _⟩
def Aez (sl : List JK) (a b : Int) : Prop:=0 ≤ a ∧ a < sl.length ∧ ∃ x y,sl[a.toNat]? = some x ∧ sl[b.toNat]? = some y ∧ x.Size = y.Size
theorem Agv {c : Jd} (h : okC c) {f : Jh} {s : Int} (h0 : 0 ≤ s) (h1 : s < f.Slots.length) (hl : f.Slots.length ≤ 1000) : Hs (NL c f s) fun p=>okC p.2 ∧ Aez f.Slots p.1 s:=by
 unfold NL
 refine Hs.loop (fun st=>0 ≤ st.2 ∧ st.2 ≤ f.Slots.length ∧ (st.1.length : Int) ≤ st.2 ∧ (∀ v ∈ st.1,Aez f.Slots v s) ∧ (s < st.2 → 0 < st.1.length)) (fun st=>f.Slots.length - st.2.toNat) ⟨by simp,by simp,by simp,by simp,fun h=>by simp at h; omega⟩ ?_
 rintro ⟨l,k⟩ ⟨hk0,hk1,hll,hv,hne⟩
 simp only at hk0 hk1 hll hv hne
 unfold Po
 refine .dec (fun hlt=>?_) fun hlt=>.lft ?_
 ·have w : IntKind.i64.wrap (k + 1) = k + 1:=wrap64 (by omega) (by omega)
  refine (Hs.ix hk0 hlt fun x hx=>hx).bind fun x hx=>(Hs.ix h0 h1 fun x hx=>hx).bind fun y hy=>.beq (fun he=>?_) fun he=>?_
  ·refine .chk (by simp; omega) (.cnt ⟨⟨by simp only [w]; omega,by simp only [w]; omega,by simp only [w,List.length_append,List.length_singleton]; omega,?_,by simp⟩,by simp only [w]; omega⟩)
   intro v hv'
   rcases List.mem_append.1 hv' with h2 | h2
   ·exact hv v h2
   ·rw [List.mem_singleton] at h2; subst h2
    exact ⟨hk0,hlt,x,y,hx,hy,he⟩
  ·refine .cnt ⟨⟨by simp only [w]; omega,by simp only [w]; omega,by simp only [w]; omega,hv,fun h3=>?_⟩,by simp only [w]; omega⟩
   simp only [w] at h3
   by_cases e : s = k
   ·subst e; rw [hx] at hy; cases hy; exact (he rfl).elim
   ·exact hne (by omega)
 ·have hlt : ¬ k < f.Slots.length:=hlt
  have hl1:=hne (by omega)
  refine (JD h (n:=(l.length : Int)) (by omega) (by omega)).bind fun r hr=>.chk ⟨hr.2.1,hr.2.2⟩ ?_
  exact (Hs.get hr.2.1 hr.2.2 fun x hx=>hv x (List.mem_of_getElem? hx)).bind fun x hx=>.pure ⟨hr.1,hx⟩
inductive Kn (sl : List JK) (np i : Int) (ps : List Int) (T : Int → Prop) : Je → Prop
 | store (a b : Int) : 0 ≤ a → a < sl.length → Reg b → Kn sl np i ps T ⟨16,a,b,0,0⟩
 | load (a b : Int) : Reg a → 0 ≤ b → b < sl.length → Kn sl np i ps T ⟨15,a,b,0,0⟩
 | move (a b : Int) : Aez sl a b → 0 ≤ b → b < sl.length → Kn sl np i ps T ⟨17,a,b,0,0⟩
 | const (a w : Int) : Reg a → W64 w → Kn sl np i ps T ⟨0,a,0,0,w⟩
 | bin (op a b c : Int) : 2 ≤ op → op < 12 → Reg a → Reg b → 0 ≤ c → c < 8 → Kn sl np i ps T ⟨op,a,b,c,0⟩
 | out (a : Int) : Reg a → Kn sl np i ps T ⟨14,a,0,0,0⟩
 | un (op a : Int) : (op = 13 ∨ op = 12 ∨ op = 1) → Reg a → Kn sl np i ps T ⟨op,a,0,0,0⟩
 | param (a b : Int) : Reg a → 0 ≤ b → b < np → Kn sl np i ps T ⟨19,a,b,0,0⟩
 | arg (a b : Int) : 0 ≤ a → a < 4 → Reg b → Kn sl np i ps T ⟨18,a,b,0,0⟩
 | call (j : Int) : i < j → j < ps.length → Kn sl np i ps T ⟨22,j,0,0,0⟩
 | jump (t : Int) : T t → Kn sl np i ps T ⟨20,t,0,0,0⟩
 | branch (a t : Int) : Reg a → T t → Kn sl np i ps T ⟨21,a,t,0,0⟩
def Acv (ps : List Int) : Prop:=(∀ v ∈ ps,0 ≤ v ∧ v < 4) ∧ ps.length ≤ 1000
theorem Agr {c : Jd} (h : okC c) {f : Jh} {i : Int} {ps : List Int} (T : Int → Prop) (hf : f.Slots.length ≤ 1000) (hp : f.Params < 4) (hi : 0 ≤ i) (hi' : i < ps.length) (hps : Acv ps) :
  Hs (NK c f i ps) fun p=>okC p.2 ∧ p.1.length ≤ 4 ∧ ∀ x ∈ p.1,Kn f.Slots f.Params i ps T x:=by
 unfold NK
 refine (JD h (by omega) (by omega)).bind fun r hr=>(JD hr.1 (by omega) (by omega)).bind fun k hk=>?_
 have hreg : Reg r.1:=hr.2
 have one : ∀ {x : Je} {c' : Jd},okC c' → Kn f.Slots f.Params i ps T x → Hs (some (([x] : List Je),c')) fun p=>okC p.2 ∧ p.1.length ≤ 4 ∧ ∀ x ∈ p.1,Kn f.Slots f.Params i ps T x:=fun hc hx=>.pure ⟨hc,by simp,by simpa using hx⟩
 have j6 : ∀ b,(b = true → i + 1 < ps.length) → Hs (Mk k ps i r b) fun p=>okC p.2 ∧ p.1.length ≤ 4 ∧ ∀ x ∈ p.1,Kn f.Slots f.Params i ps T x:=by
  intro b hb
  unfold Mk
  refine .cond (fun hb'=>?_) fun _=>one hk.1 (.out _ hreg)
  have hil:=hb hb'
  have hlen:=hps.2
  have w1 : IntKind.i64.wrap ((ps.length : Int) - i) = (ps.length : Int) - i:=wrap64 (by omega) (by omega)
  have w2 : IntKind.i64.wrap ((ps.length : Int) - i - 1) = (ps.length : Int) - i - 1:=wrap64 (by omega) (by omega)
  have w3 : IntKind.i64.wrap (i + 1) = i + 1:=wrap64 (by omega) (by omega)
  rw [w1,w2]
  refine (JD hk.1 (by omega) (by omega)).bind fun q hq=>?_
  have w4 : IntKind.i64.wrap (i + 1 + q.1) = i + 1 + q.1:=wrap64 (by omega) (by omega)
  refine Hs.loop (fun s=>okC ⟨s.1,s.2.1⟩ ∧ (s.2.2.1.length : Int) ≤ s.2.2.2 ∧ 0 ≤ s.2.2.2 ∧ s.2.2.2 ≤ 3 ∧ ∀ x ∈ s.2.2.1,Kn f.Slots f.Params i ps T x) (fun s=>(3 - s.2.2.2).toNat) ⟨hq.1,by simp,by simp,by simp,by simp⟩ ?_
  rintro ⟨l,a,out,n⟩ ⟨hc,ho,hn0,hn3,hall⟩
  simp only at hc ho hn0 hn3 hall
  unfold Pn
  simp only [w3,w4]
  refine (Hs.ix (by omega) (by omega) fun x hx=>hps.1 x (List.mem_of_getElem? hx)).bind fun x hx=>.dec (fun hlt=>?_) fun hlt=>.lft ?_
  ·have w5 : IntKind.i64.wrap (n + 1) = n + 1:=wrap64 (by omega) (by omega)
   refine (JD hc (by omega) (by omega)).bind fun u hu=>.dec (fun _=>?_) fun _=>?_
   ·refine (JD hu.1 (by omega) (by omega)).bind fun v hv=>.chk (by simp; omega) (.cnt ⟨⟨hv.1,by simp only [w5,List.length_append,List.length_singleton]; omega,by simp only [w5]; omega,by simp only [w5]; omega,?_⟩,by simp only [w5]; omega⟩)
    intro y hy
    rcases List.mem_append.1 hy with h2 | h2
    ·exact hall y h2
    ·rw [List.mem_singleton] at h2; subst h2
     exact .arg _ _ hn0 (by omega) hv.2
   ·exact .cnt ⟨⟨hu.1,by simp only [w5]; omega,by simp only [w5]; omega,by simp only [w5]; omega,hall⟩,by simp only [w5]; omega⟩
  ·refine .chk (by simp; omega) (.pure ⟨hc,by simp only [List.length_append,List.length_singleton]; omega,?_⟩)
   intro y hy
   rcases List.mem_append.1 hy with h2 | h2
   ·exact hall y h2
   ·rw [List.mem_singleton] at h2; subst h2
    exact .call _ (by omega) (by omega)
 have j5 : ∀ b,(b = true → 0 < f.Params) → Hs (Mj k f r ps i b) fun p=>okC p.2 ∧ p.1.length ≤ 4 ∧ ∀ x ∈ p.1,Kn f.Slots f.Params i ps T x:=by
  intro b hb
  unfold Mj
  refine .cond (fun hb'=>?_) fun _=>.dec (fun _=>j6 _ fun hd=>?_) fun _=>j6 _ fun hd=>(by cases hd)
  ·have:=hb hb'
   exact (JD hk.1 (by omega) (by omega)).bind fun u hu=>one hu.1 (.param _ _ hreg hu.2.1 hu.2.2)
  ·have hlen:=hps.2
   have:=of_decide_eq_true hd
   rw [wrap64 (by omega) (by omega)] at this
   exact this
 have j4 : ∀ b,(b = true → 0 < f.Slots.length) → Hs (Mi k f r ps i b) fun p=>okC p.2 ∧ p.1.length ≤ 4 ∧ ∀ x ∈ p.1,Kn f.Slots f.Params i ps T x:=by
  intro b hb
  unfold Mi
  refine .cond (fun hb'=>?_) fun _=>.dec (fun _=>?_) fun _=>.dec (fun _=>?_) fun _=>.dec (fun _=>one hk.1 (.out _ hreg)) fun _=>.beq (fun _=>?_) fun _=>.beq (fun _=>j5 _ fun hd=>of_decide_eq_true hd) fun _=>j5 _ fun hd=>(by cases hd)
  ·have:=hb hb'
   exact (JD hk.1 (by omega) (by omega)).bind fun u hu=>(Agv hu.1 hu.2.1 hu.2.2 hf).bind fun v hv=>one hv.1 (.move _ _ hv.2 hu.2.1 hu.2.2)
  ·exact (AdF hk.1).bind fun u hu=>one hu.1 (.const _ _ hreg hu.2)
  ·refine (JD hk.1 (by omega) (by omega)).bind fun u hu=>(JD hu.1 (by omega) (by omega)).bind fun v hv=>(JD hv.1 (by omega) (by omega)).bind fun z hz=>one hz.1 ?_
   rw [wrap64 (by omega) (by omega)]
   exact .bin _ _ _ _ (by omega) (by omega) hreg hv.2 hz.2.1 hz.2.2
  ·refine (JD hk.1 (by omega) (by omega)).bind fun u hu=>.chk (by simp; omega) ?_
   refine (Hs.get hu.2.1 (by simp; omega) fun x hx=>List.mem_of_getElem? hx).bind fun x hx=>one hu.1 (.un _ _ (by simpa using hx) hreg)
 have j3 : ∀ b,(b = true → 0 < f.Slots.length) → Hs (Mh k f r ps i b) fun p=>okC p.2 ∧ p.1.length ≤ 4 ∧ ∀ x ∈ p.1,Kn f.Slots f.Params i ps T x:=by
  intro b hb
  unfold Mh
  refine .cond (fun hb'=>?_) fun _=>.dec (fun _=>j4 _ fun hd=>by have:=of_decide_eq_true hd; omega) fun _=>j4 _ fun hd=>(by cases hd)
  have:=hb hb'
  exact (JD hk.1 (by omega) (by omega)).bind fun u hu=>one hu.1 (.load _ _ hreg hu.2.1 hu.2.2)
 have j2 : ∀ b,(b = true → 0 < f.Slots.length) → Hs (Mg k f r ps i b) fun p=>okC p.2 ∧ p.1.length ≤ 4 ∧ ∀ x ∈ p.1,Kn f.Slots f.Params i ps T x:=by
  intro b hb
  unfold Mg
  refine .cond (fun hb'=>?_) fun _=>.dec (fun _=>j3 _ fun hd=>by have:=of_decide_eq_true hd; omega) fun _=>j3 _ fun hd=>(by cases hd)
  have:=hb hb'
  exact (JD hk.1 (by omega) (by omega)).bind fun u hu=>one hu.1 (.store _ _ hu.2.1 hu.2.2 hreg)
 exact .dec (fun _=>j2 _ fun hd=>by have:=of_decide_eq_true hd; omega) fun _=>j2 _ fun hd=>(by cases hd)
theorem Kn.mono {sl : List JK} {np i : Int} {ps : List Int} {T T' : Int → Prop} {x : Je} (h : Kn sl np i ps T x) (hT : ∀ t,T t → T' t) : Kn sl np i ps T' x:=by
 cases h with
 | store a b h1 h2 h3=>exact .store a b h1 h2 h3
 | load a b h1 h2 h3=>exact .load a b h1 h2 h3
 | move a b h1 h2 h3=>exact .move a b h1 h2 h3
 | const a w h1 h2=>exact .const a w h1 h2
 | bin op a b c h1 h2 h3 h4 h5 h6=>exact .bin op a b c h1 h2 h3 h4 h5 h6
 | out a h1=>exact .out a h1
 | un op a h1 h2=>exact .un op a h1 h2
 | param a b h1 h2 h3=>exact .param a b h1 h2 h3
 | arg a b h1 h2 h3=>exact .arg a b h1 h2 h3
 | call j h1 h2=>exact .call j h1 h2
 | jump t h1=>exact .jump t (hT t h1)
 | branch a t h1 h2=>exact .branch a t h1 (hT t h2)
def Zn (x : Je) : Prop:=x = ⟨23,0,0,0,0⟩ ∨ ∃ w,W64 w ∧ x = ⟨24,0,0,0,w⟩
def Vr (x : Je) (t : Int) : Je :=
 if x.Op = 20 ∧ x.A < 0 then ⟨x.Op,t,x.B,x.C,x.Imm⟩ else if x.Op = 21 ∧ x.B < 0 then ⟨x.Op,x.A,t,x.C,x.Imm⟩ else x
theorem Zn.fix {x : Je} (h : Zn x) (t : Int) : Vr x t = x:=by
 rcases h with rfl | ⟨w,_,rfl⟩ <;> simp [Vr]
theorem Kn.fix {sl : List JK} {np i : Int} {ps : List Int} {T : Int → Prop} {x : Je} (h : Kn sl np i ps (· = -1) x) {t : Int} (ht : T t) : Kn sl np i ps T (Vr x t):=by
 cases h with
 | store a b h1 h2 h3=>exact .store a b h1 h2 h3
 | load a b h1 h2 h3=>exact .load a b h1 h2 h3
 | move a b h1 h2 h3=>exact .move a b h1 h2 h3
 | const a w h1 h2=>exact .const a w h1 h2
 | bin op a b c h1 h2 h3 h4 h5 h6 =>
  have : Vr ⟨op,a,b,c,0⟩ t = ⟨op,a,b,c,0⟩:=by simp [Vr,show op ≠ 20 by omega,show op ≠ 21 by omega]
  rw [this]
  exact .bin op a b c h1 h2 h3 h4 h5 h6
 | out a h1=>exact .out a h1
 | un op a h1 h2 =>
  have : Vr ⟨op,a,0,0,0⟩ t = ⟨op,a,0,0,0⟩:=by simp [Vr,show op ≠ 20 by omega,show op ≠ 21 by omega]
  rw [this]
  exact .un op a h1 h2
 | param a b h1 h2 h3=>exact .param a b h1 h2 h3
 | arg a b h1 h2 h3=>exact .arg a b h1 h2 h3
 | call j h1 h2=>exact .call j h1 h2
 | jump q h1=>subst h1; exact .jump t ht
 | branch a q h1 h2=>subst h2; exact .branch a t h1 ht
theorem AjX {code : List Je} {k : Nat} {x : Je} (h : code[k]? = some x) (r : Int × Jd) (t : Int) : Kl (k : Int) code r t = some (.inl (r.2.list,r.2.at_,code.set k (Vr x t),IntKind.i64.wrap ((k : Int) + 1))):=by
 obtain ⟨hl,hx⟩:=List.getElem?_eq_some_iff.1 h
 have hset : code.set k x = code:=by rw [← hx]; exact List.set_getElem_self hl
 obtain ⟨op,a,b,c,w⟩:=x
 unfold Kl LR
 by_cases h20 : op = 20
 ·subst h20
  by_cases ha : a < 0
  ·simp [JQ,hl,hx,Vr,ha]
  ·simp [JQ,hl,hx,Vr,ha,hset]
 ·by_cases h21 : op = 21
  ·subst h21
   by_cases hb : b < 0
   ·simp [JQ,hl,hx,Vr,hb]
   ·simp [JQ,hl,hx,Vr,hb,hset]
  ·have e20 : (op == 20) = false:=by simpa using h20
   have e21 : (op == 21) = false:=by simpa using h21
   simp [JQ,hl,hx,Vr,e20,e21,h20,h21,hset]
structure RS (ps : List Int) (i most : Int) (f : Jh) : Prop where
 par : ps[i.toNat]? = some f.Params
 slots : f.Slots.length ≤ 6
 slot : ∀ s ∈ f.Slots,YS s
 len : 1 ≤ f.Code.length
 len' : (f.Code.length : Int) ≤ 7 + 5 * most
 body : ∀ (k : Nat) x,f.Code[k]? = some x → k + 1 < f.Code.length → Kn f.Slots f.Params i ps (fun t=>0 ≤ t ∧ t < f.Code.length) x
 last : ∀ x,f.Code[f.Code.length - 1]? = some x → Zn x
theorem AjA {l : List Int} {a : Int} (h : okC ⟨l,a⟩) {sl : List JK} {np i : Int} {ps : List Int} {most : Int} {code : List Je} (hpar : ps[i.toNat]? = some np) (hsl : sl.length ≤ 6) (hsl' : ∀ s ∈ sl,YS s)
  (hlen : 1 ≤ code.length) (hlen' : (code.length : Int) ≤ 7 + 5 * most) (hm : most ≤ 1000) (hb : ∀ (k : Nat) x,code[k]? = some x → k + 1 < code.length → Kn sl np i ps (· = -1) x) (he : ∀ x,code[code.length - 1]? = some x → Zn x) :
  Hs (JL (fun s : List Int × Int × List Je × Int=>LQ np sl s.1 s.2.1 s.2.2.1 s.2.2.2) (l,a,code,0)) fun p=>okC p.2 ∧ RS ps i most p.1:=by
 refine Hs.loop (fun s=>okC ⟨s.1,s.2.1⟩ ∧ s.2.2.1.length = code.length ∧ ∃ k : Nat,s.2.2.2 = (k : Int) ∧ k ≤ code.length ∧ (∀ x,s.2.2.1[code.length - 1]? = some x → Zn x) ∧
  ∀ (j : Nat) x,s.2.2.1[j]? = some x → j + 1 < code.length → Kn sl np i ps (fun t=>if j < k then 0 ≤ t ∧ t < code.length else t = -1) x) (fun s=>code.length - s.2.2.2.toNat) ⟨h,rfl,0,rfl,Nat.zero_le _,he,fun j x hj hj'=>(hb j x hj hj').mono fun t ht=>by simpa using ht⟩ ?_
 rintro ⟨l,a,code',k⟩ ⟨hc,hl,k,rfl,hk,he',hall⟩
 simp only at hc hl he' hall
 unfold LQ
 refine .dec (fun hlt=>?_) fun hlt=>?_
 ·have hlt : k < code.length:=by rw [← hl]; exact Int.ofNat_lt.1 hlt
  have w:=JG (show k < 9223372036854775807 by omega)
  have hx : code'[k]? = some (code'[k]'(by omega)):=List.getElem?_eq_getElem _
  generalize code'[k]'(by omega) = x at hx
  have step : ∀ (r : Int × Jd) (t : Int),okC r.2 → 0 ≤ t → t < code.length → Hs (Kl (k : Int) code' r t) (Rnd (fun s : List Int × Int × List Je × Int=>okC ⟨s.1,s.2.1⟩ ∧ s.2.2.1.length = code.length ∧ ∃ k : Nat,s.2.2.2 = (k : Int) ∧ k ≤ code.length ∧ (∀ x,s.2.2.1[code.length - 1]? = some x → Zn x) ∧
    ∀ (j : Nat) x,s.2.2.1[j]? = some x → j + 1 < code.length → Kn sl np i ps (fun t=>if j < k then 0 ≤ t ∧ t < code.length else t = -1) x) (fun s=>code.length - s.2.2.2.toNat) (l,a,code',(k : Int)) (fun p : Jh × Jd=>okC p.2 ∧ RS ps i most p.1)):=by
   intro r t hr ht0 ht1
   rw [AjX hx]
   refine .pure ⟨⟨hr,by simp [hl],k + 1,w,hlt,?_,?_⟩,by simp only [w]; omega⟩
   ·intro y hy
    simp only at hy
    by_cases e : k = code.length - 1
    ·rw [← e,List.getElem?_set_self (by omega)] at hy
     obtain rfl:=Option.some.inj hy
     have hex:=he' x (by rw [← e]; exact hx)
     rw [hex.fix]; exact hex
    ·rw [List.getElem?_set_ne e] at hy
     exact he' y hy
   ·intro j y hy hj
    simp only at hy
    by_cases e : k = j
    ·subst e
     rw [List.getElem?_set_self (by omega)] at hy
     obtain rfl:=Option.some.inj hy
     exact ((hall k x hx hj).mono fun t ht=>by simpa using ht).fix (by rw [if_pos (by omega)]; exact ⟨ht0,ht1⟩)
    ·rw [List.getElem?_set_ne e] at hy
     refine (hall j y hy hj).mono fun t ht=>?_
     by_cases e2 : j < k
     ·rw [if_pos e2] at ht; rw [if_pos (by omega)]; exact ht
     ·rw [if_neg e2] at ht; rw [if_neg (by omega)]; exact ht
  refine (JD hc (by omega) (by omega)).bind fun r hr=>?_
  have w1 : IntKind.i64.wrap ((k : Int) + r.1) = (k : Int) + r.1:=wrap64 (by omega) (by omega)
  have w2 : IntKind.i64.wrap ((k : Int) + r.1 - 2) = (k : Int) + r.1 - 2:=wrap64 (by omega) (by omega)
  have w3 : IntKind.i64.wrap ((code'.length : Int) - 1) = (code'.length : Int) - 1:=wrap64 (by omega) (by omega)
  simp only [w1,w2,w3]
  exact .dec (fun _=>step r _ hr.1 (by omega) (by omega)) fun _=>.dec (fun _=>step r _ hr.1 (by omega) (by omega)) fun _=>step r _ hr.1 (by omega) (by omega)
 ·have hlt : ¬ k < code'.length:=fun h=>hlt (Int.ofNat_lt.2 h)
  have hkl : k = code.length:=by omega
  refine .lft (.pure ⟨hc,hpar,hsl,hsl',by simp only; omega,by simp only; omega,?_,?_⟩)
  ·intro j x hj hj'
   simp only at hj hj' ⊢
   rw [hl] at hj' ⊢
   refine (hall j x hj hj').mono fun t ht=>?_
   rw [if_pos (by omega)] at ht
   exact ht
  ·intro x hx
   simp only at hx
   rw [hl] at hx
   exact he' x hx
theorem Agn {l : List Int} {a : Int} (h : okC ⟨l,a⟩) {sl : List JK} {np i : Int} {ps : List Int} {most : Int} {code : List Je} (hpar : ps[i.toNat]? = some np) (hsl : sl.length ≤ 6) (hsl' : ∀ s ∈ sl,YS s)
  (hlen : (code.length : Int) ≤ 6 + 5 * most) (hm : most ≤ 1000) (hb : ∀ x ∈ code,Kn sl np i ps (· = -1) x) {e1 e2 : Int} (he : Zn ⟨e1,0,0,0,e2⟩) :
  Hs (Lb code np sl l a e1 e2) fun p=>okC p.2 ∧ RS ps i most p.1:=by
 unfold Lb
 refine .chk (by simp; omega) (AjA h hpar hsl hsl' (by simp) (by simp; omega) hm ?_ ?_)
 ·intro k x hx hk
  simp only [List.length_append,List.length_singleton] at hk
  rw [List.getElem?_append_left (by omega)] at hx
  exact hb x (List.mem_of_getElem? hx)
 ·intro x hx
  simp at hx
  subst hx
  exact he
theorem Ado {c : Jd} (h : okC c) {i : Int} {ps : List Int} {most : Int} (hi : 0 ≤ i) (hi' : i < ps.length) (hps : Acv ps) (hm0 : 0 ≤ most) (hm : most ≤ 1000) :
  Hs (LO c i ps most) fun p=>okC p.2 ∧ RS ps i most p.1:=by
 unfold LO
 refine (Hs.ix hi hi' fun x hx=>hx).bind fun np hnp=>(Agj h (by omega) (by omega)).bind fun sl hsl=>?_
 obtain ⟨hc0,hsl1,hsl2⟩:=hsl
 have hnp4:=hps.1 np (List.mem_of_getElem? hnp)
 refine Hs.loop (fun s=>okC ⟨s.1,s.2.1⟩ ∧ 0 ≤ s.2.2.2 ∧ s.2.2.2 ≤ sl.1.length ∧ (s.2.2.1.length : Int) ≤ s.2.2.2 ∧ ∀ x ∈ s.2.2.1,Kn sl.1 np i ps (· = -1) x) (fun s=>sl.1.length - s.2.2.2.toNat) ⟨hc0,by simp,by simp,by simp,by simp⟩ ?_
 rintro ⟨l,a,code,s⟩ ⟨hc,hs0,hs1,hcl,hall⟩
 simp only at hc hs0 hs1 hcl hall
 unfold Nr
 refine .dec (fun hlt=>?_) fun hlt=>?_
 ·have hlt : s < sl.1.length:=hlt
  have w : IntKind.i64.wrap (s + 1) = s + 1:=wrap64 (by omega) (by omega)
  refine (JD hc (by omega) (by omega)).bind fun r hr=>.dec (fun _=>?_) fun _=>?_
  ·refine (JD hr.1 (by omega) (by omega)).bind fun q hq=>.chk (by simp; omega) (.cnt ⟨⟨hq.1,by simp only [w]; omega,by simp only [w]; omega,by simp only [w,List.length_append,List.length_singleton]; omega,?_⟩,by simp only [w]; omega⟩)
   intro y hy
   rcases List.mem_append.1 hy with h2 | h2
   ·exact hall y h2
   ·rw [List.mem_singleton] at h2; subst h2
    exact .store _ _ hs0 hlt hq.2
  ·exact .cnt ⟨⟨hr.1,by simp only [w]; omega,by simp only [w]; omega,by simp only [w]; omega,hall⟩,by simp only [w]; omega⟩
 ·have w : IntKind.i64.wrap (most + 1) = most + 1:=wrap64 (by omega) (by omega)
  rw [w]
  refine .lft ((JD hc (by omega) (by omega)).bind fun r hr=>?_)
  refine Hs.loop (fun s=>okC ⟨s.1,s.2.1⟩ ∧ s.2.2.2.1 = sl.1 ∧ 0 ≤ s.2.2.2.2 ∧ s.2.2.2.2 ≤ most ∧ (s.2.2.1.length : Int) ≤ 6 + 5 * (most - s.2.2.2.2) ∧ ∀ x ∈ s.2.2.1,Kn sl.1 np i ps (· = -1) x) (fun s=>s.2.2.2.2.toNat) ⟨hr.1,rfl,hr.2.1,by simp only; omega,by simp only; omega,hall⟩ ?_
  rintro ⟨l,a,code,sl',n⟩ ⟨hc,rfl,hn0,hn1,hcl,hall⟩
  simp only at hc hn0 hn1 hcl hall
  unfold Ns
  refine .dec (fun hlt=>?_) fun hlt=>.lft ?_
  ·have hlt : 0 < n:=hlt
   have w : IntKind.i64.wrap (n - 1) = n - 1:=wrap64 (by omega) (by omega)
   refine (Agr hc (· = -1) (by simp only; omega) hnp4.2 hi hi' hps).bind fun b hb=>.chk (by simp; omega) ?_
   have hall2 : ∀ x ∈ code ++ b.1,Kn sl.1 np i ps (· = -1) x:=by
    intro y hy
    rcases List.mem_append.1 hy with h2 | h2
    ·exact hall y h2
    ·exact hb.2.2 y h2
   have hall3 : ∀ x,Kn sl.1 np i ps (· = -1) x → ∀ y ∈ (code ++ b.1) ++ [x],Kn sl.1 np i ps (· = -1) y:=by
    intro x hx y hy
    rcases List.mem_append.1 hy with h2 | h2
    ·exact hall2 y h2
    ·rw [List.mem_singleton] at h2; subst h2; exact hx
   have hbl:=hb.2.1
   refine (JD hb.1 (by omega) (by omega)).bind fun r hr=>.beq (fun _=>?_) fun _=>.beq (fun _=>?_) fun _=>?_
   ·refine (JD hr.1 (by omega) (by omega)).bind fun q hq=>.chk (by simp; omega) (.cnt ⟨⟨hq.1,rfl,by simp only [w]; omega,by simp only [w]; omega,by simp only [w,List.length_append,List.length_singleton]; omega,hall3 _ (.branch _ _ hq.2 rfl)⟩,by simp only [w]; omega⟩)
   ·refine (JD hr.1 (by omega) (by omega)).bind fun q hq=>.beq (fun _=>?_) fun _=>?_
    ·exact .chk (by simp; omega) (.cnt ⟨⟨hq.1,rfl,by simp only [w]; omega,by simp only [w]; omega,by simp only [w,List.length_append,List.length_singleton]; omega,hall3 _ (.jump _ rfl)⟩,by simp only [w]; omega⟩)
    ·exact .cnt ⟨⟨hq.1,rfl,by simp only [w]; omega,by simp only [w]; omega,by simp only [w,List.length_append]; omega,hall2⟩,by simp only [w]; omega⟩
   ·exact .cnt ⟨⟨hr.1,rfl,by simp only [w]; omega,by simp only [w]; omega,by simp only [w,List.length_append]; omega,hall2⟩,by simp only [w]; omega⟩
  ·refine (JD hc (by omega) (by omega)).bind fun r hr=>.beq (fun _=>?_) fun _=>?_
   ·exact (AdF hr.1).bind fun q hq=>Agn hq.1 hnp (by omega) hsl2 (by omega) hm hall (.inr ⟨_,hq.2,rfl⟩)
   ·exact Agn hr.1 hnp (by omega) hsl2 (by omega) hm hall (.inl rfl)
def AgN (funcs most : Int) (p : NT) : Prop :=
 ∃ ps,Acv ps ∧ ps[0]? = some 0 ∧ 1 ≤ ps.length ∧ (ps.length : Int) ≤ funcs ∧ p.Funcs.length = ps.length ∧ ∀ (j : Nat) f,p.Funcs[j]? = some f → RS ps j most f
theorem AdM {c : Jd} (h : okC c) {funcs most : Int} (hf : 1 ≤ funcs) (hf' : funcs ≤ 1000) (hm0 : 0 ≤ most) (hm : most ≤ 1000) :
  Hs (Mf c funcs most) fun p=>okC p.2 ∧ AgN funcs most p.1:=by
 unfold Mf
 refine (JD h hf (by omega)).bind fun r hr=>?_
 refine Hs.loop (fun s=>okC ⟨s.1,s.2.1⟩ ∧ (∀ v ∈ s.2.2.1,0 ≤ v ∧ v < 4) ∧ s.2.2.1[0]? = some 0 ∧ 0 ≤ s.2.2.2 ∧ (s.2.2.1.length : Int) + s.2.2.2 ≤ funcs) (fun s=>s.2.2.2.toNat) ⟨hr.1,by simp,by simp,hr.2.1,by simp; omega⟩ ?_
 rintro ⟨l,a,ps,n⟩ ⟨hc,hv,hz,hn0,hn1⟩
 simp only at hc hv hz hn0 hn1
 have hp1 : 1 ≤ ps.length:=by have:=(List.getElem?_eq_some_iff.1 hz).1; omega
 unfold NH
 refine .dec (fun hlt=>?_) fun hlt=>.lft ?_
 ·have hlt : 0 < n:=hlt
  have w : IntKind.i64.wrap (n - 1) = n - 1:=wrap64 (by omega) (by omega)
  refine (JD hc (by omega) (by omega)).bind fun q hq=>.chk (by simp; omega) (.cnt ⟨⟨hq.1,?_,by simp only; rw [List.getElem?_append_left (by omega)]; exact hz,by simp only [w]; omega,by simp only [w,List.length_append,List.length_singleton]; omega⟩,by simp only [w]; omega⟩)
  intro y hy
  rcases List.mem_append.1 hy with h2 | h2
  ·exact hv y h2
  ·rw [List.mem_singleton] at h2; subst h2; exact hq.2
 ·have hps : Acv ps:=⟨hv,by omega⟩
  refine Hs.loop (fun s=>okC ⟨s.1,s.2.1⟩ ∧ s.2.2.2.2 = ps ∧ ∃ i : Nat,s.2.2.2.1 = (i : Int) ∧ i ≤ ps.length ∧ s.2.2.1.length = i ∧ ∀ (j : Nat) f,s.2.2.1[j]? = some f → RS ps j most f) (fun s=>ps.length - s.2.2.2.1.toNat) ⟨hc,rfl,0,rfl,Nat.zero_le _,rfl,fun j f hj=>by simp at hj⟩ ?_
  rintro ⟨l,a,fs,i',ps'⟩ ⟨hc,hpe,i,hie,hi,hfl,hall⟩
  simp only at hc hpe hie hi hfl hall
  subst hpe hie
  unfold NI
  refine .dec (fun hlt=>?_) fun hlt=>.lft (.pure ⟨hc,ps',hps,hz,hp1,by omega,?_,hall⟩)
  ·have hlt : i < ps'.length:=Int.ofNat_lt.1 hlt
   have w:=JG (show i < 9223372036854775807 by have:=hps.2; omega)
   have hpl:=hps.2
   refine .chk (by simp; omega) ((Ado hc (i:=(i : Int)) (ps:=ps') (by omega) (by omega) hps hm0 hm).bind fun f hf=>.chk (by simp; omega) (.cnt ⟨⟨hf.1,rfl,i + 1,w,hlt,by simp; omega,?_⟩,by simp only [w]; omega⟩))
   intro j g hg
   simp only [List.nil_append] at hg
   by_cases e : j < fs.length
   ·rw [List.getElem?_append_left e] at hg; exact hall j g hg
   ·have hj : j = i:=by
     have:=(List.getElem?_eq_some_iff.1 hg).1
     simp at this; omega
    subst hj
    rw [List.getElem?_append_right (by omega),hfl] at hg
    simp at hg
    subst hg
    exact hf.2
  ·have hlt : ¬ i < ps'.length:=fun h=>hlt (Int.ofNat_lt.2 h)
   simp only; omega
end Go.Proofs.YtfpgidpffhmadaaDoor
namespace Go.Proofs.YtfpgidpffhmadaaDoor
open Go Go.Dw Go.Proofs
attribute [local simp] JQ Bool.cond_eq_ite
def LC (x : Je) (k : Int) : List Int :=
 if x.Op = 20 then [x.A] else if x.Op = 23 ∨ x.Op = 24 then [] else
 if x.Op = 21 then (if x.B < k + 1 then [x.B,k + 1] else if k + 1 < x.B then [k + 1,x.B] else [k + 1]) else [k + 1]
theorem Agi {f : Jh} {k : Nat} {x : Je} (h : f.Code[k]? = some x) (hk : k < 9223372036854775807) : SF f (k : Int) = some (LC x k):=by
 obtain ⟨hl,hx⟩:=List.getElem?_eq_some_iff.1 h
 have hnl : ¬ f.Code.length ≤ k:=by omega
 have w : IntKind.i64.wrap ((k : Int) + 1) = (k : Int) + 1:=wrap64 (by omega) (by omega)
 unfold SF TA LC
 obtain ⟨op,a,b,c,i⟩:=x
 by_cases h20 : op = 20
 ·subst h20; simp [hx,hl,hnl,show ¬ (k : Int) < 0 by omega]
 ·have e20 : (op == 20) = false:=by simpa using h20
  by_cases h23 : op = 23
  ·subst h23; simp [hx,hl,hnl,show ¬ (k : Int) < 0 by omega,Lw]
  ·have e23 : (op == 23) = false:=by simpa using h23
   by_cases h24 : op = 24
   ·subst h24; simp [hx,hl,hnl,show ¬ (k : Int) < 0 by omega,Lw]
   ·have e24 : (op == 24) = false:=by simpa using h24
    by_cases h21 : op = 21
    ·subst h21
     by_cases hb : b < (k : Int) + 1
     ·simp [hx,hl,hnl,show ¬ (k : Int) < 0 by omega,Lw,w,hb]
     ·by_cases hb' : (k : Int) + 1 < b
      ·simp [hx,hl,hnl,show ¬ (k : Int) < 0 by omega,Lw,w,hb,hb']
      ·simp [hx,hl,hnl,show ¬ (k : Int) < 0 by omega,Lw,w,hb,hb']
    ·have e21 : (op == 21) = false:=by simpa using h21
     simp [hx,hl,hnl,show ¬ (k : Int) < 0 by omega,Lw,w,h20,h23,h24,h21]
def LN (x : Je) : List Int:=if x.Op = 15 ∨ x.Op = 17 then [x.B] else []
structure Kj (f : Jh) : Prop where
 len : 1 ≤ f.Code.length
 len' : f.Code.length ≤ 10000
 slots : f.Slots.length ≤ 500
 next : ∀ (k : Nat) x,f.Code[k]? = some x → ∀ j ∈ LC x k,0 ≤ j ∧ j < f.Code.length
 uses : ∀ x ∈ f.Code,∀ v ∈ LN x,0 ≤ v ∧ v < f.Slots.length
theorem RS.AjB {ps : List Int} {i most : Int} {f : Jh} (h : RS ps i most f) (hm : most ≤ 1000) : Kj f:=by
 have hl:=h.len
 have hl':=h.len'
 have hs:=h.slots
 refine ⟨hl,by omega,by omega,fun k x hx j hj=>?_,fun x hx v hv=>?_⟩
 ·have hkl:=(List.getElem?_eq_some_iff.1 hx).1
  by_cases hk : k + 1 < f.Code.length
  ·have hins:=h.body k x hx hk
   cases hins with
   | jump t h1=>simp [LC] at hj; subst hj; exact h1
   | branch a t h0 h1 =>
    simp [LC] at hj
    have : j = t ∨ j = (k : Int) + 1:=by
     split at hj
     ·simpa using hj
     ·split at hj
      ·simp at hj; omega
      ·simp at hj; omega
    rcases this with rfl | rfl <;> omega
   | bin op a b c h1 h2 h3 h4 h5 h6 =>
    simp [LC,show op ≠ 20 by omega,show op ≠ 23 by omega,show op ≠ 24 by omega,show op ≠ 21 by omega] at hj
    subst hj; omega
   | un op a h1 h2 =>
    simp [LC,show op ≠ 20 by omega,show op ≠ 23 by omega,show op ≠ 24 by omega,show op ≠ 21 by omega] at hj
    subst hj; omega
   | _=>simp [LC] at hj; subst hj; omega
  ·have he:=h.last x (by rw [show f.Code.length - 1 = k by omega]; exact hx)
   rcases he with rfl | ⟨w,_,rfl⟩ <;> simp [LC] at hj
 ·obtain ⟨k,hk⟩:=List.getElem?_of_mem hx
  have hkl:=(List.getElem?_eq_some_iff.1 hk).1
  by_cases hk1 : k + 1 < f.Code.length
  ·have hins:=h.body k x hk hk1
   cases hins with
   | load a b h0 h1 h2=>simp [LN] at hv; subst hv; exact ⟨h1,h2⟩
   | move a b h0 h1 h2=>simp [LN] at hv; subst hv; exact ⟨h1,h2⟩
   | bin op a b c h1 h2 h3 h4 h5 h6=>simp [LN,show op ≠ 15 by omega,show op ≠ 17 by omega] at hv
   | un op a h1 h2=>simp [LN,show op ≠ 15 by omega,show op ≠ 17 by omega] at hv
   | _=>simp [LN] at hv
  ·have he:=h.last x (by rw [show f.Code.length - 1 = k by omega]; exact hk)
   rcases he with rfl | ⟨w,_,rfl⟩ <;> simp [LN] at hv
end Go.Proofs.YtfpgidpffhmadaaDoor
namespace Go.Proofs.YtfpgidpffhmadaaDoor
open Go Go.Dw Go.Proofs
attribute [local simp] JQ Bool.cond_eq_ite
def Kc (n : Int) (s : List Int) : Prop:=JR s ∧ ∀ x ∈ s,x < n
theorem Kc.nil (n : Int) : Kc n []:=⟨JR.nil,fun x hx=>by cases hx⟩
theorem Kc.add {n m : Int} {s : List Int} (h : Kc n s) (hm : 0 ≤ m ∧ m < n) (hn : n ≤ 512) : Kc n (NU m s) ∧ Om s m = some (NU m s):=by
 have hl:=h.1.length_le
 refine ⟨?_,add_eq s m (by omega)⟩
 unfold NU
 rw [if_pos (by omega)]
 refine ⟨h.1.OU (by omega),fun x hx=>?_⟩
 rw [Vw] at hx
 rcases hx with rfl | hx
 ·exact hm.2
 ·exact h.2 x hx
def RowsIn (n : Int) (g : List (List Int)) : Prop:=∀ s ∈ g,Kc n s
theorem RowsIn.set {n : Int} {g : List (List Int)} (h : RowsIn n g) {i : Nat} {s : List Int} (hs : Kc n s) : RowsIn n (g.set i s):=by
 intro x hx
 rcases List.mem_or_eq_of_mem_set hx with h1 | rfl
 ·exact h x h1
 ·exact hs
end Go.Proofs.YtfpgidpffhmadaaDoor
namespace Go.Proofs.YtfpgidpffhmadaaDoor
open Go Go.Dw Go.Proofs
attribute [local simp] JQ Bool.cond_eq_ite
def inN (x : Je) (s : List Int) : List Int:=Lv (if x.Op = 16 ∨ x.Op = 17 then s.filter (· != x.A) else s) (LN x)
theorem AjW (x : Je) (s : List Int) (h : s.length ≤ 900000) : VE x s = some (inN x s):=by
 obtain ⟨op,a,b,c,i⟩:=x
 have hu : QM ⟨op,a,b,c,i⟩ = some (LN ⟨op,a,b,c,i⟩):=by
  unfold QM LN
  by_cases h15 : op = 15
  ·simp [h15]
  ·have e15 : (op == 15) = false:=by simpa using h15
   by_cases h17 : op = 17
   ·simp [h17]
   ·have e17 : (op == 17) = false:=by simpa using h17
    simp [h15,e15,h17,e17]
 have hul : (LN ⟨op,a,b,c,i⟩).length ≤ 1:=by unfold LN; split <;> simp
 have hfl : (s.filter (· != a)).length ≤ s.length:=List.length_filter_le ..
 have hr:=Ace s a (by omega)
 have hu1:=union_eq (s.filter (· != a)) (LN ⟨op,a,b,c,i⟩) (by omega)
 have hu2:=union_eq s (LN ⟨op,a,b,c,i⟩) (by omega)
 unfold VE QZ Pr inN
 by_cases h16 : op = 16
 ·subst h16; simp [hr,hu,hu1]
 ·have e16 : (op == 16) = false:=by simpa using h16
  by_cases h17 : op = 17
  ·subst h17; simp [hr,hu,hu1]
  ·have e17 : (op == 17) = false:=by simpa using h17
   simp [h16,e16,h17,e17,hu,hu2]
theorem Ui {f : Jh} (hf : Kj f) {x : Je} (hx : x ∈ f.Code) {s : List Int} (hs : Kc f.Slots.length s) :
  Kc f.Slots.length (inN x s) ∧ ∀ v,v ∈ inN x s ↔ (v ∈ s ∧ ¬ ((x.Op = 16 ∨ x.Op = 17) ∧ x.A = v)) ∨ v ∈ LN x:=by
 have hsl:=hf.slots
 have h0 : Kc f.Slots.length (if x.Op = 16 ∨ x.Op = 17 then s.filter (· != x.A) else s):=by
  split
  ·exact ⟨hs.1.filter _,fun v hv=>hs.2 v (List.mem_filter.1 hv).1⟩
  ·exact hs
 obtain ⟨h1,h2⟩:=QU (n:=f.Slots.length) (by omega) (b:=LN x) h0 (hf.uses x hx)
 refine ⟨h1,fun v=>?_⟩
 unfold inN
 rw [h2]
 by_cases hd : x.Op = 16 ∨ x.Op = 17
 ·simp only [hd,if_true,List.mem_filter,true_and]
  constructor
  ·rintro (⟨h3,h4⟩ | h3)
   ·exact .inl ⟨h3,fun e=>by simp [e] at h4⟩
   ·exact .inr h3
  ·rintro (⟨h3,h4⟩ | h3)
   ·exact .inl ⟨h3,by simpa using fun e : v = x.A=>h4 e.symm⟩
   ·exact .inr h3
 ·simp [hd]
def Jq (f : Jh) (j : Int) : Je:=(f.Code[j.toNat]?).getD default
def Jx (l : List (List Int)) (j : Int) : List Int:=(l[j.toNat]?).getD []
def Rh (f : Jh) (l : List (List Int)) (k : Int) : List Int:=(LC (Jq f k) k).foldl (fun o j=>Lv o (inN (Jq f j) (Jx l j))) []
def MF (f : Jh) (l : List (List Int)) : List (List Int):=(List.range f.Code.length).map fun k=>Rh f l (k : Nat)
def MM (f : Jh) (l : List (List Int)) : Prop:=l.length = f.Code.length ∧ ∀ s ∈ l,Kc f.Slots.length s
theorem AcO {f : Jh} (hf : Kj f) {l : List (List Int)} (hl : MM f l) : ∀ {js : List Int} {o : List Int},(∀ j ∈ js,0 ≤ j ∧ j < f.Code.length) → Kc f.Slots.length o →
  Kc f.Slots.length (js.foldl (fun o j=>Lv o (inN (Jq f j) (Jx l j))) o) ∧ ∀ v,v ∈ js.foldl (fun o j=>Lv o (inN (Jq f j) (Jx l j))) o ↔ v ∈ o ∨ ∃ j ∈ js,v ∈ inN (Jq f j) (Jx l j)
 | [],o,_,ho=>⟨ho,fun v=>by simp⟩
 | j :: js,o,hj,ho=>by
  have hsl:=hf.slots
  have h0:=hj j (List.mem_cons_self ..)
  have hc : Jq f j ∈ f.Code:=by
   unfold Jq
   rw [List.getElem?_eq_getElem (show j.toNat < f.Code.length by omega)]
   exact List.getElem_mem _
  have ho' : Kc f.Slots.length (Jx l j):=by
   unfold Jx
   rw [List.getElem?_eq_getElem (show j.toNat < l.length by have:=hl.1; omega)]
   exact hl.2 _ (List.getElem_mem _)
  obtain ⟨h1,h2⟩:=Ui hf hc ho'
  obtain ⟨h3,h4⟩:=QU (n:=f.Slots.length) (by omega) (b:=inN (Jq f j) (Jx l j)) ho fun x hx=>⟨(h1.1.2 x hx).1,h1.2 x hx⟩
  obtain ⟨h5,h6⟩:=AcO hf hl (fun q hq=>hj q (List.mem_cons_of_mem _ hq)) h3
  refine ⟨h5,fun v=>?_⟩
  simp only [List.foldl_cons]
  rw [h6,h4]
  simp only [List.mem_cons,exists_eq_or_imp,or_assoc]
theorem Ts {f : Jh} (hf : Kj f) {l : List (List Int)} (hl : MM f l) {k : Nat} (hk : k < f.Code.length) :
  Kc f.Slots.length (Rh f l k) ∧ ∀ v,v ∈ Rh f l k ↔ ∃ j ∈ LC (Jq f k) k,v ∈ inN (Jq f j) (Jx l j):=by
 have hx : f.Code[k]? = some (Jq f k):=by simp [Jq,hk]
 obtain ⟨h1,h2⟩:=AcO hf hl (js:=LC (Jq f k) k) (hf.next k _ hx) (Kc.nil _)
 exact ⟨h1,fun v=>by unfold Rh; rw [h2]; simp⟩
theorem Ade {f : Jh} (hf : Kj f) {l : List (List Int)} (hl : MM f l) : MM f (MF f l):=by
 refine ⟨by simp [MF],fun s hs=>?_⟩
 obtain ⟨k,hk,rfl⟩:=List.mem_map.1 hs
 exact (Ts hf hl (List.mem_range.1 hk)).1
theorem step_eq {f : Jh} (hf : Kj f) {l : List (List Int)} (hl : MM f l) : SJ f ⟨l⟩ = some ⟨MF f l⟩:=by
 have hlen:=hf.len'
 unfold SJ
 rw [JQ (by omega)]
 have key : Hs (JL (fun s : List (List Int) × Int=>Pc f ⟨l⟩ s.1 s.2) (List.replicate (f.Code.length : Int).toNat ([] : List Int),0)) fun r=>r = ⟨MF f l⟩:=by
  refine Hs.loop (fun s=>s.1.length = f.Code.length ∧ ∃ k : Nat,s.2 = (k : Int) ∧ k ≤ f.Code.length ∧ ∀ (j : Nat) r,s.1[j]? = some r → r = if j < k then Rh f l j else []) (fun s=>f.Code.length - s.2.toNat) ⟨by simp,0,rfl,Nat.zero_le _,fun j r hj=>?_⟩ ?_
  ·have:=List.mem_of_getElem? hj
   rw [List.mem_replicate] at this
   simp [this.2]
  rintro ⟨x,k'⟩ ⟨hxl,k,hke,hk,hall⟩
  simp only at hxl hke hall
  subst hke
  by_cases hlt : k < f.Code.length
  ·have w:=JG (show k < 9223372036854775807 by omega)
   have hx : f.Code[k]? = some (Jq f k):=by simp [Jq,hlt]
   have hxk : x[k]? = some []:=by
    have h1 : x[k]? = some (x[k]'(by omega)):=List.getElem?_eq_getElem _
    have:=hall k _ h1
    rw [h1,this,if_neg (by omega)]
   have hset : x.set k [] = x:=by
    obtain ⟨h1,h2⟩:=List.getElem?_eq_some_iff.1 hxk
    rw [← h2]; exact List.set_getElem_self h1
   have inner:=LL (body:=fun s : List (List Int) × Int=>Pd (LC (Jq f k) k) k f ⟨l⟩ s.1 s.2) (LC (Jq f k) k) (fun (o : List Int) i=>(x.set k o,i)) (fun o _=>Kc f.Slots.length o)
    (fun o js=>some (.inl (x.set k (js.foldl (fun o j=>Lv o (inN (Jq f j) (Jx l j))) o),((k + 1 : Nat) : Int))))
    (fun o _=>⟨_,by simp [Pd,TB,w]; rfl,by simp⟩) (fun o i j r ho hd hi hj=>by
     left
     have wi:=JG (show i < 9223372036854775807 by
      have : (LC (Jq f k) k).length ≤ 2:=by unfold LC; (repeat' split) <;> simp
      omega)
     have hjm:=hf.next k _ hx j (List.mem_of_getElem? hj)
     have hjc : f.Code[j.toNat]? = some (Jq f j):=by simp [Jq,show j.toNat < f.Code.length by omega]
     have hjl : j.toNat < l.length:=by have:=hl.1; omega
     have hjo : l[j.toNat]? = some (Jx l j):=by simp [Jx,hjl]
     have hos : Kc f.Slots.length (Jx l j):=hl.2 _ (List.mem_of_getElem? hjo)
     have hsl:=hf.slots
     obtain ⟨g1,g2⟩:=Ui hf (List.mem_of_getElem? hjc) hos
     obtain ⟨g3,g4⟩:=QU (n:=f.Slots.length) (by omega) (b:=inN (Jq f j) (Jx l j)) ho fun x hx=>⟨(g1.1.2 x hx).1,g1.2 x hx⟩
     have e1:=AjW (Jq f j) (Jx l j) (by have:=hos.1.length_le; omega)
     have e2:=union_eq o (inN (Jq f j) (Jx l j)) (by have:=ho.1.length_le; have:=g1.1.length_le; omega)
     obtain ⟨_,hje⟩:=List.getElem?_eq_some_iff.1 hj
     refine ⟨Lv o (inN (Jq f j) (Jx l j)),g3,?_,by simp⟩
     simp [Pd,hi,hje,hxl,hlt,Vs _ hjm.1,hjc,hjo,e1,e2,wi]) [] (Kc.nil _)
   simp only [hset] at inner
   refine ⟨.inl (x.set k (Rh f l k),((k + 1 : Nat) : Int)),?_,⟨by simpa using hxl,k + 1,rfl,hlt,fun j r hj=>?_⟩,by simp only; omega⟩
   ·simp only [Pc,decide_eq_true (Int.ofNat_lt.2 hlt),cond_true,Agi hx (by omega),Option.bind_some]
    exact inner
   ·simp only at hj
    by_cases e : k = j
    ·subst e
     rw [List.getElem?_set_self (by omega)] at hj
     obtain rfl:=Option.some.inj hj
     rw [if_pos (by omega)]
    ·rw [List.getElem?_set_ne e] at hj
     rw [hall j r hj]
     by_cases e2 : j < k
     ·rw [if_pos e2,if_pos (by omega)]
     ·rw [if_neg e2,if_neg (by omega)]
  ·refine ⟨.inr ⟨x⟩,by simp [Pc,hlt],?_⟩
   show Jp.mk x = ⟨MF f l⟩
   congr 1
   refine List.ext_getElem (by simp [MF,hxl]) fun j h1 h2=>?_
   have:=hall j _ (List.getElem?_eq_getElem h1)
   rw [this,if_pos (by omega)]
   simp [MF]
 obtain ⟨r,h1,rfl⟩:=key
 exact h1
def LE (a b : List (List Int)) : Prop:=∀ (k : Nat) s t,a[k]? = some s → b[k]? = some t → ∀ v ∈ s,v ∈ t
theorem LE.trans {a b c : List (List Int)} (h1 : LE a b) (h2 : LE b c) (hl : a.length = b.length) : LE a c:=by
 intro k s t hs ht v hv
 have hk:=(List.getElem?_eq_some_iff.1 hs).1
 have hb : b[k]? = some (b[k]'(by omega)):=List.getElem?_eq_getElem _
 exact h2 k _ t hb ht v (h1 k s _ hs hb v hv)
theorem Aeq : ∀ {a b : List (List Int)},a.length = b.length → (∀ s ∈ a,JR s) → (∀ s ∈ b,JR s) → LE a b → (a.map List.length).sum ≤ (b.map List.length).sum ∧ ((a.map List.length).sum = (b.map List.length).sum → a = b)
 | [],[],_,_,_,_=>⟨Nat.le_refl _,fun _=>rfl⟩
 | [],y :: b,h,_,_,_=>by simp at h
 | x :: a,[],h,_,_,_=>by simp at h
 | x :: a,y :: b,h,ha,hb,hle=>by
  have hsub:=(ha x (List.mem_cons_self ..)).sub (hb y (List.mem_cons_self ..)) (hle 0 x y rfl rfl)
  obtain ⟨h1,h2⟩:=Aeq (a:=a) (b:=b) (by simpa using h) (fun s hs=>ha s (List.mem_cons_of_mem _ hs)) (fun s hs=>hb s (List.mem_cons_of_mem _ hs)) fun k s t hs ht=>hle (k + 1) s t (by simpa using hs) (by simpa using ht)
  have hlen:=hsub.length_le
  simp only [List.map_cons,List.sum_cons]
  refine ⟨by omega,fun he=>?_⟩
  rw [h2 (by omega),hsub.eq_of_length (by omega)]
theorem Acg : ∀ {a : List (List Int)},(∀ s ∈ a,JR s) → (a.map List.length).sum ≤ 512 * a.length
 | [],_=>by simp
 | x :: a,ha=>by
  have h1:=(ha x (List.mem_cons_self ..)).length_le
  have h2:=Acg (a:=a) fun s hs=>ha s (List.mem_cons_of_mem _ hs)
  simp only [List.map_cons,List.sum_cons,List.length_cons]
  omega
theorem AfY {f : Jh} (hf : Kj f) {x : Je} (hx : x ∈ f.Code) {s t : List Int} (hs : Kc f.Slots.length s) (ht : Kc f.Slots.length t) (h : ∀ v ∈ s,v ∈ t) : ∀ v ∈ inN x s,v ∈ inN x t:=by
 intro v hv
 rw [(Ui hf hx hs).2] at hv
 rw [(Ui hf hx ht).2]
 rcases hv with ⟨h1,h2⟩ | h1
 ·exact .inl ⟨h v h1,h2⟩
 ·exact .inr h1
theorem Acf {f : Jh} (hf : Kj f) {a b : List (List Int)} (ha : MM f a) (hb : MM f b) (h : LE a b) : LE (MF f a) (MF f b):=by
 intro k s t hs ht v hv
 have hk : k < f.Code.length:=by have:=(List.getElem?_eq_some_iff.1 hs).1; simpa [MF] using this
 have e1 : s = Rh f a k:=by simp [MF,hk] at hs; exact hs.symm
 have e2 : t = Rh f b k:=by simp [MF,hk] at ht; exact ht.symm
 subst e1 e2
 rw [(Ts hf ha hk).2] at hv
 rw [(Ts hf hb hk).2]
 obtain ⟨j,hj,hv⟩:=hv
 have hx : f.Code[k]? = some (Jq f k):=by simp [Jq,hk]
 have hjm:=hf.next k _ hx j hj
 have hjc : f.Code[j.toNat]? = some (Jq f j):=by simp [Jq,show j.toNat < f.Code.length by omega]
 have hja : a[j.toNat]? = some (Jx a j):=by simp [Jx,show j.toNat < a.length by have:=ha.1; omega]
 have hjb : b[j.toNat]? = some (Jx b j):=by simp [Jx,show j.toNat < b.length by have:=hb.1; omega]
 exact ⟨j,hj,AfY hf (List.mem_of_getElem? hjc) (ha.2 _ (List.mem_of_getElem? hja)) (hb.2 _ (List.mem_of_getElem? hjb)) (h _ _ _ hja hjb) v hv⟩
structure AbG (f : Jh) (l : List (List Int)) : Prop where
 ok : MM f l
 fix : MF f l = l
 least : ∀ b,MM f b → LE (MF f b) b → LE l b
theorem Abp {f : Jh} (hf : Kj f) : Hs (Oo f) fun l=>AbG f l.Out:=by
 have hlen:=hf.len'
 unfold Oo
 refine .chk (by omega) ?_
 refine Hs.loop (fun l=>MM f l ∧ LE l (MF f l) ∧ ∀ b,MM f b → LE (MF f b) b → LE l b) (fun l=>512 * f.Code.length - (l.map List.length).sum) ⟨⟨by simp,fun s hs=>?_⟩,fun k s t hs ht v hv=>?_,fun b _ _ k s t hs ht v hv=>?_⟩ ?_
 ·rw [List.mem_replicate] at hs; rw [hs.2]; exact Kc.nil _
 ·have:=List.mem_of_getElem? hs; rw [List.mem_replicate] at this; rw [this.2] at hv; cases hv
 ·have:=List.mem_of_getElem? hs; rw [List.mem_replicate] at this; rw [this.2] at hv; cases hv
 ·rintro l ⟨hl,hle,hleast⟩
  have hl':=Ade hf hl
  have e1:=step_eq hf hl
  have e2 : SG ⟨MF f l⟩ ⟨l⟩ = some (decide (MF f l = l)):=by
   unfold SG
   rw [AdO _ _ (by have:=hl'.1; simp only; omega) (fun s hs=>by have:=(hl'.2 s hs).1.length_le; omega)]
   rfl
  obtain ⟨s1,s2⟩:=Aeq (by rw [hl.1,hl'.1]) (fun s hs=>(hl.2 s hs).1) (fun s hs=>(hl'.2 s hs).1) hle
  have s3:=Acg fun s hs=>(hl'.2 s hs).1
  rw [hl'.1] at s3
  unfold SH
  rw [e1,Option.bind_some,e2,Option.bind_some]
  by_cases he : MF f l = l
  ·simp only [he,decide_true,cond_true]
   exact .lft (.pure ⟨hl,he,hleast⟩)
  ·simp only [he,decide_false,cond_false]
   refine .cnt ⟨⟨hl',Acf hf hl hl' hle,fun b hb hb'=>(Acf hf hl hb (hleast b hb hb')).trans hb' (by rw [hl'.1,(Ade hf hb).1])⟩,?_⟩
   have : (l.map List.length).sum ≠ ((MF f l).map List.length).sum:=fun e=>he (s2 e).symm
   simp only
   omega
end Go.Proofs.YtfpgidpffhmadaaDoor
namespace Go.Proofs.YtfpgidpffhmadaaDoor
open Go Go.Dw Go.Proofs
attribute [local simp] JQ Bool.cond_eq_ite
theorem AfV (x : Je) : PE x = some (LN x):=by
 obtain ⟨op,a,b,c,i⟩:=x
 unfold PE LN
 by_cases h15 : op = 15
 ·simp [h15]
 ·have e15 : (op == 15) = false:=by simpa using h15
  by_cases h17 : op = 17
  ·simp [h17]
  ·have e17 : (op == 17) = false:=by simpa using h17
   simp [h15,e15,h17,e17]
theorem AbJ (x : Je) : Ml x = some (if x.Op = 16 ∨ x.Op = 17 then (x.A,true) else (0,false)):=by
 obtain ⟨op,a,b,c,i⟩:=x
 unfold Ml
 by_cases h16 : op = 16
 ·simp [h16]
 ·have e16 : (op == 16) = false:=by simpa using h16
  by_cases h17 : op = 17
  ·simp [h17]
  ·have e17 : (op == 17) = false:=by simpa using h17
   simp [h16,e16,h17,e17]
theorem AgK (x : Je) : (LN x).length ≤ 1:=by unfold LN; split <;> simp
theorem Aey (x : Je) (hu : ∀ v ∈ LN x,0 ≤ v ∧ v < 512) : Lv [] (LN x) = LN x:=by
 unfold LN at hu ⊢
 split
 ·rename_i h
  rw [if_pos h] at hu
  have:=hu x.B (by simp)
  simp [Lv,NU,OU,this]
 ·rfl
theorem Ajz {x : Je} {s : List Int} (hs : JR s) (hu : ∀ v ∈ LN x,0 ≤ v ∧ v < 512) : Ug x s = some (inN x s):=by
 have hl:=AgK x
 have h1:=AeA hu (by omega)
 rw [Aey x hu] at h1
 have h2:=AcD hs x.A
 have h3:=YI (hs.filter (· != x.A)) hu (by omega)
 have h4:=YI hs hu (by omega)
 unfold Ug inN
 rw [AbJ,Option.bind_some,AfV]
 by_cases h : x.Op = 16 ∨ x.Op = 17
 ·simp only [h,if_true,cond_true,Option.bind_some,h1,h2,h3]
 ·simp only [h,if_false,cond_false,Option.bind_some,h1,h4]
theorem Adk {a b : List Int} (ha : JR a) (hb : JR b) : Ow a b = some (a.filter fun v=>!decide (v ∈ b)):=by
 obtain ⟨r,h1,h2⟩:=Adl a b (by have:=ha.length_le; omega) (by have:=hb.length_le; omega)
 rw [h1,h2.eq (Og.Abx (ha.filter fun v=>!decide (v ∈ b))) fun v _ _=>by simp [List.mem_filter]]
theorem Aeo (a b : List Int) (ha : a.length ≤ 16777215) (hb : b.length ≤ 9223372036854775807) : Rg a b = some (a.filter fun v=>!decide (v ∈ b)):=by
 unfold Rg
 have:=LL (body:=fun p : List Int × Int=>Nh a b p.1 p.2) a (fun (out : List Int) i=>(out,i)) (fun out i=>out.length ≤ i) (fun out l=>some (out ++ l.filter fun v=>!decide (v ∈ b)))
  (fun out _=>⟨out,by simp [Nh],by simp⟩) (fun out i x r ho hd hi hx=>by
   have w:=JG (show i < 9223372036854775807 by omega)
   obtain ⟨_,rfl⟩:=List.getElem?_eq_some_iff.1 hx
   left
   by_cases h : a[i] ∈ b
   ·exact ⟨out,by omega,by simp [Nh,hi,Aee b _ hb,h,w],by simp [h]⟩
   ·exact ⟨out ++ [a[i]],by simp; omega,by simp [Nh,hi,Aee b _ hb,h,w,show out.length ≤ 16777215 by omega],by simp [h]⟩)
  [] (by simp)
 simpa using this
end Go.Proofs.YtfpgidpffhmadaaDoor
namespace Go.Proofs.YtfpgidpffhmadaaDoor
open Go Go.Dw Go.Proofs
attribute [local simp] JQ Bool.cond_eq_ite
theorem AaR : Lib.compact ([] : List Int) = []:=by simp [Lib.compact,Lib.compactUpTo]
theorem AaS (a : Int) : Lib.compact [a] = [a]:=by simp [Lib.compact,Lib.compactUpTo,List.range_succ,Lib.keeps]
theorem YJ (a b : Int) : Lib.compact [a,b] = if a = b then [a] else [a,b]:=by
 by_cases h : a = b
 ·subst h; simp [Lib.compact,Lib.compactUpTo,List.range_succ,Lib.keeps]
 ·have h' : ¬ b = a:=fun e=>h e.symm
  simp [Lib.compact,Lib.compactUpTo,List.range_succ,Lib.keeps,h,h']
theorem Adc (a : Int) : Li [a] = [a]:=by simp [Li]
theorem Adb : Li [] = []:=by simp [Li]
theorem Agk (a b : Int) : Li [a,b] = if a ≤ b then [a,b] else [b,a]:=by
 unfold Li List.mergeSort
 by_cases h : a ≤ b <;> simp [List.MergeSort.Internal.splitInTwo,h]
theorem AfX {f : Jh} {k : Nat} {x : Je} (h : f.Code[k]? = some x) (hk : k < 9223372036854775807) : Uh f (k : Int) = some (LC x k):=by
 obtain ⟨hl,hx⟩:=List.getElem?_eq_some_iff.1 h
 have hnl : ¬ f.Code.length ≤ k:=by omega
 have w : IntKind.i64.wrap ((k : Int) + 1) = (k : Int) + 1:=wrap64 (by omega) (by omega)
 unfold Uh UC Sg LC Qm
 obtain ⟨op,a,b,c,i⟩:=x
 by_cases h20 : op = 20
 ·subst h20; simp [hx,hl,hnl,show ¬ (k : Int) < 0 by omega,Adc,AaS]
 ·have e20 : (op == 20) = false:=by simpa using h20
  by_cases h23 : op = 23
  ·subst h23; simp [hx,hl,hnl,show ¬ (k : Int) < 0 by omega,Adb,AaR]
  ·have e23 : (op == 23) = false:=by simpa using h23
   by_cases h24 : op = 24
   ·subst h24; simp [hx,hl,hnl,show ¬ (k : Int) < 0 by omega,Adb,AaR]
   ·have e24 : (op == 24) = false:=by simpa using h24
    by_cases h21 : op = 21
    ·subst h21
     simp [hx,hl,hnl,show ¬ (k : Int) < 0 by omega,w,Agk]
     by_cases hb : b < (k : Int) + 1
     ·simp [hb,show ¬ (k : Int) + 1 ≤ b by omega,YJ,show ¬ b = (k : Int) + 1 by omega]
     ·by_cases hb' : (k : Int) + 1 < b
      ·simp [hb,hb',show (k : Int) + 1 ≤ b by omega,YJ,show ¬ (k : Int) + 1 = b by omega]
      ·simp [YJ,show (k : Int) + 1 = b by omega]
    ·have e21 : (op == 21) = false:=by simpa using h21
     simp [hx,hl,hnl,show ¬ (k : Int) < 0 by omega,w,e24,h20,h23,h24,h21,Adc,AaS]
end Go.Proofs.YtfpgidpffhmadaaDoor
namespace Go.Proofs.YtfpgidpffhmadaaDoor
open Go Go.Dw Go.Proofs
attribute [local simp] JQ
theorem Agb {s : List Int} (hs : s.Pairwise (· < ·)) {n : Int} {h : s.length - 1 < s.length} (hl : s[s.length - 1] < n) : ∀ v ∈ s,v < n:=by
 intro v hv
 obtain ⟨i,hi,rfl⟩:=List.getElem_of_mem hv
 by_cases e : i = s.length - 1
 ·subst e; exact hl
 ·have:=List.pairwise_iff_getElem.1 hs i (s.length - 1) hi h (by omega)
  omega
theorem Agm (s : List Int) (f : Jh) (hs : s.length ≤ maxLen) : Hs (Lm s f) fun b=>(b = false ↔ Kc f.Slots.length s):=by
 have hm : maxLen ≤ 9223372036854775807:=by decide
 unfold Lm
 rw [TZ s (by omega),Option.bind_some]
 by_cases hc : Rk none s = true
 ·have hset:=(AaF s).1 hc
  rw [hc]
  simp only [Bool.not_true,cond_false]
  refine .dec (fun hp=>?_) fun hp=>?_
  ·have hp : 0 < s.length:=by omega
   have hi : s.length - 1 < s.length:=by omega
   have w : IntKind.i64.wrap ((s.length : Int) - 1) = ((s.length - 1 : Nat) : Int):=by rw [wrap64 (by omega) (by omega)]; omega
   rw [w,Pa,List.getElem?_eq_getElem hi,Option.bind_some]
   refine .pure ⟨fun h=>⟨hset,Agb hset.1 (h:=hi) (by simpa using h)⟩,fun h=>?_⟩
   have:=h.2 _ (List.getElem_mem hi)
   simp; omega
  ·have : s = []:=List.length_eq_zero_iff.1 (by omega)
   subst this
   exact .pure ⟨fun _=>Kc.nil _,fun _=>rfl⟩
 ·have hc' : Rk none s = false:=by simpa using hc
  rw [hc']
  simp only [Bool.not_false,cond_true]
  exact .pure ⟨fun h=>(by cases h),fun h=>(hc ((AaF s).2 h.1)).elim⟩
theorem AbW (f : Jh) (l : Jp) (hl : l.Out.length ≤ maxLen) (hr : ∀ s ∈ l.Out,s.length ≤ maxLen) : Hs (Ma f l) fun b=>(b = true ↔ MM f l.Out):=by
 have hm : maxLen ≤ 9223372036854775807:=by decide
 unfold Ma
 refine .beq (fun he=>?_) fun hne=>.pure ⟨fun h=>(by cases h),fun h=>(hne (by rw [h.1])).elim⟩
 have he : l.Out.length = f.Code.length:=by omega
 have key : Hs (Kb l.Out f) fun i=>(0 ≤ i ↔ ¬ ∀ s ∈ l.Out,Kc f.Slots.length s):=by
  unfold Kb
  refine Hs.loop (fun i=>∃ k : Nat,i = (k : Int) ∧ k ≤ l.Out.length ∧ ∀ (j : Nat) s,j < k → l.Out[j]? = some s → Kc f.Slots.length s) (fun i=>l.Out.length - i.toNat) ⟨0,rfl,Nat.zero_le _,fun j s h=>absurd h (Nat.not_lt_zero _)⟩ ?_
  rintro _ ⟨k,rfl,hk,hall⟩
  unfold KC
  refine .dec (fun hlt=>?_) fun hge=>?_
  ·have hlt : k < l.Out.length:=by omega
   rw [Pa,List.getElem?_eq_getElem hlt,Option.bind_some]
   refine (Agm _ f (hr _ (List.getElem_mem hlt))).bind fun b hb=>.cond (fun h=>?_) fun h=>?_
   ·refine .lft (.pure ⟨fun _ hh=>?_,fun _=>by omega⟩)
    have:=hb.2 (hh _ (List.getElem_mem hlt))
    rw [h] at this; cases this
   ·rw [JG (by omega)]
    refine .cnt ⟨⟨k + 1,rfl,hlt,fun j s hj hs=>?_⟩,by simp only; omega⟩
    by_cases e : j = k
    ·subst e
     rw [List.getElem?_eq_getElem hlt] at hs
     cases hs
     exact hb.1 h
    ·exact hall j s (by omega) hs
  ·refine .lft (.pure ⟨fun h=>by omega,fun h=>(h fun s hs=>?_).elim⟩)
   obtain ⟨j,hj⟩:=List.getElem?_of_mem hs
   exact hall j s (by have:=(List.getElem?_eq_some_iff.1 hj).1; omega) hj
 unfold Ke
 refine Hs.bind (P:=fun b=>(b = true ↔ ¬ ∀ s ∈ l.Out,Kc f.Slots.length s)) (key.bind fun i hi=>.pure (by simpa using hi)) fun b hb=>.pure ?_
 constructor
 ·intro h
  have hb' : b = false:=by simpa using h
  refine ⟨he,fun s hs=>?_⟩
  refine Classical.byContradiction fun hn=>?_
  have:=hb.2 fun hh=>hn (hh s hs)
  rw [hb'] at this; cases this
 ·intro h
  have : ¬ b = true:=fun hbt=>hb.1 hbt h.2
  simpa using this
def RP (f : Jh) (l : List (List Int)) (k : Int) : List Int :=
 (LC (Jq f k) k).foldl (fun o j=>Lv o ((inN (Jq f j) (Jx l j)).filter fun v=>!decide (v ∈ Jx l k))) []
theorem MM.at {f : Jh} {l : List (List Int)} (h : MM f l) {j : Int} (h0 : 0 ≤ j) (h1 : j < f.Code.length) : l[j.toNat]? = some (Jx l j) ∧ Kc f.Slots.length (Jx l j):=by
 have hl : j.toNat < l.length:=by have:=h.1; omega
 have : l[j.toNat]? = some (Jx l j):=by simp [Jx,hl]
 exact ⟨this,h.2 _ (List.mem_of_getElem? this)⟩
theorem Kj.at {f : Jh} (_h : Kj f) {j : Int} (h0 : 0 ≤ j) (h1 : j < f.Code.length) : f.Code[j.toNat]? = some (Jq f j) ∧ Jq f j ∈ f.Code:=by
 have : f.Code[j.toNat]? = some (Jq f j):=by simp [Jq,show j.toNat < f.Code.length by omega]
 exact ⟨this,List.mem_of_getElem? this⟩
theorem Kj.AgJ {f : Jh} (h : Kj f) {x : Je} (hx : x ∈ f.Code) : ∀ v ∈ LN x,0 ≤ v ∧ v < 512:=fun v hv=>by have:=h.uses x hx v hv; have:=h.slots; omega
theorem Acd {f : Jh} (hf : Kj f) {l : List (List Int)} (hl : MM f l) {k j : Int} (_hk : 0 ≤ k ∧ k < f.Code.length) (hj : 0 ≤ j ∧ j < f.Code.length) {o : List Int} (ho : Kc f.Slots.length o) :
  Kc f.Slots.length (Lv o ((inN (Jq f j) (Jx l j)).filter fun v=>!decide (v ∈ Jx l k))) ∧ ∀ v,v ∈ Lv o ((inN (Jq f j) (Jx l j)).filter fun v=>!decide (v ∈ Jx l k)) ↔ v ∈ o ∨ (v ∈ inN (Jq f j) (Jx l j) ∧ v ∉ Jx l k):=by
 have hsl:=hf.slots
 obtain ⟨g1,g2⟩:=Ui hf (hf.at hj.1 hj.2).2 (hl.at hj.1 hj.2).2
 obtain ⟨g3,g4⟩:=QU (n:=f.Slots.length) (by omega) (b:=(inN (Jq f j) (Jx l j)).filter fun v=>!decide (v ∈ Jx l k)) ho fun x hx=>⟨(g1.1.2 x (List.mem_filter.1 hx).1).1,g1.2 x (List.mem_filter.1 hx).1⟩
 exact ⟨g3,fun v=>by rw [g4]; simp [List.mem_filter]⟩
theorem Acb {f : Jh} (hf : Kj f) {l : List (List Int)} (hl : MM f l) {k : Int} (hk : 0 ≤ k ∧ k < f.Code.length) : ∀ {js : List Int} {o : List Int},(∀ j ∈ js,0 ≤ j ∧ j < f.Code.length) → Kc f.Slots.length o →
  Kc f.Slots.length (js.foldl (fun o j=>Lv o ((inN (Jq f j) (Jx l j)).filter fun v=>!decide (v ∈ Jx l k))) o) ∧ ∀ v,v ∈ js.foldl (fun o j=>Lv o ((inN (Jq f j) (Jx l j)).filter fun v=>!decide (v ∈ Jx l k))) o ↔ v ∈ o ∨ ∃ j ∈ js,v ∈ inN (Jq f j) (Jx l j) ∧ v ∉ Jx l k
 | [],o,_,ho=>⟨ho,fun v=>by simp⟩
 | j :: js,o,hj,ho=>by
  obtain ⟨h1,h2⟩:=Acd hf hl hk (hj j (List.mem_cons_self ..)) ho
  obtain ⟨h5,h6⟩:=Acb hf hl hk (fun q hq=>hj q (List.mem_cons_of_mem _ hq)) h1
  refine ⟨h5,fun v=>?_⟩
  simp only [List.foldl_cons]
  rw [h6,h2]
  simp only [List.mem_cons,exists_eq_or_imp,or_assoc]
theorem ZA {f : Jh} (hf : Kj f) {l : List (List Int)} (hl : MM f l) {k : Nat} (hk : k < f.Code.length) : Kc f.Slots.length (RP f l k) ∧ ∀ v,v ∈ RP f l k ↔ ∃ j ∈ LC (Jq f k) k,v ∈ inN (Jq f j) (Jx l j) ∧ v ∉ Jx l k:=by
 have hx : f.Code[k]? = some (Jq f k):=by simp [Jq,hk]
 obtain ⟨h1,h2⟩:=Acb hf hl (k:=(k : Int)) ⟨by omega,by omega⟩ (hf.next k _ hx) (Kc.nil _)
 exact ⟨h1,fun v=>by unfold RP; rw [h2]; simp⟩
theorem AgA (x : Je) (k : Int) : (LC x k).length ≤ 2:=by unfold LC; (repeat' split) <;> simp
theorem AdI {f : Jh} (hf : Kj f) {l : Jp} (hl : MM f l.Out) {k : Nat} (hk : k < f.Code.length) : Ka f k l [] l k = some (true,RP f l.Out k):=by
 have hlen:=hf.len'
 have hx : f.Code[k]? = some (Jq f k):=by simp [Jq,hk]
 have hn:=hf.next k _ hx
 have h2:=AgA (Jq f k) k
 obtain ⟨hk1,hk2⟩:=hl.at (j:=(k : Int)) (by omega) (by omega)
 simp only [Int.toNat_natCast] at hk1
 unfold Ka
 rw [AfX hx (by omega),Option.bind_some]
 have:=LL (body:=fun s : List Int × Int=>JT (LC (Jq f k) k) f l l k s.1 s.2) (LC (Jq f k) k) (fun (o : List Int) i=>(o,i)) (fun o _=>Kc f.Slots.length o)
  (fun o js=>some (true,js.foldl (fun o j=>Lv o ((inN (Jq f j) (Jx l.Out j)).filter fun v=>!decide (v ∈ Jx l.Out k))) o))
  (fun o _=>⟨_,by simp [JT]; rfl,by simp⟩) (fun o i j r ho hd hi hj=>by
   left
   have wi:=JG (show i < 9223372036854775807 by omega)
   have hjm:=hn j (List.mem_of_getElem? hj)
   obtain ⟨c1,c2⟩:=hf.at hjm.1 hjm.2
   obtain ⟨o1,o2⟩:=hl.at hjm.1 hjm.2
   obtain ⟨g1,g2⟩:=Acd hf hl (k:=(k : Int)) ⟨by omega,by omega⟩ hjm ho
   obtain ⟨s1,s2⟩:=Ui hf c2 o2
   have hsl:=hf.slots
   have e1:=Ajz o2.1 (hf.AgJ c2)
   have e2:=Adk s1.1 hk2.1
   have e3:=YI ho.1 (b:=(inN (Jq f j) (Jx l.Out j)).filter fun v=>!decide (v ∈ Jx l.Out k)) (fun x hx=>by have:=s1.1.2 x (List.mem_filter.1 hx).1; exact this) (by have:=(s1.1.filter fun v=>!decide (v ∈ Jx l.Out k)).length_le; omega)
   obtain ⟨_,hje⟩:=List.getElem?_eq_some_iff.1 hj
   refine ⟨_,g1,?_,rfl⟩
   simp [JT,MW,Lh,hi,hje,Vs _ hjm.1,c1,o1,e1,hk1,e2,e3,wi]) [] (Kc.nil _)
 exact this
def Acy (f : Jh) (l : List (List Int)) (r : Int × Int × Bool) : Prop :=
 (MM f l ∧ ∃ (k : Nat) (v : Int),k < f.Code.length ∧ (∀ j : Nat,j < k → RP f l j = []) ∧ (RP f l k)[0]? = some v ∧ r = ((k : Int),v,true)) ∨
 ((MM f l → ∀ j : Nat,j < f.Code.length → RP f l j = []) ∧ r = (0,0,false))
def Acc (f : Jh) (l : List (List Int)) : Prop:=MM f l ∧ ∀ j : Nat,j < f.Code.length → RP f l j = []
theorem Acy.acc {f : Jh} {l : List (List Int)} {r : Int × Int × Bool} (h : Acy f l r) (hl : MM f l) : r.2.2 = false ↔ Acc f l:=by
 rcases h with ⟨h0,i,v,h1,h2,h3,rfl⟩ | ⟨h1,rfl⟩
 ·exact ⟨fun h=>(by cases h),fun h=>by rw [h.2 i h1] at h3; cases h3⟩
 ·exact ⟨fun _=>⟨hl,h1 hl⟩,fun _=>rfl⟩
def AaE (l : List (List Int)) : Prop:=l.length ≤ maxLen ∧ ∀ s ∈ l,s.length ≤ maxLen
theorem AfW {f : Jh} (hf : Kj f) {l : Jp} (hl : AaE l.Out) : Hs (NN f l) (Acy f l.Out):=by
 have hlen:=hf.len'
 unfold NN
 refine (AbW f l hl.1 hl.2).bind fun b hb=>.cond (fun h=>?_) fun h=>?_
 ·have hb' : ¬ b = true:=by simpa using h
  exact .pure (.inr ⟨fun hh=>(hb' (hb.2 hh)).elim,rfl⟩)
 ·have hb' : b = true:=by simpa using h
  have hok:=hb.1 hb'
  refine Hs.loop (fun i=>∃ k : Nat,i = (k : Int) ∧ k ≤ f.Code.length ∧ ∀ j : Nat,j < k → RP f l.Out j = []) (fun i=>f.Code.length - i.toNat) ⟨0,rfl,Nat.zero_le _,fun j h=>absurd h (Nat.not_lt_zero _)⟩ ?_
  rintro _ ⟨k,rfl,hk,hall⟩
  unfold Pq
  refine .dec (fun hlt=>?_) fun hge=>?_
  ·have hlt : k < f.Code.length:=by omega
   rw [show Qh l = some l from rfl,Option.bind_some,AdI hf hok hlt,Option.bind_some]
   refine .dec (fun hp=>?_) fun hp=>?_
   ·have hp : 0 < (RP f l.Out k).length:=by simp only at hp; omega
    simp only [Aga]
    have hg : (RP f l.Out k)[0]? = some ((RP f l.Out k)[0]):=List.getElem?_eq_getElem hp
    rw [hg,Option.bind_some]
    exact .lft (.pure (.inl ⟨hok,k,_,hlt,hall,hg,rfl⟩))
   ·rw [JG (by omega)]
    refine .cnt ⟨⟨k + 1,rfl,hlt,fun j hj=>?_⟩,by simp only; omega⟩
    by_cases e : j = k
    ·subst e; exact List.length_eq_zero_iff.1 (by simp only at hp; omega)
    ·exact hall j (by omega)
  ·exact .lft (.pure (.inr ⟨fun _ j hj=>hall j (by omega),rfl⟩))
theorem AcF {f : Jh} (hf : Kj f) {l : Jp} (hl : AaE l.Out) : Hs (MC f l) fun e=>(e = 0 ∨ e = 11) ∧ (e = 0 ↔ Acc f l.Out):=by
 unfold MC
 refine (AbW f l hl.1 hl.2).bind fun b hb=>.cond (fun h=>?_) fun h=>?_
 ·have hb' : ¬ b = true:=by simpa using h
  exact .pure ⟨.inr rfl,fun h=>by omega,fun h=>(hb' (hb.2 h.1)).elim⟩
 ·have hb' : b = true:=by simpa using h
  refine (AfW hf hl).bind fun r hr=>.cond (fun h=>.pure ⟨.inr rfl,fun h=>by omega,fun h'=>?_⟩) fun h=>.pure ⟨.inl rfl,fun _=>(hr.acc (hb.1 hb')).1 h,fun _=>rfl⟩
  rw [(hr.acc h'.1).2 h'] at h; cases h
theorem MM.len {f : Jh} (hf : Kj f) {l : List (List Int)} (h : MM f l) : AaE l:=by
 have hm : (100000 : Nat) ≤ maxLen:=by decide
 have:=hf.len'; have:=h.1
 exact ⟨by omega,fun s hs=>by have:=(h.2 s hs).1.length_le; omega⟩
theorem Ads {f : Jh} (hf : Kj f) {l : List (List Int)} (hl : MM f l) : Acc f l ↔ LE (MF f l) l:=by
 constructor
 ·rintro ⟨_,h⟩ k s t hs ht v hv
  have hk : k < f.Code.length:=by have:=(List.getElem?_eq_some_iff.1 ht).1; have:=hl.1; omega
  have e1 : s = Rh f l k:=by simp [MF,hk] at hs; exact hs.symm
  have e2 : t = Jx l k:=by simp [Jx,ht]
  subst e1 e2
  rw [(Ts hf hl hk).2] at hv
  obtain ⟨j,hj,hv⟩:=hv
  refine Classical.byContradiction fun hn=>?_
  have : v ∈ RP f l k:=((ZA hf hl hk).2 v).2 ⟨j,hj,hv,hn⟩
  rw [h k hk] at this; cases this
 ·intro h
  refine ⟨hl,fun k hk=>?_⟩
  refine List.eq_nil_iff_forall_not_mem.2 fun v hv=>?_
  obtain ⟨j,hj,h1,h2⟩:=((ZA hf hl hk).2 v).1 hv
  refine h2 (h k (Rh f l k) (Jx l k) (by simp [MF,hk]) ?_ v (((Ts hf hl hk).2 v).2 ⟨j,hj,h1⟩))
  have:=(hl.at (j:=(k : Int)) (by omega) (by omega)).1
  simpa using this
theorem Acc.mem {f : Jh} (hf : Kj f) {l : List (List Int)} (h : Acc f l) {k : Nat} (hk : k < f.Code.length) {j v : Int} (hj : j ∈ LC (Jq f k) k) (hv : v ∈ inN (Jq f j) (Jx l j)) : v ∈ Jx l k:=by
 refine Classical.byContradiction fun hn=>?_
 have : v ∈ RP f l k:=((ZA hf h.1 hk).2 v).2 ⟨j,hj,hv,hn⟩
 rw [h.2 k hk] at this; cases this
theorem AbG.acc {f : Jh} (hf : Kj f) {l : List (List Int)} (h : AbG f l) : Acc f l:=by
 rw [Ads hf h.ok,h.fix]
 intro k s t hs ht v hv
 rw [hs] at ht; cases ht; exact hv
end Go.Proofs.YtfpgidpffhmadaaDoor
namespace Go.Proofs.YtfpgidpffhmadaaDoor
open Go Go.Dw Go.Proofs
def I64 (v : Int) : Prop:=-9223372036854775808 ≤ v ∧ v ≤ 9223372036854775807
theorem Agt (n : Int) : I64 (IntKind.i64.wrap n):=by
 unfold I64; simp [IntKind.wrap,IntKind.signed,IntKind.bits]; omega
theorem Aej {c : Jd} (h : okC c) : Hs (MZ c) fun p=>okC p.2 ∧ I64 p.1:=by
 unfold MZ
 refine (JD h (by omega) (by omega)).bind fun r hr=>.beq (fun _=>?_) fun _=>?_
 ·refine (JD hr.1 (by simp) (by simp)).bind fun q hq=>.chk ?_ ?_
  ·simp at hq; simp; omega
  ·refine (Hs.get hq.2.1 (by simpa using hq.2.2) fun x hx=>List.mem_of_getElem? hx).bind fun x hx=>.pure ⟨hq.1,?_⟩
   simp at hx
   unfold I64
   simp only
   omega
 ·exact (JD hr.1 (by omega) (by omega)).bind fun q hq=>(JD hq.1 (by omega) (by omega)).bind fun u hu=>.chk hu.2.1 (.pure ⟨hu.1,Agt _⟩)
def XD (l : List (List Int)) : Prop:=∀ s ∈ l,s.length ≤ 512 ∧ ∀ v ∈ s,I64 v
def RT (l : List (List Int)) : Prop:=∀ s ∈ l,JR s
theorem RT.rows {l : List (List Int)} (h : RT l) : XD l:=fun s hs=>⟨(h s hs).length_le,fun v hv=>by have:=(h s hs).2 v hv; unfold I64; omega⟩
theorem RT.set {l : List (List Int)} (h : RT l) {k : Nat} {s : List Int} (hs : JR s) : RT (l.set k s):=by
 intro t ht
 rcases List.mem_or_eq_of_mem_set ht with h1 | rfl
 ·exact h t h1
 ·exact hs
theorem JR.add {s : List Int} (h : JR s) (n : Int) : JR (NU n s):=by
 unfold NU
 split
 ·exact h.OU (by assumption)
 ·exact h
theorem Agw {c : Jd} (h : okC c) {f : Jh} (hf : Kj f) : Hs (NG c f) fun p=>okC p.2 ∧ p.1.Out.length ≤ f.Code.length ∧ XD p.1.Out:=by
 have hlen:=hf.len
 have hlen':=hf.len'
 have hsl:=hf.slots
 unfold NG
 refine (Abp hf).bind fun l hl=>(JD h (by omega) (by omega)).bind fun r hr=>.beq (fun _=>?_) fun _=>?_
 ·exact .pure ⟨hr.1,by have:=hl.ok.1; simp only; omega,RT.rows fun s hs=>(hl.ok.2 s hs).1⟩
 ·refine .chk (by have:=hl.ok.1; simp; omega) ((JD hr.1 (by omega) (by omega)).bind fun q hq=>?_)
  have j1 : ∀ {l : List Int} {a : Int} {x : List (List Int)},okC ⟨l,a⟩ → x.length = f.Code.length → RT x → Hs (Me l a x) fun p=>okC p.2 ∧ p.1.Out.length ≤ f.Code.length ∧ XD p.1.Out:=by
   intro l a x hc hx hs
   unfold Me
   refine (JD hc (by omega) (by omega)).bind fun r hr=>.beq (fun _=>?_) fun _=>.beq (fun _=>?_) fun _=>?_
   ·refine .chk (by omega) (.pure ⟨hr.1,by simp; omega,fun s hm=>hs.rows s (List.mem_of_mem_drop hm)⟩)
   ·refine (Aej hr.1).bind fun u hu=>(Aej hu.1).bind fun v hv=>.chk (by omega) ((Hs.get (by omega) (by omega) fun x hx=>hx).bind fun _ _=>.pure ⟨hv.1,by simp; omega,fun s hm=>?_⟩)
    rcases List.mem_or_eq_of_mem_set hm with h1 | rfl
    ·exact hs.rows s h1
    ·refine ⟨by simp,fun w hw=>?_⟩
     simp at hw
     rcases hw with rfl | rfl
     ·exact hu.2
     ·exact hv.2
   ·exact .pure ⟨hr.1,by simp only; omega,hs.rows⟩
  refine Hs.loop (fun s=>okC ⟨s.1,s.2.1⟩ ∧ s.2.2.1.length = f.Code.length ∧ RT s.2.2.1 ∧ 0 ≤ s.2.2.2 ∧ s.2.2.2 < 4) (fun s=>s.2.2.2.toNat) ⟨hq.1,by simpa using hl.ok.1,fun s hs=>(hl.ok.2 s (by simpa using hs)).1,hq.2⟩ ?_
  rintro ⟨l,a,x,n⟩ ⟨hc,hx,hs,hn0,hn1⟩
  simp only at hc hx hs hn0 hn1
  have w : IntKind.i64.wrap (n - 1) = n - 1:=wrap64 (by omega) (by omega)
  unfold Ph
  refine .dec (fun hlt=>.dec (fun hsl0=>?_) fun _=>.lft (j1 hc hx hs)) fun _=>.lft (j1 hc hx hs)
  have hlt : 0 < n:=hlt
  unfold Pk
  have j4 : ∀ {l : List Int} {a : Int} {y : List (List Int)},okC ⟨l,a⟩ → y.length = f.Code.length → RT y → Hs (Lq n l a y) (Rnd (fun s : List Int × Int × List (List Int) × Int=>okC ⟨s.1,s.2.1⟩ ∧ s.2.2.1.length = f.Code.length ∧ RT s.2.2.1 ∧ 0 ≤ s.2.2.2 ∧ s.2.2.2 < 4) (fun s=>s.2.2.2.toNat) (‹List Int›,‹Int›,x,n) (fun p : Jp × Jd=>okC p.2 ∧ p.1.Out.length ≤ f.Code.length ∧ XD p.1.Out)):=by
   intro l a y hc hy hs
   unfold Lq
   exact .cnt ⟨⟨hc,hy,hs,by simp only [w]; omega,by simp only [w]; omega⟩,by simp only [w]; omega⟩
  refine (JD hc (by omega) (by omega)).bind fun u hu=>(JD hu.1 (by omega) (by omega)).bind fun v hv=>.beq (fun _=>?_) fun _=>?_
  ·refine Hs.loop (fun s=>s.1.length = f.Code.length ∧ RT s.1 ∧ 0 ≤ s.2 ∧ s.2 ≤ f.Code.length) (fun s=>f.Code.length - s.2.toNat) ⟨hx,hs,by simp,by simp⟩ ?_
   rintro ⟨y,k⟩ ⟨hy,hys,hk0,hk1⟩
   simp only at hy hys hk0 hk1
   unfold Pj
   refine .dec (fun hk=>?_) fun _=>.lft (j4 hv.1 hy hys)
   have hk : k < y.length:=hk
   have wk : IntKind.i64.wrap (k + 1) = k + 1:=wrap64 (by omega) (by omega)
   refine .chk ⟨hk0,hk⟩ ((Hs.get hk0 hk fun z hz=>hys z (List.mem_of_getElem? hz)).bind fun z hz=>?_)
   rw [add_eq z u.1 (by have:=hz.length_le; omega),Option.bind_some]
   refine .chk ⟨hk0,hk⟩ ((Hs.get hk0 hk fun z hz=>hz).bind fun _ _=>.cnt ⟨⟨by simpa using hy,hys.set (hz.add _),by simp only [wk]; omega,by simp only [wk]; omega⟩,by simp only [wk]; omega⟩)
  ·refine (JD hv.1 (n:=(x.length : Int)) (by omega) (by omega)).bind fun k hk=>(JD hk.1 (by omega) (by omega)).bind fun t ht=>.beq (fun _=>?_) fun _=>?_
   ·refine .chk hk.2 ((Hs.get hk.2.1 hk.2.2 fun z hz=>hs z (List.mem_of_getElem? hz)).bind fun z hz=>?_)
    rw [add_eq z u.1 (by have:=hz.length_le; omega),Option.bind_some]
    exact .chk hk.2 ((Hs.get hk.2.1 hk.2.2 fun z hz=>hz).bind fun _ _=>j4 ht.1 (by simpa using hx) (hs.set (hz.add _)))
   ·refine .chk hk.2 ((Hs.get hk.2.1 hk.2.2 fun z hz=>hs z (List.mem_of_getElem? hz)).bind fun z hz=>?_)
    rw [Ace z u.1 (by have:=hz.length_le; omega),Option.bind_some]
    exact .chk hk.2 ((Hs.get hk.2.1 hk.2.2 fun z hz=>hz).bind fun _ _=>j4 ht.1 (by simpa using hx) (hs.set (hz.filter _)))
end Go.Proofs.YtfpgidpffhmadaaDoor
namespace Go.Proofs.YtfpgidpffhmadaaDoor
open Go Go.Dw Go.Proofs
theorem XD.len {f : Jh} (hf : Kj f) {l : List (List Int)} (h1 : l.length ≤ f.Code.length) (h2 : XD l) : AaE l:=by
 have hm : (100000 : Nat) ≤ maxLen:=by decide
 have:=hf.len'
 exact ⟨by omega,fun s hs=>by have:=(h2 s hs).1; omega⟩
theorem AgO {f : Jh} (hf : Kj f) {l : List (List Int)} (hl : MM f l) (h : ∀ k : Nat,k < f.Code.length → ∀ j ∈ LC (Jq f k) k,∀ v ∈ inN (Jq f j) (Jx l j),v ∈ Jx l k) : Acc f l:=by
 refine ⟨hl,fun k hk=>List.eq_nil_iff_forall_not_mem.2 fun v hv=>?_⟩
 obtain ⟨j,hj,h1,h2⟩:=((ZA hf hl hk).2 v).1 hv
 exact h2 (h k hk j hj v h1)
theorem Agz {f : Jh} (hf : Kj f) {k : Nat} (hk : k < f.Code.length) {j : Int} (hj : j ∈ LC (Jq f k) k) : 0 ≤ j ∧ j < f.Code.length :=
 hf.next k _ (by simp [Jq,hk]) j hj
theorem Aem {l : List (List Int)} {g : List Int → List Int} {j : Int} (h1 : j.toNat < l.length) : Jx (l.map g) j = g (Jx l j):=by
 simp [Jx,h1]
theorem Agq {f : Jh} (hf : Kj f) {l : List (List Int)} (h : Acc f l) {u : Int} (hu : 0 ≤ u ∧ u < f.Slots.length) : Acc f (l.map (NU u)):=by
 have hsl:=hf.slots
 have hl : MM f (l.map (NU u)):=by
  refine ⟨by simpa using h.1.1,fun s hs=>?_⟩
  obtain ⟨t,ht,rfl⟩:=List.mem_map.1 hs
  exact (Kc.add (h.1.2 t ht) hu (by omega)).1
 have mem : ∀ s,Kc f.Slots.length s → ∀ v,v ∈ NU u s ↔ v = u ∨ v ∈ s:=fun s hs=>(Kc.AgP (n:=f.Slots.length) hs hu (by omega)).2.2
 refine AgO hf hl fun k hk j hj v hv=>?_
 have hjm:=Agz hf hk hj
 have hll:=h.1.1
 obtain ⟨o1,o2⟩:=h.1.at hjm.1 hjm.2
 obtain ⟨q1,q2⟩:=h.1.at (j:=(k : Int)) (by omega) (by omega)
 obtain ⟨p1,p2⟩:=hl.at hjm.1 hjm.2
 rw [Aem (by omega)] at hv p2 ⊢
 rw [(Ui hf (hf.at hjm.1 hjm.2).2 p2).2,mem _ o2] at hv
 rw [mem _ q2]
 by_cases e : v = u
 ·exact .inl e
 ·refine .inr (h.mem hf hk hj ?_)
  rw [(Ui hf (hf.at hjm.1 hjm.2).2 o2).2]
  rcases hv with ⟨h1,h2⟩ | h1
  ·rcases h1 with h1 | h1
   ·exact (e h1).elim
   ·exact .inl ⟨h1,h2⟩
  ·exact .inr h1
def Ty (u : Int) (l : List (List Int)) (k : Nat) : List (List Int):=(l.take k).map (NU u) ++ l.drop k
theorem AdG (u : Int) (l : List (List Int)) : Ty u l 0 = l:=by simp [Ty]
theorem AdR (u : Int) (l : List (List Int)) : Ty u l l.length = l.map (NU u):=by simp [Ty]
theorem Acz (u : Int) (l : List (List Int)) {k : Nat} (hk : k ≤ l.length) : (Ty u l k).length = l.length:=by simp [Ty]; omega
theorem AdS {u : Int} {l : List (List Int)} {k : Nat} (hk : k < l.length) : (Ty u l k)[k]? = some l[k]:=by
 unfold Ty
 rw [List.getElem?_append_right (by simp; omega)]
 simp [show min k l.length = k by omega,hk]
theorem AdT {u : Int} {l : List (List Int)} {k : Nat} (hk : k < l.length) : (Ty u l k).set k (NU u l[k]) = Ty u l (k + 1):=by
 unfold Ty
 rw [List.set_append_right _ _ (by simp; omega)]
 have e1 : k - ((l.take k).map (NU u)).length = 0:=by simp; omega
 rw [e1,List.drop_eq_getElem_cons hk,List.set_cons_zero,List.take_succ_eq_append_getElem hk,List.map_append,List.append_assoc]
 rfl
end Go.Proofs.YtfpgidpffhmadaaDoor
namespace Go.Proofs.YtfpgidpffhmadaaDoor
open Go Go.Dw Go.Proofs
def Acu (f : Jh) : Prop:=∀ x ∈ f.Code,(x.Op = 16 ∨ x.Op = 17) → 0 ≤ x.A ∧ x.A < f.Slots.length
theorem RS.defs {ps : List Int} {i most : Int} {f : Jh} (h : RS ps i most f) : Acu f:=by
 intro x hx hop
 obtain ⟨k,hk⟩:=List.getElem?_of_mem hx
 have hkl:=(List.getElem?_eq_some_iff.1 hk).1
 by_cases hk1 : k + 1 < f.Code.length
 ·have hins:=h.body k x hk hk1
  cases hins with
  | store a b h0 h1 h2=>exact ⟨h0,h1⟩
  | move a b h0 h1 h2=>exact ⟨h0.1,h0.2.1⟩
  | bin op a b c h1 h2 h3 h4 h5 h6=>simp only at hop; omega
  | un op a h1 h2=>simp only at hop; omega
  | _=>simp at hop
 ·have he:=h.last x (by rw [show f.Code.length - 1 = k by omega]; exact hk)
  rcases he with rfl | ⟨w,_,rfl⟩ <;> simp at hop
def MJ (x : Je) (v : Int) : Bool:=x.Op == 17 && x.B == v
def Mc (_ : Je) (_ : Int) : Bool:=false
def Acx (mv : Je → Int → Bool) (f : Jh) (l : List (List Int)) (k : Nat) (a v : Int) : Prop :=
 a = (Jq f k).A ∧ ((Jq f k).Op = 16 ∨ (Jq f k).Op = 17) ∧ ¬ ((Jq f k).Op = 17 ∧ (Jq f k).A = (Jq f k).B) ∧ v ∈ Jx l k ∧ v ≠ a ∧ mv (Jq f k) v = false
def SO (mv : Je → Int → Bool) (f : Jh) (l : List (List Int)) (k : Nat) (a v : Int) : Prop:=∃ j < k,Acx mv f l j a v
def Ed (mv : Je → Int → Bool) (f : Jh) (l : List (List Int)) (a v : Int) : Prop:=SO mv f l f.Code.length a v
def Vi (mv : Je → Int → Bool) (f : Jh) (l : List (List Int)) (k i : Nat) (a v : Int) : Prop :=
 SO mv f l k a v ∨ (a = (Jq f k).A ∧ v ∈ (Jx l k).take i ∧ v ≠ a ∧ mv (Jq f k) v = false)
theorem AbU {mv : Je → Int → Bool} {f : Jh} {l : List (List Int)} {k : Nat} {a v : Int} : SO mv f l (k + 1) a v ↔ SO mv f l k a v ∨ Acx mv f l k a v:=by
 constructor
 ·rintro ⟨j,hj,h⟩
  by_cases e : j = k
  ·subst e; exact .inr h
  ·exact .inl ⟨j,by omega,h⟩
 ·rintro (⟨j,hj,h⟩ | h)
  ·exact ⟨j,by omega,h⟩
  ·exact ⟨k,by omega,h⟩
theorem AbT {mv : Je → Int → Bool} {f : Jh} {l : List (List Int)} {k : Nat} {a v : Int} : Vi mv f l k 0 a v ↔ SO mv f l k a v:=by simp [Vi]
theorem AcL {mv : Je → Int → Bool} {f : Jh} {l : List (List Int)} {k : Nat} {a v : Int} (h1 : (Jq f k).Op = 16 ∨ (Jq f k).Op = 17) (h2 : ¬ ((Jq f k).Op = 17 ∧ (Jq f k).A = (Jq f k).B)) :
  Vi mv f l k (Jx l k).length a v ↔ SO mv f l (k + 1) a v:=by
 rw [AbU]
 simp only [Vi,List.take_length,Acx]
 constructor
 ·rintro (h | ⟨h3,h4,h5,h6⟩)
  ·exact .inl h
  ·exact .inr ⟨h3,h1,h2,h4,h5,h6⟩
 ·rintro (h | ⟨h3,_,_,h4,h5,h6⟩)
  ·exact .inl h
  ·exact .inr ⟨h3,h4,h5,h6⟩
theorem Aag {mv : Je → Int → Bool} {f : Jh} {l : List (List Int)} {k i : Nat} {x a v : Int} (hx : (Jx l k)[i]? = some x) :
  Vi mv f l k (i + 1) a v ↔ Vi mv f l k i a v ∨ (a = (Jq f k).A ∧ v = x ∧ x ≠ a ∧ mv (Jq f k) x = false):=by
 have ht : (Jx l k).take (i + 1) = (Jx l k).take i ++ [x]:=by rw [List.take_add_one,hx]; rfl
 simp only [Vi,ht,List.mem_append,List.mem_singleton]
 constructor
 ·rintro (h | ⟨h1,h2 | rfl,h3,h4⟩)
  ·exact .inl (.inl h)
  ·exact .inl (.inr ⟨h1,h2,h3,h4⟩)
  ·exact .inr ⟨h1,rfl,h3,h4⟩
 ·rintro ((h | ⟨h1,h2,h3,h4⟩) | ⟨h1,rfl,h3,h4⟩)
  ·exact .inl h
  ·exact .inr ⟨h1,.inl h2,h3,h4⟩
  ·exact .inr ⟨h1,.inr rfl,h3,h4⟩
theorem YA {mv : Je → Int → Bool} {f : Jh} {l : List (List Int)} {k : Nat} {a v : Int} (h : ((Jq f k).Op ≠ 16 ∧ (Jq f k).Op ≠ 17) ∨ ((Jq f k).Op = 17 ∧ (Jq f k).A = (Jq f k).B)) :
  SO mv f l (k + 1) a v ↔ SO mv f l k a v:=by
 rw [AbU]
 constructor
 ·rintro (h1 | ⟨_,h2,h3,_⟩)
  ·exact h1
  ·rcases h with ⟨h4,h5⟩ | h4
   ·omega
   ·exact (h3 h4).elim
 ·exact .inl
theorem AbS {mv : Je → Int → Bool} {f : Jh} {l : List (List Int)} {k i : Nat} {x a v : Int} (hx : (Jx l k)[i]? = some x) (h : x = (Jq f k).A ∨ mv (Jq f k) x = true) :
  Vi mv f l k (i + 1) a v ↔ Vi mv f l k i a v:=by
 rw [Aag hx]
 constructor
 ·rintro (h1 | ⟨h1,h2,h3,h4⟩)
  ·exact h1
  ·rcases h with h | h
   ·exact (h3 (by rw [h,h1])).elim
   ·rw [h] at h4; cases h4
 ·exact .inl
def SA (m : List (List Bool)) (a v : Nat) : Bool:=(((m[a]?).getD [])[v]?).getD false
def Lx (n : Nat) (m : List (List Bool)) (P : Int → Int → Prop) : Prop :=
 m.length = n ∧ (∀ row ∈ m,row.length = n) ∧ ∀ a v : Nat,a < n → v < n → (SA m a v = true ↔ P a v ∨ P v a)
theorem Lx.congr {n : Nat} {m : List (List Bool)} {P Q : Int → Int → Prop} (h : Lx n m P) (hq : ∀ a v,Q a v ↔ P a v) : Lx n m Q :=
 ⟨h.1,h.2.1,fun a v ha hv=>by rw [h.2.2 a v ha hv,hq,hq]⟩
theorem AbR {n : Nat} {m : List (List Bool)} (hl : m.length = n) {d : Nat} (hd : d < n) (r : List Bool) (a v : Nat) : SA (m.set d r) a v = if a = d then (r[v]?).getD false else SA m a v:=by
 unfold SA
 by_cases e : a = d
 ·subst e
  rw [if_pos rfl,List.getElem?_set_self (by omega)]; rfl
 ·rw [if_neg e,List.getElem?_set_ne (fun h=>e h.symm)]
theorem AcP {n : Nat} {r : List Bool} (hl : r.length = n) {v : Nat} (hv : v < n) (b : Nat) : ((r.set v true)[b]?).getD false = if b = v then true else (r[b]?).getD false:=by
 by_cases e : b = v
 ·subst e; rw [if_pos rfl,List.getElem?_set_self (by omega)]; rfl
 ·rw [if_neg e,List.getElem?_set_ne (fun h=>e h.symm)]
theorem Lx.set {n : Nat} {m : List (List Bool)} {P : Int → Int → Prop} (h : Lx n m P) {d v : Nat} {r1 r2 : List Bool} (hd : d < n) (hv : v < n) (hne : d ≠ v) (h1 : m[d]? = some r1) (h2 : m[v]? = some r2) :
  Lx n ((m.set d (r1.set v true)).set v (r2.set d true)) (fun a b=>P a b ∨ (a = d ∧ b = v)):=by
 obtain ⟨hl,hr,hc⟩:=h
 have l1:=hr _ (List.mem_of_getElem? h1)
 have l2:=hr _ (List.mem_of_getElem? h2)
 refine ⟨by simp [hl],fun row hrow=>?_,fun a b ha hb=>?_⟩
 ·rcases List.mem_or_eq_of_mem_set hrow with h | rfl
  ·rcases List.mem_or_eq_of_mem_set h with h | rfl
   ·exact hr _ h
   ·simp [l1]
  ·simp [l2]
 ·rw [AbR (n:=n) (by simp [hl]) hv,AbR hl hd,AcP l2 hd,AcP l1 hv]
  have e1 : (r1[b]?).getD false = SA m d b:=by simp [SA,h1]
  have e2 : (r2[b]?).getD false = SA m v b:=by simp [SA,h2]
  rw [e1,e2]
  have hab:=hc a b ha hb
  by_cases ea : a = v
  ·subst ea
   rw [if_pos rfl]
   by_cases eb : b = d
   ·subst eb; rw [if_pos rfl]; simp
   ·rw [if_neg eb,hab]
    constructor
    ·rintro (h | h)
     ·exact .inl (.inl h)
     ·exact .inr (.inl h)
    ·rintro ((h | ⟨h,_⟩) | (h | ⟨h,_⟩))
     ·exact .inl h
     ·omega
     ·exact .inr h
     ·omega
  ·rw [if_neg ea]
   by_cases ed : a = d
   ·subst ed
    rw [if_pos rfl]
    by_cases eb : b = v
    ·subst eb; rw [if_pos rfl]; simp
    ·rw [if_neg eb,hab]
     constructor
     ·rintro (h | h)
      ·exact .inl (.inl h)
      ·exact .inr (.inl h)
     ·rintro ((h | ⟨_,h⟩) | (h | ⟨h,_⟩))
      ·exact .inl h
      ·omega
      ·exact .inr h
      ·omega
   ·rw [if_neg ed,hab]
    constructor
    ·rintro (h | h)
     ·exact .inl (.inl h)
     ·exact .inr (.inl h)
    ·rintro ((h | ⟨h,_⟩) | (h | ⟨_,h⟩))
     ·exact .inl h
     ·omega
     ·exact .inr h
     ·omega
def La (n : Nat) (out : List (List Int)) (Q : Nat → Int → Prop) : Prop:=out.length = n ∧ ∀ (a : Nat) s,out[a]? = some s → Kc n s ∧ ∀ v,v ∈ s ↔ Q a v
theorem La.congr {n : Nat} {out : List (List Int)} {P Q : Nat → Int → Prop} (h : La n out P) (hq : ∀ a v,a < n → (Q a v ↔ P a v)) : La n out Q :=
 ⟨h.1,fun a s hs=>⟨(h.2 a s hs).1,fun v=>by rw [(h.2 a s hs).2 v,hq a v (by have:=(List.getElem?_eq_some_iff.1 hs).1; have:=h.1; omega)]⟩⟩
theorem La.ext {n : Nat} {o1 o2 : List (List Int)} {Q : Nat → Int → Prop} (h1 : La n o1 Q) (h2 : La n o2 Q) : o1 = o2:=by
 apply List.ext_getElem?
 intro a
 by_cases ha : a < n
 ·have e1 : o1[a]? = some (o1[a]'(by have:=h1.1; omega)):=List.getElem?_eq_getElem _
  have e2 : o2[a]? = some (o2[a]'(by have:=h2.1; omega)):=List.getElem?_eq_getElem _
  rw [e1,e2,(h1.2 a _ e1).1.1.ext (h2.2 a _ e2).1.1 fun v=>by rw [(h1.2 a _ e1).2 v,(h2.2 a _ e2).2 v]]
 ·rw [List.getElem?_eq_none (by have:=h1.1; omega),List.getElem?_eq_none (by have:=h2.1; omega)]
theorem La.nil (n : Nat) {Q : Nat → Int → Prop} (hq : ∀ a v,¬ Q a v) : La n (List.replicate n []) Q :=
 ⟨by simp,fun a s hs=>by
  rw [List.getElem?_replicate] at hs
  split at hs
  ·cases hs; exact ⟨Kc.nil _,fun v=>⟨fun h=>(by cases h),fun h=>(hq a v h).elim⟩⟩
  ·cases hs⟩
theorem La.set {n : Nat} {out : List (List Int)} {P Q : Nat → Int → Prop} (h : La n out P) {d : Nat} {s : List Int} (hd : d < n) (hs : Kc n s) (h1 : ∀ v,v ∈ s ↔ Q d v) (h2 : ∀ a v,a ≠ d → (Q a v ↔ P a v)) : La n (out.set d s) Q:=by
 refine ⟨by simp [h.1],fun a t ht=>?_⟩
 by_cases e : a = d
 ·subst e
  rw [List.getElem?_set_self (by have:=h.1; omega)] at ht
  cases ht
  exact ⟨hs,h1⟩
 ·rw [List.getElem?_set_ne (fun h=>e h.symm)] at ht
  exact ⟨(h.2 a t ht).1,fun v=>by rw [(h.2 a t ht).2 v,h2 a v e]⟩
def Tm (mv : Je → Int → Bool) (f : Jh) (l : List (List Int)) (r : List (List Int) × Int) : Prop :=
 (r.2 = 0 ∧ Acc f l ∧ La f.Slots.length r.1 fun a v=>Ed mv f l a v ∨ Ed mv f l v a) ∨ (r.2 = 11 ∧ ¬ Acc f l ∧ r.1 = [])
end Go.Proofs.YtfpgidpffhmadaaDoor
namespace Go.Proofs.YtfpgidpffhmadaaDoor
open Go Go.Dw Go.Proofs
end Go.Proofs.YtfpgidpffhmadaaDoor
namespace Go.Proofs.YtfpgidpffhmadaaDoor
open Go Go.Dw Go.Proofs
theorem AdL (x : Je) (v : Int) : MH x v = some (MJ x v):=by
 unfold MH MJ
 cases (x.Op == 17) <;> simp
theorem Adq (x : Je) (v : Int) : Nu x v = some (Mc x v):=rfl
def AdH (n : Nat) (m : List (List Bool)) (a : Nat) (v : Int) : Prop:=0 ≤ v ∧ v < n ∧ SA m a v.toNat = true
theorem AcV {n : Nat} {m : List (List Bool)} (hl : m.length = n) (hr : ∀ row ∈ m,row.length = n) (hn : n ≤ 500) : Hs (KJ m) fun out=>La n out (AdH n m):=by
 unfold KJ
 refine .chk (by omega) ?_
 refine Hs.loop (fun s=>∃ k : Nat,s.2 = (k : Int) ∧ k ≤ n ∧ La n s.1 fun a v=>a < k ∧ AdH n m a v) (fun s=>n - s.2.toNat) ⟨0,rfl,Nat.zero_le _,?_⟩ ?_
 ·rw [Int.toNat_natCast,hl]
  exact La.nil _ fun a v h=>absurd h.1 (Nat.not_lt_zero _)
 rintro ⟨out,_⟩ ⟨k,rfl,hk,hs⟩
 replace hs : La n out _:=hs
 unfold MA
 refine .dec (fun hlt=>?_) fun hge=>.lft (.pure (hs.congr fun a v ha=>⟨fun h=>⟨by simp only at hge; omega,h⟩,fun h=>h.2⟩))
 have hlt : k < n:=by simp only at hlt; omega
 have hg : m[k]? = some (m[k]'(by omega)):=List.getElem?_eq_getElem _
 have hrl:=hr _ (List.getElem_mem (show k < m.length by omega))
 generalize m[k]'(by omega) = row at hg hrl
 simp only [Pa,hg,Option.bind_some]
 refine Hs.loop (fun s=>∃ i : Nat,s.2 = (i : Int) ∧ i ≤ n ∧ La n s.1 fun a v=>(a < k ∨ (a = k ∧ v < i)) ∧ AdH n m a v) (fun s=>n - s.2.toNat) ⟨0,rfl,Nat.zero_le _,hs.congr fun a v _=>?_⟩ ?_
 ·constructor
  ·rintro ⟨h | ⟨_,h⟩,hc⟩
   ·exact ⟨h,hc⟩
   ·have:=hc.1; omega
  ·exact fun h=>⟨.inl h.1,h.2⟩
 rintro ⟨out2,_⟩ ⟨i,rfl,hi,hs2⟩
 replace hs2 : La n out2 _:=hs2
 unfold MB
 refine .dec (fun hlt2=>?_) fun hge2=>?_
 ·have hlt2 : i < n:=by simp only at hlt2; omega
  have hb : row[i]? = some (row[i]'(by omega)):=List.getElem?_eq_getElem _
  generalize row[i]'(by omega) = bit at hb
  have hcell : SA m k i = bit:=by simp [SA,hg,hb]
  have w:=JG (show i < 9223372036854775807 by omega)
  simp only [Pa,hb,Option.bind_some]
  refine .cond (fun ht=>?_) fun hf=>?_
  ·have hs0 : out2[k]? = some (out2[k]'(by have:=hs2.1; omega)):=List.getElem?_eq_getElem _
   generalize out2[k]'(by have:=hs2.1; omega) = s at hs0
   have q:=hs2.2 k s hs0
   have hsl:=q.1.1.length_le
   have hol:=hs2.1
   refine .chk (by omega) ?_
   rw [Int.toNat_natCast,hs0,Option.bind_some]
   refine .chk (by simp only [List.length_singleton]; omega) (.chk (by omega) ?_)
   rw [w]
   refine .cnt ⟨⟨i + 1,rfl,hlt2,?_⟩,by simp only; omega⟩
   have hlt' : ∀ x ∈ s,x < (i : Int):=fun x hx=>by
    rcases ((q.2 x).1 hx).1 with h | ⟨_,h⟩
    ·omega
    ·exact h
   refine hs2.set hlt ⟨q.1.1.snoc (by omega) hlt',fun x hx=>?_⟩ (fun v=>?_) fun a v ha=>?_
   ·rcases List.mem_append.1 hx with h | h
    ·exact q.1.2 x h
    ·rw [List.mem_singleton] at h; omega
   ·rw [List.mem_append,List.mem_singleton,q.2 v]
    constructor
    ·rintro (⟨h | ⟨_,h⟩,hc⟩ | rfl)
     ·omega
     ·exact ⟨.inr ⟨rfl,by omega⟩,hc⟩
     ·exact ⟨.inr ⟨rfl,by omega⟩,by omega,by omega,by rw [Int.toNat_natCast,hcell,ht]⟩
    ·rintro ⟨h | ⟨_,h⟩,hc⟩
     ·omega
     ·by_cases e : v = i
      ·exact .inr e
      ·exact .inl ⟨.inr ⟨rfl,by omega⟩,hc⟩
   ·constructor
    ·rintro ⟨h | ⟨h,_⟩,hc⟩
     ·exact ⟨.inl h,hc⟩
     ·exact (ha h).elim
    ·rintro ⟨h | ⟨h,_⟩,hc⟩
     ·exact ⟨.inl h,hc⟩
     ·exact (ha h).elim
  ·rw [w]
   refine .cnt ⟨⟨i + 1,rfl,hlt2,hs2.congr fun a v _=>?_⟩,by simp only; omega⟩
   constructor
   ·rintro ⟨h | ⟨h,h2⟩,hc⟩
    ·exact ⟨.inl h,hc⟩
    ·refine ⟨.inr ⟨h,?_⟩,hc⟩
     have h3 : v ≠ i:=fun e=>by
      have:=hc.2.2
      rw [h,e,Int.toNat_natCast,hcell,hf] at this
      cases this
     omega
   ·rintro ⟨h | ⟨h,h2⟩,hc⟩
    ·exact ⟨.inl h,hc⟩
    ·exact ⟨.inr ⟨h,by omega⟩,hc⟩
 ·rw [JG (by omega)]
  refine .lft (.cnt ⟨⟨k + 1,rfl,hlt,hs2.congr fun a v _=>?_⟩,by simp only; omega⟩)
  constructor
  ·rintro ⟨h,hc⟩
   refine ⟨?_,hc⟩
   by_cases e : a = k
   ·exact .inr ⟨e,by have:=hc.2.1; simp only at hge2; omega⟩
   ·exact .inl (by omega)
  ·rintro ⟨h | ⟨h,_⟩,hc⟩
   ·exact ⟨by omega,hc⟩
   ·exact ⟨by omega,hc⟩
theorem Abv {mv : Je → Int → Bool} {f : Jh} (hf : Kj f) (hd : Acu f) {l : List (List Int)} (hl : MM f l) {a v : Int} (h : Ed mv f l a v) : (0 ≤ a ∧ a < f.Slots.length) ∧ (0 ≤ v ∧ v < f.Slots.length):=by
 obtain ⟨j,hj,rfl,h2,_,h4,_⟩:=h
 have hx:=hf.at (j:=(j : Int)) (by omega) (by omega)
 have hrow:=hl.at (j:=(j : Int)) (by omega) (by omega)
 rw [Int.toNat_natCast] at hrow
 exact ⟨hd _ hx.2 h2,(hrow.2.1.2 v h4).1,hrow.2.2 v h4⟩
theorem AcU {n : Nat} {m : List (List Bool)} {P : Int → Int → Prop} (hl : m.length = n) (h : ∀ (j : Nat) row,m[j]? = some row → row = List.replicate n false) (hp : ∀ a v,¬ P a v) : Lx n m P:=by
 refine ⟨hl,fun row hr=>?_,fun a v ha hv=>?_⟩
 ·obtain ⟨j,hj⟩:=List.getElem?_of_mem hr
  rw [h j row hj,List.length_replicate]
 ·have e : m[a]? = some (m[a]'(by omega)):=List.getElem?_eq_getElem _
  have:=h a _ e
  have hc : SA m a v = false:=by unfold SA; rw [e,this]; simp [hv]
  rw [hc]
  exact ⟨fun h=>(by cases h),fun h=>by rcases h with h | h <;> exact (hp _ _ h).elim⟩
end Go.Proofs.YtfpgidpffhmadaaDoor
namespace Go.Proofs.YtfpgidpffhmadaaDoor
open Go Go.Dw Go.Proofs
theorem Aec {n : Nat} {m : List (List Bool)} {P : Int → Int → Prop} (hm : Lx n m P) {d y : Nat} (hd : d < n) (hy : y < n) (hne : d ≠ y) (t : Bool) {i : Nat} (hi : i < 1000000) :
  ∃ m',JZ m ((d : Int),t) (y : Int) (i : Int) true = some (.inl (m',((i + 1 : Nat) : Int))) ∧ Lx n m' fun a b=>P a b ∨ (a = d ∧ b = y):=by
 have e1 : m[d]? = some (m[d]'(by have:=hm.1; omega)):=List.getElem?_eq_getElem _
 have e2 : m[y]? = some (m[y]'(by have:=hm.1; omega)):=List.getElem?_eq_getElem _
 generalize m[d]'(by have:=hm.1; omega) = r1 at e1
 generalize m[y]'(by have:=hm.1; omega) = r2 at e2
 have l1:=hm.2.1 _ (List.mem_of_getElem? e1)
 have l2:=hm.2.1 _ (List.mem_of_getElem? e2)
 have hl:=hm.1
 have g1 : r1[y]? = some (r1[y]'(by omega)):=List.getElem?_eq_getElem _
 have g2 : r2[d]? = some (r2[d]'(by omega)):=List.getElem?_eq_getElem _
 have c1 : 0 ≤ (d : Int) ∧ (d : Int) < m.length:=by omega
 have c2 : 0 ≤ (y : Int) ∧ (y : Int) < m.length:=by omega
 have c3 : 0 ≤ (y : Int) ∧ (y : Int) < r1.length:=by omega
 have c4 : 0 ≤ (d : Int) ∧ (d : Int) < r2.length:=by omega
 have w:=JG (show i < 9223372036854775807 by omega)
 exact ⟨_,by simp only [JZ,cond_true,Int.toNat_natCast,e1,e2,Option.bind_some,JQ hne,JQ c1,JQ c2,JQ c3,JQ c4,g1,g2,w,Adt],hm.set hd hy hne e1 e2⟩
theorem AbX {f : Jh} (hf : Kj f) (hd : Acu f) {l : Jp} (hl : AaE l.Out) : Hs (Mz f l) (Tm MJ f l.Out):=by
 have hlen:=hf.len'
 have hsl:=hf.slots
 unfold Mz
 refine Hs.bind (P:=Tm MJ f l.Out) ?_ fun r hr=>.pure hr
 unfold LF
 refine (AcF hf hl).bind fun e he=>.bne (fun h=>.pure (.inr ⟨he.1.resolve_left h,fun ha=>h (he.2.2 ha),rfl⟩)) fun h=>?_
 have hacc : Acc f l.Out:=he.2.1 h
 refine .chk (by omega) ?_
 refine Hs.loop (fun s=>∃ k : Nat,s.2 = (k : Int) ∧ k ≤ f.Slots.length ∧ s.1.length = f.Slots.length ∧ ∀ (j : Nat) row,j < k → s.1[j]? = some row → row = List.replicate f.Slots.length false) (fun s=>f.Slots.length - s.2.toNat) ⟨0,rfl,Nat.zero_le _,by simp,fun j row h=>absurd h (Nat.not_lt_zero _)⟩ ?_
 rintro ⟨m,_⟩ ⟨k,rfl,hk,hml,hrows⟩
 unfold LU
 simp only [List.length_replicate,Int.toNat_natCast] at hml hrows ⊢
 refine .dec (fun hlt=>?_) fun hge=>.lft ?_
 ·have hlt : k < f.Slots.length:=by omega
  have hg : m[k]? = some (m[k]'(by omega)):=List.getElem?_eq_getElem _
  refine .chk (by omega) (.chk (by omega) ?_)
  rw [hg,Option.bind_some,JG (by omega)]
  refine .cnt ⟨⟨k + 1,rfl,hlt,by simp [hml],fun j row hj hr=>?_⟩,by simp only; omega⟩
  by_cases e : j = k
  ·subst e
   rw [List.getElem?_set_self (by omega)] at hr
   exact (Option.some.inj hr).symm
  ·rw [List.getElem?_set_ne (fun h=>e h.symm)] at hr
   exact hrows j row (by omega) hr
 have hkk : k = f.Slots.length:=by omega
 have hm0 : Lx f.Slots.length m (SO MJ f l.Out 0):=AcU hml (fun j row hr=>hrows j row (by have:=(List.getElem?_eq_some_iff.1 hr).1; omega) hr) fun a v h=>by rcases h with ⟨j,hj,_⟩; omega
 show Hs (KY f l m) (Tm MJ f l.Out)
 clear hrows hml hge hkk hk k
 unfold KY
 refine Hs.loop (fun s=>∃ k : Nat,s.2 = (k : Int) ∧ k ≤ f.Code.length ∧ Lx f.Slots.length s.1 (SO MJ f l.Out k)) (fun s=>f.Code.length - s.2.toNat) ⟨0,rfl,Nat.zero_le _,hm0⟩ ?_
 clear hm0 m
 rintro ⟨m,_⟩ ⟨k,rfl,hk,hm⟩
 replace hm : Lx f.Slots.length m _:=hm
 unfold LV
 refine .dec (fun hlt=>?_) fun hge=>.lft ?_
 ·have hlt : k < f.Code.length:=by simp only at hlt; omega
  have hx:=hf.at (j:=(k : Int)) (by omega) (by omega)
  rw [Int.toNat_natCast] at hx
  have hrow:=hacc.1.at (j:=(k : Int)) (by omega) (by omega)
  rw [Int.toNat_natCast] at hrow
  have hlo:=hrow.2.1.length_le
  simp only [Pa,hx.1,Option.bind_some,AbJ]
  have w:=JG (show k < 9223372036854775807 by omega)
  by_cases hdef : (Jq f k).Op = 16 ∨ (Jq f k).Op = 17
  ·rw [if_pos hdef]
   simp only [Bool.not_true,cond_false]
   have hA:=hd _ hx.2 hdef
   have inner : ¬ ((Jq f k).Op = 17 ∧ (Jq f k).A = (Jq f k).B) → ∀ p q,Hs (Ky l (k : Int) ((Jq f k).A,true) (Jq f k) m p q) (Rnd (fun s=>∃ k : Nat,s.2 = (k : Int) ∧ k ≤ f.Code.length ∧ Lx f.Slots.length s.1 (SO MJ f l.Out k)) (fun s=>f.Code.length - s.2.toNat) (m,(k : Int)) (Tm MJ f l.Out)):=by
    intro hnm p q
    unfold Ky
    rw [Pa,hrow.1,Option.bind_some]
    refine Hs.loop (fun s=>∃ i : Nat,s.2 = (i : Int) ∧ i ≤ (Jx l.Out k).length ∧ Lx f.Slots.length s.1 (Vi MJ f l.Out k i)) (fun s=>(Jx l.Out k).length - s.2.toNat) ⟨0,rfl,Nat.zero_le _,hm.congr fun a v=>AbT⟩ ?_
    rintro ⟨m2,_⟩ ⟨i,rfl,hi,hm2⟩
    replace hm2 : Lx f.Slots.length m2 _:=hm2
    unfold LW
    refine .dec (fun hlt2=>?_) fun hge2=>?_
    ·have hlt2 : i < (Jx l.Out k).length:=by simp only at hlt2; omega
     have hgx : (Jx l.Out k)[i]? = some (Jx l.Out k)[i]:=List.getElem?_eq_getElem _
     have hxm:=List.getElem_mem hlt2
     generalize (Jx l.Out k)[i] = x at hgx hxm
     have hx0:=hrow.2.1.2 x hxm
     have hxn:=hrow.2.2 x hxm
     simp only [Pa,hgx,Option.bind_some,AdL]
     have w2:=JG (show i < 9223372036854775807 by omega)
     have skip : x = (Jq f k).A ∨ MJ (Jq f k) x = true → Hs (JZ m2 ((Jq f k).A,true) x (i : Int) false) (Rnd (fun s=>∃ i : Nat,s.2 = (i : Int) ∧ i ≤ (Jx l.Out k).length ∧ Lx f.Slots.length s.1 (Vi MJ f l.Out k i)) (fun s=>(Jx l.Out k).length - s.2.toNat) (m2,(i : Int)) (Rnd (fun s=>∃ k : Nat,s.2 = (k : Int) ∧ k ≤ f.Code.length ∧ Lx f.Slots.length s.1 (SO MJ f l.Out k)) (fun s=>f.Code.length - s.2.toNat) (m,(k : Int)) (Tm MJ f l.Out))):=by
      intro hh
      unfold JZ
      rw [cond_false,w2]
      exact .cnt ⟨⟨i + 1,rfl,hlt2,hm2.congr fun a v=>AbS hgx hh⟩,by simp only; omega⟩
     refine .bne (fun hne=>?_) fun he=>skip (.inl he)
     cases hmf : MJ (Jq f k) x
     ·rw [Bool.not_false]
      obtain ⟨d,hde⟩ : ∃ d : Nat,(Jq f k).A = (d : Int):=⟨_,(Int.toNat_of_nonneg hA.1).symm⟩
      obtain ⟨y,rfl⟩ : ∃ y : Nat,x = (y : Int):=⟨_,(Int.toNat_of_nonneg hx0.1).symm⟩
      obtain ⟨m',h1,h2⟩:=Aec hm2 (d:=d) (y:=y) (by omega) (by omega) (by omega) true (i:=i) (by omega)
      rw [hde,h1]
      refine .pure ⟨⟨i + 1,rfl,hlt2,h2.congr fun a v=>?_⟩,by simp only; omega⟩
      rw [Aag hgx,hde]
      constructor
      ·rintro (h | ⟨h1,h2,_⟩)
       ·exact .inl h
       ·exact .inr ⟨h1,h2⟩
      ·rintro (h | ⟨h1,h2⟩)
       ·exact .inl h
       ·exact .inr ⟨h1,h2,by omega,hmf⟩
     ·rw [Bool.not_true]
      exact skip (.inr hmf)
    ·have hi : i = (Jx l.Out k).length:=by simp only at hge2; omega
     subst hi
     rw [w]
     exact .lft (.cnt ⟨⟨k + 1,rfl,hlt,hm2.congr fun a v=>(AcL hdef hnm).symm⟩,by simp only; omega⟩)
   refine .beq (fun h17=>.beq (fun hab=>?_) fun hab=>inner (fun hh=>hab hh.2) _ _) fun h17=>inner (fun hh=>h17 hh.1) _ _
   rw [w]
   exact .cnt ⟨⟨k + 1,rfl,hlt,hm.congr fun a v=>YA (.inr ⟨h17,hab⟩)⟩,by simp only; omega⟩
  ·rw [if_neg hdef]
   simp only [Bool.not_false,cond_true]
   rw [w]
   exact .cnt ⟨⟨k + 1,rfl,hlt,hm.congr fun a v=>YA (.inl (by omega))⟩,by simp only; omega⟩
 ·have hk : k = f.Code.length:=by simp only at hge; omega
  subst hk
  refine (AcV hm.1 hm.2.1 hsl).bind fun out ho=>.pure (.inl ⟨rfl,hacc,ho.congr fun a v ha=>?_⟩)
  constructor
  ·intro h
   have hr : 0 ≤ v ∧ v < f.Slots.length:=by
    rcases h with h | h
    ·exact (Abv hf hd hacc.1 h).2
    ·exact (Abv hf hd hacc.1 h).1
   refine ⟨hr.1,hr.2,(hm.2.2 a v.toNat ha (by omega)).2 ?_⟩
   rw [Int.toNat_of_nonneg hr.1]
   exact h
  ·rintro ⟨h0,h1,hc⟩
   have:=(hm.2.2 a v.toNat ha (by omega)).1 hc
   rw [Int.toNat_of_nonneg h0] at this
   exact this
end Go.Proofs.YtfpgidpffhmadaaDoor
namespace Go.Proofs.YtfpgidpffhmadaaDoor
open Go Go.Dw Go.Proofs
theorem AdK {n : Nat} {m : List (List Bool)} {P : Int → Int → Prop} (hm : Lx n m P) {d y : Nat} (hd : d < n) (hy : y < n) (hne : d ≠ y) (t : Bool) {i : Nat} (hi : i < 1000000) :
  ∃ m',JU m ((d : Int),t) (y : Int) (i : Int) true = some (.inl (m',((i + 1 : Nat) : Int))) ∧ Lx n m' fun a b=>P a b ∨ (a = d ∧ b = y):=by
 have e1 : m[d]? = some (m[d]'(by have:=hm.1; omega)):=List.getElem?_eq_getElem _
 have e2 : m[y]? = some (m[y]'(by have:=hm.1; omega)):=List.getElem?_eq_getElem _
 generalize m[d]'(by have:=hm.1; omega) = r1 at e1
 generalize m[y]'(by have:=hm.1; omega) = r2 at e2
 have l1:=hm.2.1 _ (List.mem_of_getElem? e1)
 have l2:=hm.2.1 _ (List.mem_of_getElem? e2)
 have hl:=hm.1
 have g1 : r1[y]? = some (r1[y]'(by omega)):=List.getElem?_eq_getElem _
 have g2 : r2[d]? = some (r2[d]'(by omega)):=List.getElem?_eq_getElem _
 have c1 : 0 ≤ (d : Int) ∧ (d : Int) < m.length:=by omega
 have c2 : 0 ≤ (y : Int) ∧ (y : Int) < m.length:=by omega
 have c3 : 0 ≤ (y : Int) ∧ (y : Int) < r1.length:=by omega
 have c4 : 0 ≤ (d : Int) ∧ (d : Int) < r2.length:=by omega
 have w:=JG (show i < 9223372036854775807 by omega)
 exact ⟨_,by simp only [JU,cond_true,Int.toNat_natCast,e1,e2,Option.bind_some,JQ hne,JQ c1,JQ c2,JQ c3,JQ c4,g1,g2,w,Adt],hm.set hd hy hne e1 e2⟩
theorem AdJ {f : Jh} (hf : Kj f) (hd : Acu f) {l : Jp} (hl : AaE l.Out) : Hs (Nc f l) (Tm Mc f l.Out):=by
 have hlen:=hf.len'
 have hsl:=hf.slots
 unfold Nc
 refine Hs.bind (P:=Tm Mc f l.Out) ?_ fun r hr=>.pure hr
 unfold Lr
 refine (AcF hf hl).bind fun e he=>.bne (fun h=>.pure (.inr ⟨he.1.resolve_left h,fun ha=>h (he.2.2 ha),rfl⟩)) fun h=>?_
 have hacc : Acc f l.Out:=he.2.1 h
 refine .chk (by omega) ?_
 refine Hs.loop (fun s=>∃ k : Nat,s.2 = (k : Int) ∧ k ≤ f.Slots.length ∧ s.1.length = f.Slots.length ∧ ∀ (j : Nat) row,j < k → s.1[j]? = some row → row = List.replicate f.Slots.length false) (fun s=>f.Slots.length - s.2.toNat) ⟨0,rfl,Nat.zero_le _,by simp,fun j row h=>absurd h (Nat.not_lt_zero _)⟩ ?_
 rintro ⟨m,_⟩ ⟨k,rfl,hk,hml,hrows⟩
 unfold LI
 simp only [List.length_replicate,Int.toNat_natCast] at hml hrows ⊢
 refine .dec (fun hlt=>?_) fun hge=>.lft ?_
 ·have hlt : k < f.Slots.length:=by omega
  have hg : m[k]? = some (m[k]'(by omega)):=List.getElem?_eq_getElem _
  refine .chk (by omega) (.chk (by omega) ?_)
  rw [hg,Option.bind_some,JG (by omega)]
  refine .cnt ⟨⟨k + 1,rfl,hlt,by simp [hml],fun j row hj hr=>?_⟩,by simp only; omega⟩
  by_cases e : j = k
  ·subst e
   rw [List.getElem?_set_self (by omega)] at hr
   exact (Option.some.inj hr).symm
  ·rw [List.getElem?_set_ne (fun h=>e h.symm)] at hr
   exact hrows j row (by omega) hr
 have hkk : k = f.Slots.length:=by omega
 have hm0 : Lx f.Slots.length m (SO Mc f l.Out 0):=AcU hml (fun j row hr=>hrows j row (by have:=(List.getElem?_eq_some_iff.1 hr).1; omega) hr) fun a v h=>by rcases h with ⟨j,hj,_⟩; omega
 show Hs (KQ f l m) (Tm Mc f l.Out)
 clear hrows hml hge hkk hk k
 unfold KQ
 refine Hs.loop (fun s=>∃ k : Nat,s.2 = (k : Int) ∧ k ≤ f.Code.length ∧ Lx f.Slots.length s.1 (SO Mc f l.Out k)) (fun s=>f.Code.length - s.2.toNat) ⟨0,rfl,Nat.zero_le _,hm0⟩ ?_
 clear hm0 m
 rintro ⟨m,_⟩ ⟨k,rfl,hk,hm⟩
 replace hm : Lx f.Slots.length m _:=hm
 unfold LJ
 refine .dec (fun hlt=>?_) fun hge=>.lft ?_
 ·have hlt : k < f.Code.length:=by simp only at hlt; omega
  have hx:=hf.at (j:=(k : Int)) (by omega) (by omega)
  rw [Int.toNat_natCast] at hx
  have hrow:=hacc.1.at (j:=(k : Int)) (by omega) (by omega)
  rw [Int.toNat_natCast] at hrow
  have hlo:=hrow.2.1.length_le
  simp only [Pa,hx.1,Option.bind_some,AbJ]
  have w:=JG (show k < 9223372036854775807 by omega)
  by_cases hdef : (Jq f k).Op = 16 ∨ (Jq f k).Op = 17
  ·rw [if_pos hdef]
   simp only [Bool.not_true,cond_false]
   have hA:=hd _ hx.2 hdef
   have inner : ¬ ((Jq f k).Op = 17 ∧ (Jq f k).A = (Jq f k).B) → ∀ p q,Hs (Ks l (k : Int) ((Jq f k).A,true) (Jq f k) m p q) (Rnd (fun s=>∃ k : Nat,s.2 = (k : Int) ∧ k ≤ f.Code.length ∧ Lx f.Slots.length s.1 (SO Mc f l.Out k)) (fun s=>f.Code.length - s.2.toNat) (m,(k : Int)) (Tm Mc f l.Out)):=by
    intro hnm p q
    unfold Ks
    rw [Pa,hrow.1,Option.bind_some]
    refine Hs.loop (fun s=>∃ i : Nat,s.2 = (i : Int) ∧ i ≤ (Jx l.Out k).length ∧ Lx f.Slots.length s.1 (Vi Mc f l.Out k i)) (fun s=>(Jx l.Out k).length - s.2.toNat) ⟨0,rfl,Nat.zero_le _,hm.congr fun a v=>AbT⟩ ?_
    rintro ⟨m2,_⟩ ⟨i,rfl,hi,hm2⟩
    replace hm2 : Lx f.Slots.length m2 _:=hm2
    unfold LK
    refine .dec (fun hlt2=>?_) fun hge2=>?_
    ·have hlt2 : i < (Jx l.Out k).length:=by simp only at hlt2; omega
     have hgx : (Jx l.Out k)[i]? = some (Jx l.Out k)[i]:=List.getElem?_eq_getElem _
     have hxm:=List.getElem_mem hlt2
     generalize (Jx l.Out k)[i] = x at hgx hxm
     have hx0:=hrow.2.1.2 x hxm
     have hxn:=hrow.2.2 x hxm
     simp only [Pa,hgx,Option.bind_some,Adq]
     have w2:=JG (show i < 9223372036854775807 by omega)
     have skip : x = (Jq f k).A ∨ Mc (Jq f k) x = true → Hs (JU m2 ((Jq f k).A,true) x (i : Int) false) (Rnd (fun s=>∃ i : Nat,s.2 = (i : Int) ∧ i ≤ (Jx l.Out k).length ∧ Lx f.Slots.length s.1 (Vi Mc f l.Out k i)) (fun s=>(Jx l.Out k).length - s.2.toNat) (m2,(i : Int)) (Rnd (fun s=>∃ k : Nat,s.2 = (k : Int) ∧ k ≤ f.Code.length ∧ Lx f.Slots.length s.1 (SO Mc f l.Out k)) (fun s=>f.Code.length - s.2.toNat) (m,(k : Int)) (Tm Mc f l.Out))):=by
      intro hh
      unfold JU
      rw [cond_false,w2]
      exact .cnt ⟨⟨i + 1,rfl,hlt2,hm2.congr fun a v=>AbS hgx hh⟩,by simp only; omega⟩
     refine .bne (fun hne=>?_) fun he=>skip (.inl he)
     cases hmf : Mc (Jq f k) x
     ·rw [Bool.not_false]
      obtain ⟨d,hde⟩ : ∃ d : Nat,(Jq f k).A = (d : Int):=⟨_,(Int.toNat_of_nonneg hA.1).symm⟩
      obtain ⟨y,rfl⟩ : ∃ y : Nat,x = (y : Int):=⟨_,(Int.toNat_of_nonneg hx0.1).symm⟩
      obtain ⟨m',h1,h2⟩:=AdK hm2 (d:=d) (y:=y) (by omega) (by omega) (by omega) true (i:=i) (by omega)
      rw [hde,h1]
      refine .pure ⟨⟨i + 1,rfl,hlt2,h2.congr fun a v=>?_⟩,by simp only; omega⟩
      rw [Aag hgx,hde]
      constructor
      ·rintro (h | ⟨h1,h2,_⟩)
       ·exact .inl h
       ·exact .inr ⟨h1,h2⟩
      ·rintro (h | ⟨h1,h2⟩)
       ·exact .inl h
       ·exact .inr ⟨h1,h2,by omega,hmf⟩
     ·rw [Bool.not_true]
      exact skip (.inr hmf)
    ·have hi : i = (Jx l.Out k).length:=by simp only at hge2; omega
     subst hi
     rw [w]
     exact .lft (.cnt ⟨⟨k + 1,rfl,hlt,hm2.congr fun a v=>(AcL hdef hnm).symm⟩,by simp only; omega⟩)
   refine .beq (fun h17=>.beq (fun hab=>?_) fun hab=>inner (fun hh=>hab hh.2) _ _) fun h17=>inner (fun hh=>h17 hh.1) _ _
   rw [w]
   exact .cnt ⟨⟨k + 1,rfl,hlt,hm.congr fun a v=>YA (.inr ⟨h17,hab⟩)⟩,by simp only; omega⟩
  ·rw [if_neg hdef]
   simp only [Bool.not_false,cond_true]
   rw [w]
   exact .cnt ⟨⟨k + 1,rfl,hlt,hm.congr fun a v=>YA (.inl (by omega))⟩,by simp only; omega⟩
 ·have hk : k = f.Code.length:=by simp only at hge; omega
  subst hk
  refine (AcV hm.1 hm.2.1 hsl).bind fun out ho=>.pure (.inl ⟨rfl,hacc,ho.congr fun a v ha=>?_⟩)
  constructor
  ·intro h
   have hr : 0 ≤ v ∧ v < f.Slots.length:=by
    rcases h with h | h
    ·exact (Abv hf hd hacc.1 h).2
    ·exact (Abv hf hd hacc.1 h).1
   refine ⟨hr.1,hr.2,(hm.2.2 a v.toNat ha (by omega)).2 ?_⟩
   rw [Int.toNat_of_nonneg hr.1]
   exact h
  ·rintro ⟨h0,h1,hc⟩
   have:=(hm.2.2 a v.toNat ha (by omega)).1 hc
   rw [Int.toNat_of_nonneg h0] at this
   exact this
end Go.Proofs.YtfpgidpffhmadaaDoor
namespace Go.Proofs.YtfpgidpffhmadaaDoor
open Go Go.Dw Go.Proofs
theorem AdP (codes : List Int) (hc : qL (MS .u8) codes) : Hs (Rf codes) fun p=>okC p.2.2 ∧ (∃ ps i,RS ps i 16 p.1) ∧ p.2.1.Out.length ≤ p.1.Code.length ∧ XD p.2.1.Out:=by
 unfold Rf
 obtain ⟨c,e1,hcok⟩:=AjE codes 250 hc (by omega) (by omega)
 rw [e1,Option.bind_some]
 refine (AdM hcok (by omega) (by omega) (by omega) (by omega)).bind fun p hp=>?_
 obtain ⟨ps,hps,hz,hp1,hp2,hfl,hall⟩:=hp.2
 refine (JD hp.1 (by omega) (by omega)).bind fun k hk=>?_
 refine (Hs.ix hk.2.1 hk.2.2 fun f hf=>hall _ f hf).bind fun f hf=>?_
 exact (Agw hk.1 (hf.AjB (by omega))).bind fun l hl=>.pure ⟨hl.1,⟨_,_,hf⟩,hl.2⟩
attribute [local simp] JQ Bool.cond_eq_ite
theorem Aei (s : List JB) (v : JB) (h : s.length ≤ 1000000) : Ku s v = some (decide (v ∈ s)):=by
 unfold Ku Lt
 have:=LL (body:=fun i : Int=>JV s v i) s (fun (k : Nat) i=>i) (fun k i=>k = i) (fun k l=>some (match l.findIdx? (· == v) with | none=>-1 | some j=>((k + j : Nat) : Int)))
  (fun k _=>⟨-1,by simp [JV],by simp⟩) (fun k i x r hk hd hi hx=>by
   subst hk
   have w:=JG (show k < 9223372036854775807 by omega)
   obtain ⟨_,rfl⟩:=List.getElem?_eq_some_iff.1 hx
   by_cases e : s[k] = v
   ·refine .inr ⟨(k : Int),?_,?_⟩
    ·subst e; simp [JV,hi]
    ·simp [List.findIdx?_cons,e]
   ·refine .inl ⟨k + 1,rfl,?_,?_⟩
    ·have hne : ¬ (v.a0 = s[k].a0 ∧ v.a1 = s[k].a1):=fun hh=>e (by
      generalize s[k] = y at hh
      cases y; cases v; simp_all)
     simp [JV,hi,hne,w]
    ·have hb : (s[k] == v) = false:=by simpa using e
     simp only [List.findIdx?_cons,hb,Bool.false_eq_true,if_false]
     cases r.findIdx? (· == v) with
     | none=>rfl
     | some j=>simp; omega) 0 rfl
 rw [show JL (fun s_1=>JV s v s_1) 0 = _ from this]
 simp only [Option.bind_some]
 congr 1
 by_cases hm : v ∈ s
 ·cases hfi : s.findIdx? (· == v) with
  | none =>
   rw [List.findIdx?_eq_none_iff] at hfi
   have:=hfi v hm
   simp at this
  | some j=>simp [hm]
 ·have : s.findIdx? (· == v) = none:=by
   rw [List.findIdx?_eq_none_iff]
   intro x hx
   simp only [beq_eq_false_iff_ne]
   rintro rfl
   exact hm hx
  simp [this,hm]
def Wv (l : List Je) (out : List JB) : List JB :=
 l.foldl (fun out x=>if x.Op = 17 ∧ x.A ≠ x.B ∧ (⟨x.A,x.B⟩ : JB) ∉ out then out ++ [⟨x.A,x.B⟩] else out) out
theorem Agg (f : Jh) (h : f.Code.length ≤ 1000000) : NM f = some (Wv f.Code []):=by
 unfold NM
 have:=LL (body:=fun s : List JB × Int=>KB f s.1 s.2) f.Code (fun (out : List JB) i=>(out,i)) (fun out i=>out.length ≤ i) (fun out l=>some (Wv l out))
  (fun out _=>⟨out,by simp [KB],by simp [Wv]⟩) (fun out i x r ho hd hi hx=>by
   have w:=JG (show i < 9223372036854775807 by omega)
   obtain ⟨_,rfl⟩:=List.getElem?_eq_some_iff.1 hx
   have hc:=Aei out ⟨f.Code[i].A,f.Code[i].B⟩ (by omega)
   left
   by_cases h17 : f.Code[i].Op = 17
   ·by_cases hab : f.Code[i].A = f.Code[i].B
    ·exact ⟨out,by omega,by simp [KB,hi,h17,hab,w],by simp [Wv,h17,hab]⟩
    ·by_cases hm : (⟨f.Code[i].A,f.Code[i].B⟩ : JB) ∈ out
     ·exact ⟨out,by omega,by simp [KB,hi,h17,hab,hc,hm,w],by simp [Wv,h17,hab,hm]⟩
     ·exact ⟨out ++ [⟨f.Code[i].A,f.Code[i].B⟩],by simp; omega,by simp [KB,hi,h17,hab,hc,hm,w,show out.length ≤ 16777215 by omega],by simp [Wv,h17,hab,hm]⟩
   ·exact ⟨out,by omega,by simp [KB,hi,h17,w],by simp [Wv,h17]⟩) [] (by simp)
 simpa using this
theorem Aeg : Re = some true:=by
 unfold Re
 rw [Agg _ (by simp)]
 simp [Wv]
end Go.Proofs.YtfpgidpffhmadaaDoor
namespace Go.Proofs.YtfpgidpffhmadaaDoor
open Go Go.Dw Go.Proofs
theorem Agd {c : Jd} (h : okC c) {f : Jh} (hf : Kj f) : Hs (Na c f) fun p=>okC p.2 ∧ Acc f p.1.Out:=by
 have hlen:=hf.len
 have hlen':=hf.len'
 have hsl:=hf.slots
 unfold Na
 refine (Abp hf).bind fun l hl=>.chk (by have:=hl.ok.1; simp; omega) ((JD h (by omega) (by omega)).bind fun r hr=>?_)
 refine Hs.loop (fun s=>okC ⟨s.1,s.2.1⟩ ∧ Acc f s.2.2.1 ∧ 0 ≤ s.2.2.2 ∧ s.2.2.2 < 3) (fun s=>s.2.2.2.toNat) ⟨hr.1,by simpa using hl.acc hf,hr.2⟩ ?_
 rintro ⟨l,a,x,n⟩ ⟨hc,hx,hn0,hn1⟩
 simp only at hc hx hn0 hn1
 have w : IntKind.i64.wrap (n - 1) = n - 1:=wrap64 (by omega) (by omega)
 unfold OI
 refine .dec (fun hlt=>.dec (fun hsl0=>?_) fun _=>.lft (.pure ⟨hc,hx⟩)) fun _=>.lft (.pure ⟨hc,hx⟩)
 have hlt : 0 < n:=hlt
 unfold OK
 refine (JD hc (by omega) (by omega)).bind fun u hu=>?_
 have hxl:=hx.1.1
 refine Hs.loop (fun s=>∃ k : Nat,s.2 = (k : Int) ∧ k ≤ x.length ∧ s.1 = Ty u.1 x k) (fun s=>x.length - s.2.toNat) ⟨0,rfl,Nat.zero_le _,(AdG _ _).symm⟩ ?_
 rintro ⟨y,i⟩ ⟨k,hi,hk,hy⟩
 simp only at hi hy
 subst hi hy
 have hyl:=Acz u.1 x hk
 unfold OJ
 refine .dec (fun hlt=>?_) fun hge=>?_
 ·have hlt : k < x.length:=by simp only at hlt; omega
  refine .chk (by omega) ?_
  have hs:=hx.1.2 _ (List.getElem_mem hlt)
  rw [Int.toNat_natCast,AdS hlt,Option.bind_some,add_eq _ _ (by have:=hs.1.length_le; omega),Option.bind_some]
  refine .chk (by omega) ?_
  rw [Option.bind_some,AdT hlt,JG (by omega)]
  exact .cnt ⟨⟨k + 1,rfl,hlt,rfl⟩,by simp only; omega⟩
 ·obtain rfl : k = x.length:=by simp only at hge; omega
  rw [AdR]
  unfold OL
  exact .lft (.cnt ⟨⟨hu.1,Agq hf hx hu.2,by simp only [w]; omega,by simp only [w]; omega⟩,by simp only [w]; omega⟩)
end Go.Proofs.YtfpgidpffhmadaaDoor
namespace Go.Proofs.YtfpgidpffhmadaaDoor
open Go Go.Dw Go.Proofs
attribute [local simp] JQ Bool.cond_eq_ite
def Zy (v : Int) : Nat → List Int → Int
 | _,[]=>-1
 | a,x :: r=>if v = x then a else Zy v (a + 1) r
theorem AaY (v : Int) : ∀ (a : Nat) (s : List Int),0 ≤ Zy v a s ↔ v ∈ s
 | a,[]=>by simp [Zy]
 | a,x :: r=>by
  simp only [Zy]
  split
  ·rename_i h; simp [h]
  ·rename_i h; rw [AaY v (a + 1) r]; simp [h]
theorem AfZ (s : List Int) (v : Int) (hs : s.length ≤ 9223372036854775807) : LD s v = some (Zy v 0 s):=by
 unfold LD
 refine LL s (fun (_ : Nat) i=>i) (fun a i=>a = i) (fun a l=>some (Zy v a l)) (fun _ _=>⟨-1,by simp [KU],by simp [Zy]⟩) (fun a i x r ha hd hi hx=>?_) 0 rfl
 subst ha
 have w:=JG (show a < 9223372036854775807 by omega)
 obtain ⟨_,rfl⟩:=List.getElem?_eq_some_iff.1 hx
 by_cases h : v = s[a]
 ·exact .inr ⟨a,by simp [KU,hi,h],by simp [Zy,h]⟩
 ·exact .inl ⟨a + 1,rfl,by simp [KU,hi,h,w],by simp [Zy,h]⟩
theorem contains_eq (s : List Int) (v : Int) (hs : s.length ≤ 9223372036854775807) : Kx s v = some (decide (v ∈ s)):=by
 simp [Kx,AfZ s v hs,AaY]
theorem Ady (x y : Int) : Qa x y = some (decide (x < y)):=by simp [Qa,OZ]
theorem Aep (s : List Int) (t : Int) (hp : s.Pairwise (· < ·)) (hs : s.length ≤ 1000000) : ∃ i,Kt s t = some (i,decide (t ∈ s)):=by
 unfold Kt
 have key:=Yp (body:=fun s_1 : Int × Int=>JM s t s_1.1 s_1.2) (s:=(0,(s.length : Int)))
  (fun st=>∃ i j : Nat,st = ((i : Int),(j : Int)) ∧ i ≤ j ∧ j ≤ s.length ∧ (∀ (k : Nat) x,k < i → s[k]? = some x → x < t) ∧ ∀ (k : Nat) x,j ≤ k → s[k]? = some x → t ≤ x)
  (fun r=>r.2 = decide (t ∈ s)) (fun st=>(st.2 - st.1).toNat) ⟨0,s.length,rfl,Nat.zero_le _,Nat.le_refl _,fun k x hk=>absurd hk (Nat.not_lt_zero _),fun k x hk hx=>by
   have:=(List.getElem?_eq_some_iff.1 hx).1
   omega⟩ (fun st hI=>by
   obtain ⟨i,j,rfl,hij,hj,h1,h2⟩:=hI
   by_cases hlt : i < j
   ·left
    have hm:=AjD (a:=(i : Int) + j) (by omega) (by omega)
    have hmid : ((i : Int) + j) / 2 = (((i + j) / 2 : Nat) : Int):=by omega
    rw [hmid] at hm
    have hm1 : i ≤ (i + j) / 2:=by omega
    have hm2 : (i + j) / 2 < j:=by omega
    clear hmid
    generalize (i + j) / 2 = m at *
    have hml : m < s.length:=by omega
    have w:=JG (show m < 9223372036854775807 by omega)
    by_cases hx : s[m] < t
    ·refine ⟨(((m + 1 : Nat) : Int),(j : Int)),?_,⟨m + 1,j,rfl,by omega,hj,fun k x hk hkx=>?_,h2⟩,by simp only; omega⟩
     ·simp only [JM,hm]
      simp [hlt,hml,Ady,hx,w]
     ·by_cases hk' : k = m
      ·subst hk'
       rw [List.getElem?_eq_getElem hml] at hkx
       cases hkx
       exact hx
      ·obtain ⟨hkl,rfl⟩:=List.getElem?_eq_some_iff.1 hkx
       have:=List.pairwise_iff_getElem.1 hp k (m) hkl hml (by omega)
       omega
    ·refine ⟨((i : Int),(m : Int)),?_,⟨i,m,rfl,by omega,by omega,h1,fun k x hk hkx=>?_⟩,by simp only; omega⟩
     ·simp only [JM,hm]
      simp [hlt,hml,Ady,hx]
     ·obtain ⟨hkl,rfl⟩:=List.getElem?_eq_some_iff.1 hkx
      by_cases hk' : k = m
      ·subst hk'; omega
      ·have:=List.pairwise_iff_getElem.1 hp (m) k hml hkl (by omega)
       omega
   ·right
    have e : i = j:=by omega
    subst e
    have hmem : t ∈ s ↔ s[i]? = some t:=by
     constructor
     ·intro ht
      obtain ⟨k,hk⟩:=List.getElem?_of_mem ht
      rcases Nat.lt_trichotomy k i with h | h | h
      ·have:=h1 k t h hk; omega
      ·subst h; exact hk
      ·obtain ⟨hkl,hkt⟩:=List.getElem?_eq_some_iff.1 hk
       have h3:=h2 i s[i] (Nat.le_refl _) (List.getElem?_eq_getElem (by omega))
       have:=List.pairwise_iff_getElem.1 hp i k (by omega) hkl h
       omega
     ·exact List.mem_of_getElem?
    by_cases hil : i < s.length
    ·by_cases hx : s[i] = t
     ·have ht : t ∈ s:=hmem.2 (by rw [List.getElem?_eq_getElem hil,hx])
      exact ⟨((i : Int),true),by simp [JM,Kh,hil,hx],by simp [ht]⟩
     ·have ht : ¬ t ∈ s:=fun h=>by
       have:=hmem.1 h
       rw [List.getElem?_eq_getElem hil] at this
       exact hx (Option.some.inj this)
      exact ⟨((i : Int),false),by simp [JM,Kh,Nk,hil,hx],by simp [ht]⟩
    ·have ht : ¬ t ∈ s:=fun h=>by
      have:=hmem.1 h
      exact hil (List.getElem?_eq_some_iff.1 this).1
     exact ⟨((i : Int),false),by simp [JM,Kh,hil],by simp [ht]⟩)
 obtain ⟨⟨i,b⟩,h1,h2⟩:=key
 simp only at h2
 exact ⟨i,by rw [h1,h2]⟩
end Go.Proofs.YtfpgidpffhmadaaDoor
namespace Go.Proofs.YtfpgidpffhmadaaDoor
open Go Go.Dw Go.Proofs
attribute [local simp] JQ Bool.cond_eq_ite
def rowAt (g : List (List Int)) (y : Int) : List Int:=(g[y.toNat]?).getD []
def Zq (n : Int) (x : Nat) (s : List Int) : Prop:=JR s ∧ (∀ y ∈ s,y < n) ∧ (x : Int) ∉ s
def Xz (g : List (List Int)) (n : Int) : Prop:=(g.length : Int) = n ∧ (∀ (x : Nat) s,g[x]? = some s → Zq n x s) ∧ ∀ (x : Nat) s,g[x]? = some s → ∀ y ∈ s,(x : Int) ∈ rowAt g y
section
variable {g : List (List Int)} {n : Int}
theorem AjK (hn : (g.length : Int) = n) (hg : g.length ≤ 1000) (hr : ∀ (x : Nat) s,g[x]? = some s → Zq n x s) {x : Nat} {row : List Int} (hx : g[x]? = some row) :
  ∃ r,JL (fun s=>KP row g (x : Int) s) 0 = some r ∧ ((∀ y ∈ row,(x : Int) ∈ rowAt g y) ∧ r = .inl ((x + 1 : Nat) : Int) ∨ (¬ ∀ y ∈ row,(x : Int) ∈ rowAt g y) ∧ r = .inr false):=by
 have hrow:=hr x row hx
 have hxl:=(List.getElem?_eq_some_iff.1 hx).1
 have hlen:=hrow.1.length_le
 have wx:=JG (show x < 9223372036854775807 by omega)
 open Classical in
 have:=LL (body:=fun s=>KP row g (x : Int) s) row (fun (_ : Unit) i=>i) (fun _ _=>True) (fun _ l=>some (if ∀ y ∈ l,(x : Int) ∈ rowAt g y then (.inl ((x + 1 : Nat) : Int) : Int ⊕ Bool) else .inr false))
  (fun _ _=>⟨.inl ((x + 1 : Nat) : Int),by simp [KP,wx],by simp⟩) (fun _ i y r _ hd hi hy=>by
   have hym : y ∈ row:=List.mem_of_getElem? hy
   have h0:=hrow.1.2 y hym
   have h1:=hrow.2.1 y hym
   have hyl : y.toNat < g.length:=by omega
   have hgy : g[y.toNat]? = some g[y.toNat]:=List.getElem?_eq_getElem hyl
   have hs:=hr _ _ hgy
   obtain ⟨q,hq⟩:=Aep g[y.toNat] (x : Int) hs.1.1 (by have:=hs.1.length_le; omega)
   have w:=JG (show i < 9223372036854775807 by omega)
   have hra : rowAt g y = g[y.toNat]:=by simp [rowAt,hgy]
   by_cases hin : (x : Int) ∈ g[y.toNat]
   ·refine .inl ⟨(),trivial,?_,?_⟩
    ·obtain ⟨_,rfl⟩:=List.getElem?_eq_some_iff.1 hy
     simp [KP,hi,Vs _ h0.1,hgy,hq,hin,w]
    ·simp [hra,hin]
   ·refine .inr ⟨.inr false,?_,?_⟩
    ·obtain ⟨_,rfl⟩:=List.getElem?_eq_some_iff.1 hy
     simp [KP,hi,Vs _ h0.1,hgy,hq,hin]
    ·simp [hra,hin]) () trivial
 refine ⟨_,this,?_⟩
 by_cases h : ∀ y ∈ row,(x : Int) ∈ rowAt g y
 ·exact .inl ⟨h,if_pos h⟩
 ·exact .inr ⟨h,if_neg h⟩
theorem AjJ (hn : (g.length : Int) = n) (hg : g.length ≤ 1000) (hr : ∀ (x : Nat) s,g[x]? = some s → Zq n x s) : ∃ b,JL (fun s=>KO g s) 0 = some b ∧ (b = true ↔ Xz g n):=by
 have key:=Yp (body:=fun s=>KO g s) (s:=0) (fun s=>∃ x : Nat,s = (x : Int) ∧ x ≤ g.length ∧ ∀ (k : Nat) s,k < x → g[k]? = some s → ∀ y ∈ s,(k : Int) ∈ rowAt g y)
  (fun b=>b = true ↔ Xz g n) (fun s=>g.length - s.toNat) ⟨0,rfl,Nat.zero_le _,fun k s hk=>absurd hk (Nat.not_lt_zero _)⟩ (fun s hI=>by
   obtain ⟨x,rfl,hx,hall⟩:=hI
   by_cases hlt : x < g.length
   ·have hgx : g[x]? = some g[x]:=List.getElem?_eq_getElem hlt
    obtain ⟨r,h1,⟨h2,rfl⟩ | ⟨h2,rfl⟩⟩:=AjK hn hg hr hgx
    ·refine .inl ⟨((x + 1 : Nat) : Int),?_,⟨x + 1,rfl,hlt,fun k s hk hks=>?_⟩,by omega⟩
     ·simp [KO,hlt,h1]
     ·by_cases hkx : k = x
      ·subst hkx; rw [hgx] at hks; cases hks; exact h2
      ·exact hall k s (by omega) hks
    ·refine .inr ⟨false,by simp [KO,hlt,h1],?_⟩
     constructor
     ·intro h; cases h
     ·intro h; exact (h2 (h.2.2 x _ hgx)).elim
   ·refine .inr ⟨true,by simp [KO,hlt],?_⟩
    constructor
    ·intro _; exact ⟨hn,hr,fun k s hks=>hall k s (by have:=(List.getElem?_eq_some_iff.1 hks).1; omega) hks⟩
    ·intro _; rfl)
 exact key
theorem Agu {s : List Int} (h : JR s) (hs : 0 < s.length) : (∀ y ∈ s,y < n) ↔ s[s.length - 1] < n:=by
 constructor
 ·intro h1; exact h1 _ (List.getElem_mem _)
 ·intro h1 y hy
  obtain ⟨k,hk⟩:=List.getElem?_of_mem hy
  obtain ⟨hkl,rfl⟩:=List.getElem?_eq_some_iff.1 hk
  by_cases e : k = s.length - 1
  ·subst e; exact h1
  ·have:=List.pairwise_iff_getElem.1 h.1 k (s.length - 1) hkl (by omega) (by omega)
   omega
theorem Aef (hg : g.length ≤ 1000) (hq : ∀ s ∈ g,s.length ≤ 9223372036854775807) : ∃ b,Le g n = some b ∧ (b = true ↔ Xz g n):=by
 unfold Le
 by_cases hn : (g.length : Int) = n
 ·simp only [hn,bne_self_eq_false,cond_false]
  refine Yp (body:=fun s=>JP g n s) (s:=0) (fun s=>∃ x : Nat,s = (x : Int) ∧ x ≤ g.length ∧ ∀ (k : Nat) s,k < x → g[k]? = some s → Zq n k s)
   (fun b=>b = true ↔ Xz g n) (fun s=>g.length - s.toNat) ⟨0,rfl,Nat.zero_le _,fun k s hk=>absurd hk (Nat.not_lt_zero _)⟩ (fun s hI=>?_)
  obtain ⟨x,rfl,hx,hall⟩:=hI
  by_cases hlt : x < g.length
  ·have hgx : g[x]? = some g[x]:=List.getElem?_eq_getElem hlt
   have hl:=hq _ (List.getElem_mem hlt)
   have w:=JG (show x < 9223372036854775807 by omega)
   have bad : ¬ Zq n x g[x] → JP g n x = some (.inr false) → (∃ r,JP g n x = some (.inr r) ∧ (r = true ↔ Xz g n)):=fun h1 h2=>⟨false,h2,fun h=>(by cases h),fun h=>(h1 (h.2.1 x _ hgx)).elim⟩
   have good : Zq n x g[x] → JP g n x = some (.inl ((x + 1 : Nat) : Int)) → (∃ s',JP g n x = some (.inl s') ∧ (∃ x : Nat,s' = (x : Int) ∧ x ≤ g.length ∧ ∀ (k : Nat) s,k < x → g[k]? = some s → Zq n k s) ∧ g.length - s'.toNat < g.length - ((x : Int)).toNat) :=
    fun h1 h2=>⟨_,h2,⟨x + 1,rfl,hlt,fun k s hk hks=>by
     by_cases hkx : k = x
     ·subst hkx; rw [hgx] at hks; cases hks; exact h1
     ·exact hall k s (by omega) hks⟩,by omega⟩
   by_cases hset : JR g[x]
   ·have hb : Rk none g[x] = true:=(AaF _).2 hset
    by_cases h0 : 0 < g[x].length
    ·have wl : IntKind.i64.wrap ((g[x].length : Int) - 1) = ((g[x].length - 1 : Nat) : Int):=by rw [wrap64 (by omega) (by omega)]; omega
     have hlast : g[x][g[x].length - 1]? = some (g[x][g[x].length - 1]'(by omega)):=List.getElem?_eq_getElem _
     by_cases hm : g[x][g[x].length - 1]'(by omega) < n
     ·have hall':=(Agu (n:=n) hset h0).2 hm
      by_cases hc : (x : Int) ∈ g[x]
      ·exact .inr (bad (fun h=>h.2.2 hc) (by simp [JP,hlt,TZ _ hl,hb,h0,wl,hlast,show ¬ n ≤ g[x][g[x].length - 1]'(by omega) by omega,contains_eq _ _ hl,hc]))
      ·exact .inl (good ⟨hset,hall',hc⟩ (by simp [JP,hlt,TZ _ hl,hb,h0,wl,hlast,show ¬ n ≤ g[x][g[x].length - 1]'(by omega) by omega,contains_eq _ _ hl,hc,w]))
     ·exact .inr (bad (fun h=>hm (h.2.1 _ (List.getElem_mem _))) (by simp [JP,hlt,TZ _ hl,hb,h0,wl,hlast,show n ≤ g[x][g[x].length - 1]'(by omega) by omega]))
    ·have hnil : g[x] = []:=List.eq_nil_of_length_eq_zero (by omega)
     exact .inl (good (by rw [hnil]; exact ⟨JR.nil,fun y hy=>(by cases hy),by simp⟩) (by simp [JP,hlt,hnil,TZ [] (by simp),Rk,contains_eq [] _ (by simp),w]))
   ·have hb : Rk none g[x] = false:=by
     cases h : Rk none g[x]
     ·rfl
     ·exact (hset ((AaF _).1 h)).elim
    exact .inr (bad (fun h=>hset h.1) (by simp [JP,hlt,TZ _ hl,hb]))
  ·right
   obtain ⟨b,h1,h2⟩:=AjJ hn hg (fun k s hks=>hall k s (by have:=(List.getElem?_eq_some_iff.1 hks).1; omega) hks)
   exact ⟨b,by simp [JP,hlt,h1],h2⟩
 ·refine ⟨false,by simp [hn],?_⟩
  constructor
  ·intro h; cases h
  ·intro h; exact (hn h.1).elim
end
end Go.Proofs.YtfpgidpffhmadaaDoor
namespace Go.Proofs.YtfpgidpffhmadaaDoor
open Go Go.Dw Go.Proofs
attribute [local simp] JQ Bool.cond_eq_ite
theorem AbB (a b : List Int) (ha : a.length ≤ 16777215) (hb : b.length ≤ 9223372036854775807) : OA a b = some (decide (∀ v ∈ a,v ∈ b)):=by
 unfold OA
 rw [Aeo a b ha hb,Option.bind_some]
 congr 1
 by_cases h : ∀ v ∈ a,v ∈ b
 ·have : (a.filter fun v=>!decide (v ∈ b)) = []:=by
   rw [List.filter_eq_nil_iff]; intro v hv; simp [h v hv]
  rw [this,decide_eq_true h]; rfl
 ·have : (a.filter fun v=>!decide (v ∈ b)) ≠ []:=by
   intro e
   rw [List.filter_eq_nil_iff] at e
   exact h fun v hv=>by simpa using e v hv
  have hl : (a.filter fun v=>!decide (v ∈ b)).length ≠ 0:=fun e=>this (List.length_eq_zero_iff.1 e)
  simp only [h,decide_false]
  simp only [beq_eq_false_iff_ne]
  omega
end Go.Proofs.YtfpgidpffhmadaaDoor
namespace Go.Proofs.YtfpgidpffhmadaaDoor
open Go Go.Dw Go.Proofs
theorem Adu {mv : Je → Int → Bool} {f : Jh} {l l' : List (List Int)} (h : ∀ (k : Nat) v,k < f.Code.length → v ∈ Jx l k → v ∈ Jx l' k) {a v : Int} (e : Ed mv f l a v) : Ed mv f l' a v:=by
 obtain ⟨j,hj,h1,h2,h3,h4,h5,h6⟩:=e
 exact ⟨j,hj,h1,h2,h3,h j v hj h4,h5,h6⟩
theorem AbV {f : Jh} {l : List (List Int)} {a v : Int} (e : Ed MJ f l a v) : Ed Mc f l a v:=by
 obtain ⟨j,hj,h1,h2,h3,h4,h5,_⟩:=e
 exact ⟨j,hj,h1,h2,h3,h4,h5,rfl⟩
theorem AjV {mv : Je → Int → Bool} {f : Jh} {l : List (List Int)} {a v : Int} (e : Ed mv f l a v) : v ≠ a:=by
 obtain ⟨j,hj,h1,h2,h3,h4,h5,_⟩:=e
 exact h5
theorem La.graph {mv : Je → Int → Bool} {f : Jh} {l : List (List Int)} {g : List (List Int)} (h : La f.Slots.length g fun a v=>Ed mv f l a v ∨ Ed mv f l v a) : Xz g f.Slots.length:=by
 obtain ⟨h0,h⟩:=h
 refine ⟨by rw [h0],fun x s hx=>⟨(h x s hx).1.1,(h x s hx).1.2,fun hm=>?_⟩,fun x s hx y hy=>?_⟩
 ·rcases ((h x s hx).2 _).1 hm with e | e <;> exact AjV e rfl
 ·have hr:=(h x s hx).1
  have y0:=(hr.1.2 y hy).1
  have y1:=hr.2 y hy
  have hgy : g[y.toNat]? = some (g[y.toNat]'(by omega)):=List.getElem?_eq_getElem _
  have : rowAt g y = g[y.toNat]'(by omega):=by simp [rowAt,hgy]
  rw [this,(h _ _ hgy).2]
  have e : ((y.toNat : Nat) : Int) = y:=Int.toNat_of_nonneg y0
  show Ed mv f l ((y.toNat : Nat) : Int) x ∨ Ed mv f l x ((y.toNat : Nat) : Int)
  rw [e]
  exact (((h x s hx).2 y).1 hy).symm
theorem Vt (codes : List Int) (hc : qL (MS .u8) codes) : Hs (KF codes) fun b=>b = true:=by
 unfold KF
 rw [Aeg]
 simp only [Option.bind_some,Bool.not_true,cond_false]
 refine (AdP codes hc).bind fun p ⟨hcok,⟨ps,i,hfo⟩,h1,h2⟩=>?_
 have hf:=hfo.AjB (by omega)
 have hd:=hfo.defs
 have hlen:=hf.len'
 have hsl:=hf.slots
 refine (Abp hf).bind fun l hl=>?_
 have hla:=hl.acc hf
 refine (Agd hcok hf).bind fun q ⟨_,hacc⟩=>?_
 have hle:=hl.least _ hacc.1 ((Ads hf hacc.1).1 hacc)
 have hmo : ∀ (k : Nat) v,k < p.1.Code.length → v ∈ Jx l.Out k → v ∈ Jx q.1.Out k:=by
  intro k v hk hv
  obtain ⟨o1,_⟩:=hl.ok.at (j:=(k : Int)) (by omega) (by omega)
  obtain ⟨q1,_⟩:=hacc.1.at (j:=(k : Int)) (by omega) (by omega)
  simp only [Int.toNat_natCast] at o1 q1
  exact hle k _ _ o1 q1 v hv
 refine (AbX hf hd (hla.1.len hf)).bind fun a ha=>(AbX hf hd (hacc.1.len hf)).bind fun b hb=>(AdJ hf hd (hla.1.len hf)).bind fun s hs=>?_
 rcases ha with ⟨a0,_,ha⟩ | ⟨_,hn,_⟩
 rotate_left
 ·exact (hn hla).elim
 rcases hb with ⟨b0,_,hb⟩ | ⟨_,hn,_⟩
 rotate_left
 ·exact (hn hacc).elim
 rcases hs with ⟨s0,_,hs⟩ | ⟨_,hn,_⟩
 rotate_left
 ·exact (hn hla).elim
 have chk : ∀ {mv : Je → Int → Bool} {l g : List (List Int)},La p.1.Slots.length g (fun a v=>Ed mv p.1 l a v ∨ Ed mv p.1 l v a) → Le g (p.1.Slots.length : Int) = some true:=by
  intro mv l g hg
  obtain ⟨r,r1,r2⟩:=Aef (g:=g) (n:=(p.1.Slots.length : Int)) (by have:=hg.1; omega) (fun s hs=>by
   obtain ⟨j,hj⟩:=List.getElem?_of_mem hs
   have:=(hg.2 j s hj).1.1.length_le
   omega)
  rw [r1,r2.2 hg.graph]
 refine .bne (fun h=>(h a0).elim) fun _=>.bne (fun h=>(h b0).elim) fun _=>.bne (fun h=>(h s0).elim) fun _=>?_
 rw [chk ha,chk hb,chk hs]
 simp only [Option.bind_some,Bool.not_true,cond_false]
 refine .bne (fun h=>(h (by rw [ha.1])).elim) fun _=>.bne (fun h=>(h (by rw [hb.1])).elim) fun _=>.bne (fun h=>(h (by rw [hs.1])).elim) fun _=>?_
 unfold LB
 refine Hs.loop (fun i=>∃ k : Nat,i = (k : Int) ∧ k ≤ p.1.Slots.length) (fun i=>p.1.Slots.length - i.toNat) ⟨0,rfl,by omega⟩ ?_
 rintro _ ⟨k,rfl,hk⟩
 unfold LA
 refine .dec (fun hlt=>?_) fun _=>.lft (.pure rfl)
 have hlt : k < p.1.Slots.length:=by omega
 have e1 : a.1[k]? = some (a.1[k]'(by have:=ha.1; omega)):=List.getElem?_eq_getElem _
 have e2 : b.1[k]? = some (b.1[k]'(by have:=hb.1; omega)):=List.getElem?_eq_getElem _
 have e3 : s.1[k]? = some (s.1[k]'(by have:=hs.1; omega)):=List.getElem?_eq_getElem _
 generalize a.1[k]'(by have:=ha.1; omega) = ra at e1
 generalize b.1[k]'(by have:=hb.1; omega) = rb at e2
 generalize s.1[k]'(by have:=hs.1; omega) = rs at e3
 have q1:=ha.2 k ra e1
 have q2:=hb.2 k rb e2
 have q3:=hs.2 k rs e3
 have w1 : ∀ x ∈ ra,x ∈ rb:=fun x hx=>(q2.2 x).2 (((q1.2 x).1 hx).imp (Adu hmo) (Adu hmo))
 have w2 : ∀ x ∈ ra,x ∈ rs:=fun x hx=>(q3.2 x).2 (((q1.2 x).1 hx).imp AbV AbV)
 have l1:=q1.1.1.length_le
 have l2:=q2.1.1.length_le
 have l3:=q3.1.1.length_le
 simp only [Pa,e1,e2,e3,Option.bind_some]
 rw [AbB _ _ (by omega) (by omega),decide_eq_true w1,Option.bind_some,Bool.not_true,cond_false,AbB _ _ (by omega) (by omega),decide_eq_true w2,Option.bind_some,Bool.not_true,cond_false,JG (by omega)]
 exact .cnt ⟨⟨k + 1,rfl,hlt⟩,by simp only; omega⟩
theorem UH (codes : List Int) (hc : qL (MS .u8) codes) : KF codes = some true:=by
 obtain ⟨r,h,rfl⟩:=Vt codes hc
 exact h
end Go.Proofs.YtfpgidpffhmadaaDoor
