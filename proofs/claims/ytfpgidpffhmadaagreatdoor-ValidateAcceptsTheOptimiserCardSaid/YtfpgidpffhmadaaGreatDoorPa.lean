/-
  Plain laws about the typed programs.
-/
import Derived.Test.YtfpgidpffhmadaaGreatDoorDc
import Derived.Test.YtfpgidpffhmadaaGreatDoorDxP
namespace Go.Dw
section
variable {ι R α : Type} {body : ι → Option (ι ⊕ R)} {v : R}
theorem Pg {α β : Type} (s : List α) (mk : β → Int → ι) (I : β → Nat → Prop) (F : β → List α → Option R)
  (hnil : ∀ acc,I acc s.length → ∃ v,body (mk acc s.length) = some (.inr v) ∧ F acc [] = some v)
  (hcons : ∀ acc (i : Nat) x r,I acc i → s.drop i = x :: r → i < s.length → s[i]? = some x →
   (∃ acc',I acc' (i + 1) ∧ body (mk acc i) = some (.inl (mk acc' ((i + 1 : Nat) : Int))) ∧ F acc (x :: r) = F acc' r) ∨ (∃ v,body (mk acc i) = some (.inr v) ∧ F acc (x :: r) = some v))
  (acc : β) (h0 : I acc 0) : MD body (mk acc 0) = F acc s:=by
 have : ∀ k i acc,i + k = s.length → I acc i → MD body (mk acc (i : Nat)) = F acc (s.drop i):=by
  intro k
  induction k with
  | zero =>
   intro i acc hi hI
   simp only [Nat.add_zero] at hi
   subst hi
   obtain ⟨v,h1,h2⟩:=hnil acc hI
   rw [Abr,h1,List.drop_length,h2]
  | succ k ih =>
   intro i acc hi hI
   have hl : i < s.length:=by omega
   have hd:=List.drop_eq_getElem_cons hl
   rw [hd]
   rcases hcons acc i _ _ hI hd hl (List.getElem?_eq_getElem hl) with ⟨acc',h1,h2,h3⟩ | ⟨v,h1,h2⟩
   ·rw [Abr,h2,h3]
    exact ih (i + 1) acc' (by omega) h1
   ·rw [Abr,h1,h2]
 have:=this s.length 0 acc (by omega) h0
 simpa using this
@[simp] theorem Of (l : List α) (i : Nat) : ixO l (i : Int) = l[i]?:=by
 unfold ixO
 rw [if_neg (by omega)]
 simp
theorem SU (l : List α) {i : Int} (h : 0 ≤ i) : ixO l i = l[i.toNat]?:=by
 unfold ixO
 rw [if_neg (by omega)]
@[simp] theorem Amk (l : List α) (i : Nat) : ixO l ((i : Int) + 1) = l[i + 1]?:=by
 have:=Of l (i + 1)
 simpa using this
@[simp] theorem Aid (l : List α) : ixO l 0 = l[0]?:=SU l (Int.le_refl 0)
theorem wrap64 {n : Int} (h0 : -9223372036854775808 ≤ n) (h1 : n ≤ 9223372036854775807) : IntKind.i64.wrap n = n:=AiS h0 h1
@[simp] theorem Ams : IntKind.i64.wrap 0 = 0:=by decide
@[simp] theorem Amt : IntKind.i64.wrap 1 = 1:=by decide
@[simp] theorem Amu : IntKind.i64.wrap 2 = 2:=by decide
@[simp] theorem Amv : IntKind.i64.wrap 3 = 3:=by decide
theorem Mx {i : Nat} (h : i < 9223372036854775807) : IntKind.i64.wrap ((i : Int) + 1) = ((i + 1 : Nat) : Int):=by
 rw [wrap64 (by omega) (by omega)]; rfl
@[simp] theorem Amm (r : R) : (lft (some r) : Option (ι ⊕ R)) = some (.inr r):=rfl
@[simp] theorem Aml : (lft none : Option (ι ⊕ R)) = none:=rfl
@[simp] theorem AiA (s : ι) : (cnt s : Option (ι ⊕ R)) = some (.inl s):=rfl
theorem AiE (a b : Int) : On a b = min a b:=by unfold On; split <;> omega
end
end Go.Dw
namespace Go.Dw
open Go
def Hs {α : Type} (m : Option α) (P : α → Prop) : Prop:=∃ r,m = some r ∧ P r
section
variable {α β ι R : Type}
theorem Hs.pure {a : α} {P : α → Prop} (h : P a) : Hs (some a) P:=⟨a,rfl,h⟩
theorem Hs.bind {m : Option α} {f : α → Option β} {P : α → Prop} {Q : β → Prop} (h : Hs m P) (hf : ∀ r,P r → Hs (f r) Q) : Hs (m.bind f) Q:=by
 obtain ⟨r,rfl,hr⟩:=h
 exact hf r hr
theorem Hs.mono {m : Option α} {P Q : α → Prop} (h : Hs m P) (hf : ∀ r,P r → Q r) : Hs m Q:=by
 obtain ⟨r,h1,hr⟩:=h
 exact ⟨r,h1,hf r hr⟩
theorem Hs.chk {p : Prop} [Decidable p] {m : Option α} {P : α → Prop} (hp : p) (h : Hs m P) : Hs (chk p m) P:=by
 rw [Nj hp]; exact h
theorem Hs.cond {b : Bool} {x y : Option α} {P : α → Prop} (h1 : b = true → Hs x P) (h2 : b = false → Hs y P) : Hs (bif b then x else y) P:=by
 cases b
 ·exact h2 rfl
 ·exact h1 rfl
theorem Hs.dec {p : Prop} [Decidable p] {x y : Option α} {P : α → Prop} (h1 : p → Hs x P) (h2 : ¬ p → Hs y P) : Hs (bif decide p then x else y) P :=
 Hs.cond (fun h=>h1 (of_decide_eq_true h)) (fun h=>h2 (of_decide_eq_false h))
theorem Hs.beq {a b : Int} {x y : Option α} {P : α → Prop} (h1 : a = b → Hs x P) (h2 : a ≠ b → Hs y P) : Hs (bif a == b then x else y) P :=
 Hs.cond (fun h=>h1 (by simpa using h)) (fun h=>h2 (by simpa using h))
theorem Hs.bne {a b : Int} {x y : Option α} {P : α → Prop} (h1 : a ≠ b → Hs x P) (h2 : a = b → Hs y P) : Hs (bif a != b then x else y) P :=
 Hs.cond (fun h=>h1 (by simpa using h)) (fun h=>h2 (by simpa using h))
theorem Hs.cnt {s : ι} {P : ι ⊕ R → Prop} (h : P (.inl s)) : Hs (Go.Dw.cnt s) P:=⟨_,rfl,h⟩
theorem Hs.lft {m : Option R} {P : ι ⊕ R → Prop} (h : Hs m fun r=>P (.inr r)) : Hs (Go.Dw.lft m) P:=by
 obtain ⟨r,rfl,h⟩:=h
 exact ⟨_,rfl,h⟩
def Rnd (I : ι → Prop) (μ : ι → Nat) (s : ι) (Q : R → Prop) : ι ⊕ R → Prop
 | .inl s'=>I s' ∧ μ s' < μ s
 | .inr r=>Q r
theorem Hs.loop {body : ι → Option (ι ⊕ R)} {s : ι} {Q : R → Prop} (I : ι → Prop) (μ : ι → Nat) (h0 : I s) (hb : ∀ s,I s → Hs (body s) (Rnd I μ s Q)) : Hs (MD body s) Q:=by
 refine AfY I Q μ h0 fun s hs=>?_
 obtain ⟨z,hz,hq⟩:=hb s hs
 cases z with
 | inl s'=>exact .inl ⟨s',hz,hq⟩
 | inr r=>exact .inr ⟨r,hz,hq⟩
theorem Hs.get {l : List α} {i : Int} {P : α → Prop} (h0 : 0 ≤ i) (h1 : i < l.length) (h : ∀ x,l[i.toNat]? = some x → P x) : Hs (l[i.toNat]?) P:=by
 have : l[i.toNat]? = some (l[i.toNat]'(by omega)):=List.getElem?_eq_getElem _
 exact ⟨_,this,h _ this⟩
theorem Hs.ix {l : List α} {i : Int} {P : α → Prop} (h0 : 0 ≤ i) (h1 : i < l.length) (h : ∀ x,l[i.toNat]? = some x → P x) : Hs (ixO l i) P:=by
 rw [SU _ h0]; exact Hs.get h0 h1 h
end
theorem AcZ (n : Int) : 0 ≤ IntKind.u64.wrap n ∧ IntKind.u64.wrap n < 18446744073709551616:=by
 simp [IntKind.wrap,IntKind.signed,IntKind.bits]; omega
end Go.Dw
namespace Go.Proofs.YtfpgidpffhmadaaGreatDoor
open Go Go.Dw Go.Proofs
attribute [local simp] Nj Bool.cond_eq_ite
theorem Aed (n : Int) : Qo n = some (decide (0 ≤ n ∧ n < 512)):=by
 unfold Qo
 by_cases h : 0 ≤ n <;> simp [h]
theorem Acs {n : Int} (h : 0 ≤ n ∧ n < 512) : Qo n = some true:=by rw [Aed,decide_eq_true h]
theorem AfV {n : Int} (h : ¬ (0 ≤ n ∧ n < 512)) : Qo n = some false:=by rw [Aed,decide_eq_false h]
theorem AdM (s : List Int) (n : Int) (hs : s.length ≤ 9223372036854775807) : Sl s n = some (decide (n ∈ s)):=by
 unfold Sl
 refine Pg s (fun (_ : Unit) i=>i) (fun _ _=>True) (fun _ l=>some (decide (n ∈ l))) (fun _ _=>⟨_,by simp [RY],rfl⟩) (fun _ i x r _ hd hi hx=>?_) () trivial
 have w:=Mx (show i < 9223372036854775807 by omega)
 by_cases h : x = n
 ·exact .inr ⟨true,by simp [RY,hi,(List.getElem?_eq_some_iff.1 hx).2,h],by simp [h]⟩
 ·refine .inl ⟨(),trivial,?_,?_⟩
  ·obtain ⟨_,rfl⟩:=List.getElem?_eq_some_iff.1 hx
   simp [RY,hi,h,w]
  ·have : n ≠ x:=fun e=>h e.symm
   simp [this]
def QX (n : Int) : List Int → List Int
 | []=>[n]
 | x :: r=>if x < n then x :: QX n r else if x = n then x :: r else n :: x :: r
theorem Adq (n : Int) : ∀ s,(QX n s).length ≤ s.length + 1
 | []=>by simp [QX]
 | x :: r=>by
  have:=Adq n r
  simp only [QX]
  split
  ·simp; omega
  ·split <;> simp
def OR (n : Int) (s : List Int) : List Int:=if 0 ≤ n ∧ n < 512 then QX n s else s
theorem add_eq (s : List Int) (n : Int) (hs : s.length ≤ 1000000) : Qr s n = some (OR n s):=by
 unfold Qr OR
 rw [Aed]
 simp only [Option.bind_some]
 have key : ∀ d : Bool,MD (fun s_1 : List Int × Bool × Int=>NY s n s_1.1 s_1.2.1 s_1.2.2) ([],d,0) = some (if d then s else QX n s):=by
  intro d
  have:=Pg (body:=fun s_1 : List Int × Bool × Int=>NY s n s_1.1 s_1.2.1 s_1.2.2) s (fun (p : List Int × Bool) i=>(p.1,p.2,i)) (fun p i=>p.1.length ≤ i + (if p.2 then 1 else 0)) (fun p l=>some (p.1 ++ (if p.2 then l else QX n l)))
   (fun p hp=>by
    obtain ⟨out,done⟩:=p
    cases done <;> simp only [if_true,Bool.false_eq_true,if_false] at hp
    ·exact ⟨out ++ [n],by simp [NY,show out.length ≤ 16777215 by omega],by simp [QX]⟩
    ·exact ⟨out,by simp [NY],by simp⟩)
   (fun p i x r hp hd hi hx=>by
    obtain ⟨out,done⟩:=p
    have w:=Mx (show i < 9223372036854775807 by omega)
    obtain ⟨_,rfl⟩:=List.getElem?_eq_some_iff.1 hx
    left
    cases done <;> simp only [if_true,Bool.false_eq_true,if_false] at hp
    ·by_cases h1 : n ≤ s[i]
     ·by_cases h2 : n < s[i]
      ·refine ⟨(out ++ [n] ++ [s[i]],true),by simp; omega,?_,?_⟩
       ·simp [NY,PJ,OX,hi,h1,h2,w,show out.length ≤ 16777215 by omega,show out.length ≤ 16777214 by omega]
       ·simp [QX,show ¬ s[i] < n by omega,show ¬ s[i] = n by omega]
      ·refine ⟨(out ++ [s[i]],true),by simp; omega,?_,?_⟩
       ·simp [NY,PJ,OX,hi,h1,h2,w,show out.length ≤ 16777215 by omega]
       ·simp [QX,show ¬ s[i] < n by omega,show s[i] = n by omega]
     ·refine ⟨(out ++ [s[i]],false),by simp; omega,?_,?_⟩
      ·simp [NY,PJ,OX,hi,h1,w,show out.length ≤ 16777215 by omega]
      ·simp [QX,show s[i] < n by omega]
    ·refine ⟨(out ++ [s[i]],true),by simp; omega,?_,?_⟩
     ·simp [NY,PJ,OX,hi,w,show out.length ≤ 16777215 by omega]
     ·simp)
   ([],d) (by simp)
  simpa using this
 rw [key]
 by_cases h : 0 ≤ n ∧ n < 512 <;> simp [h]
def QA : Option Int → List Int → Bool
 | _,[]=>true
 | p,x :: r=>decide (0 ≤ x ∧ x < 512) && (match p with | none=>true | some y=>decide (y < x)) && QA (some x) r
theorem AgF (s : List Int) (hs : s.length ≤ 9223372036854775807) : SW s = some (QA none s):=by
 unfold SW
 refine Pg s (fun (_ : Option Int) i=>i) (fun p i=>match i with | 0=>p = none | k + 1=>s[k]? = p ∧ p ≠ none) (fun p l=>some (QA p l)) (fun _ _=>⟨true,by simp [OH],by simp [QA]⟩) (fun p i x r hp hd hi hx=>?_) none rfl
 have w:=Mx (show i < 9223372036854775807 by omega)
 obtain ⟨_,rfl⟩:=List.getElem?_eq_some_iff.1 hx
 by_cases hg : 0 ≤ s[i] ∧ s[i] < 512
 ·cases i with
  | zero =>
   simp only at hp
   subst hp
   exact .inl ⟨some s[0],⟨hx,by simp⟩,by simp [OH,hi,Acs hg],by simp [QA,hg]⟩
  | succ k =>
   obtain ⟨hp,hpn⟩:=hp
   have hk : k < s.length:=by omega
   rw [List.getElem?_eq_getElem hk] at hp
   subst hp
   have w : IntKind.i64.wrap ((k : Int) + 1 + 1) = (k : Int) + 1 + 1:=wrap64 (by omega) (by omega)
   have wp : IntKind.i64.wrap (k : Int) = k:=wrap64 (by omega) (by omega)
   have e0 : (k : Int) + 1 - 1 = k:=by omega
   by_cases hlt : s[k] < s[k + 1]
   ·exact .inl ⟨some s[k + 1],⟨hx,by simp⟩,by simp [OH,hi,Acs hg,w,wp,e0,hk,show ¬ s[k + 1] ≤ s[k] by omega,show (0 : Int) < k + 1 by omega,show (k : Int) + 1 < s.length by omega],by simp [QA,hg,hlt]⟩
   ·exact .inr ⟨false,by simp [OH,hi,Acs hg,w,wp,e0,hk,show s[k + 1] ≤ s[k] by omega,show (0 : Int) < k + 1 by omega,show (k : Int) + 1 < s.length by omega],by simp [QA,hlt]⟩
 ·exact .inr ⟨false,by simp [OH,hi,AfV hg],by simp [QA,hg]⟩
def MP (s : List Int) : Prop:=s.Pairwise (· < ·) ∧ ∀ x ∈ s,0 ≤ x ∧ x < 512
theorem AeT : ∀ (p : Option Int) (s : List Int),QA p s = true ↔ MP s ∧ ∀ y,p = some y → ∀ x ∈ s,y < x
 | p,[]=>by simp [QA,MP]
 | p,x :: r=>by
  simp only [QA,Bool.and_eq_true,AeT (some x) r,decide_eq_true_eq,MP,List.pairwise_cons,List.mem_cons,forall_eq_or_imp,Option.some.injEq]
  constructor
  ·rintro ⟨⟨h1,h2⟩,⟨h3,h4⟩,h5⟩
   have h5':=h5 x rfl
   refine ⟨⟨⟨h5',h3⟩,h1,h4⟩,fun y hy=>?_⟩
   subst hy
   simp only [decide_eq_true_eq] at h2
   exact ⟨h2,fun z hz=>Int.lt_trans h2 (h5' z hz)⟩
  ·rintro ⟨⟨⟨h1,h2⟩,h3,h4⟩,h5⟩
   refine ⟨⟨h3,?_⟩,⟨h2,h4⟩,fun y hy z hz=>by subst hy; exact h1 z hz⟩
   cases p with
   | none=>rfl
   | some y=>simpa using (h5 y rfl).1
theorem AcV (s : List Int) : QA none s = true ↔ MP s:=by
 rw [AeT]; simp
theorem MP.length_le {s : List Int} (h : MP s) : s.length ≤ 512:=by
 have : ∀ (s : List Int) (a : Int),s.Pairwise (· < ·) → (∀ x ∈ s,a ≤ x ∧ x < 512) → a ≤ 512 → (s.length : Int) ≤ 512 - a:=by
  intro s
  induction s with
  | nil=>intro a _ _ ha; simp; omega
  | cons x r ih =>
   intro a hp hb ha
   rw [List.pairwise_cons] at hp
   have hx:=hb x (by simp)
   have:=ih (x + 1) hp.2 (fun y hy=>⟨by have:=hp.1 y hy; omega,(hb y (by simp [hy])).2⟩) (by omega)
   simp only [List.length_cons]
   omega
 have:=this s 0 h.1 h.2 (by omega)
 omega
theorem Xo (n m : Int) : ∀ s,m ∈ QX n s ↔ m = n ∨ m ∈ s
 | []=>by simp [QX]
 | x :: r=>by
  simp only [QX]
  split
  ·simp only [List.mem_cons,Xo n m r]
   constructor
   ·rintro (h | h | h) <;> simp [h]
   ·rintro (h | h | h) <;> simp [h]
  ·split
   ·rename_i h; subst h; simp
   ·simp
theorem MP.QX {n : Int} {s : List Int} (h : MP s) (hn : 0 ≤ n ∧ n < 512) : MP (Proofs.YtfpgidpffhmadaaGreatDoor.QX n s):=by
 refine ⟨?_,fun x hx=>?_⟩
 ·replace h:=h.1
  clear hn
  induction s with
  | nil=>simp [Proofs.YtfpgidpffhmadaaGreatDoor.QX]
  | cons x r ih =>
   rw [List.pairwise_cons] at h
   simp only [Proofs.YtfpgidpffhmadaaGreatDoor.QX]
   split
   ·rw [List.pairwise_cons]
    refine ⟨fun y hy=>?_,ih h.2⟩
    rw [Xo] at hy
    rcases hy with rfl | hy
    ·assumption
    ·exact h.1 y hy
   ·split
    ·rw [List.pairwise_cons]; exact h
    ·rw [List.pairwise_cons,List.pairwise_cons]
     refine ⟨fun y hy=>?_,h⟩
     rcases List.mem_cons.1 hy with rfl | hy
     ·omega
     ·have:=h.1 y hy; omega
 ·rw [Xo] at hx
  rcases hx with rfl | hx
  ·exact hn
  ·exact h.2 x hx
theorem MP.nil : MP []:=⟨List.Pairwise.nil,fun x hx=>by cases hx⟩
end Go.Proofs.YtfpgidpffhmadaaGreatDoor
namespace Go.Proofs.YtfpgidpffhmadaaGreatDoor
open Go Go.Dw Go.Proofs
attribute [local simp] Nj Bool.cond_eq_ite
theorem AcS (n : Int) : Nw n = some (decide (0 ≤ n ∧ n < 512)):=by
 unfold Nw
 by_cases h : 0 ≤ n <;> simp [h]
theorem AaR {n : Int} (h : 0 ≤ n ∧ n < 512) : Nw n = some true:=by rw [AcS,decide_eq_true h]
theorem Afw {n : Int} (h : ¬ (0 ≤ n ∧ n < 512)) : Nw n = some false:=by rw [AcS,decide_eq_false h]
theorem Agf (s : List Int) (hs : s.length ≤ 9223372036854775807) : RN s = some (QA none s):=by
 unfold RN
 refine Pg s (fun (_ : Option Int) i=>i) (fun p i=>match i with | 0=>p = none | k + 1=>s[k]? = p ∧ p ≠ none) (fun p l=>some (QA p l)) (fun _ _=>⟨true,by simp [Oh],by simp [QA]⟩) (fun p i x r hp hd hi hx=>?_) none rfl
 have w:=Mx (show i < 9223372036854775807 by omega)
 obtain ⟨_,rfl⟩:=List.getElem?_eq_some_iff.1 hx
 by_cases hg : 0 ≤ s[i] ∧ s[i] < 512
 ·cases i with
  | zero =>
   simp only at hp
   subst hp
   exact .inl ⟨some s[0],⟨hx,by simp⟩,by simp [Oh,hi,AaR hg],by simp [QA,hg]⟩
  | succ k =>
   obtain ⟨hp,hpn⟩:=hp
   have hk : k < s.length:=by omega
   rw [List.getElem?_eq_getElem hk] at hp
   subst hp
   have w : IntKind.i64.wrap ((k : Int) + 1 + 1) = (k : Int) + 1 + 1:=wrap64 (by omega) (by omega)
   have wp : IntKind.i64.wrap (k : Int) = k:=wrap64 (by omega) (by omega)
   have e0 : (k : Int) + 1 - 1 = k:=by omega
   by_cases hlt : s[k] < s[k + 1]
   ·exact .inl ⟨some s[k + 1],⟨hx,by simp⟩,by simp [Oh,hi,AaR hg,w,wp,e0,hk,show ¬ s[k + 1] ≤ s[k] by omega,show (0 : Int) < k + 1 by omega,show (k : Int) + 1 < s.length by omega],by simp [QA,hg,hlt]⟩
   ·exact .inr ⟨false,by simp [Oh,hi,AaR hg,w,wp,e0,hk,show s[k + 1] ≤ s[k] by omega,show (0 : Int) < k + 1 by omega,show (k : Int) + 1 < s.length by omega],by simp [QA,hlt]⟩
 ·exact .inr ⟨false,by simp [Oh,hi,Afw hg],by simp [QA,hg]⟩
end Go.Proofs.YtfpgidpffhmadaaGreatDoor
namespace Go.Proofs.YtfpgidpffhmadaaGreatDoor
open Go Go.Dw Go.Proofs
attribute [local simp] Nj Bool.cond_eq_ite
theorem AiJ (a b : List Int) (h : a.length ≤ 9223372036854775807) : Up a b = some (decide (a = b)):=by
 unfold Up
 by_cases hl : a.length = b.length
 ·have:=Pg (body:=fun i : Int=>Qb a b i) a (fun (_ : List Int) i=>i) (fun acc i=>b.drop i = acc) (fun acc l=>some (decide (l = acc)))
   (fun acc hacc=>⟨true,by simp [Qb],by rw [hl] at hacc; simp at hacc; simp [← hacc]⟩) (fun acc i x r hacc hd hi hx=>by
    have w:=Mx (show i < 9223372036854775807 by omega)
    obtain ⟨_,rfl⟩:=List.getElem?_eq_some_iff.1 hx
    have hib : i < b.length:=by omega
    have hdb:=List.drop_eq_getElem_cons hib
    by_cases e : a[i] = b[i]
    ·exact .inl ⟨b.drop (i + 1),rfl,by simp [Qb,hi,hib,e,w],by rw [← hacc,hdb]; simp only [List.cons.injEq,e,true_and]⟩
    ·exact .inr ⟨false,by simp [Qb,hi,hib,e],by rw [← hacc,hdb]; simp only [List.cons.injEq,e,false_and,decide_false]⟩)
   b (by simp)
  simpa [hl] using this
 ·have : ¬ a = b:=fun e=>hl (by rw [e])
  simp [this,show ¬ (a.length : Int) = b.length by omega]
end Go.Proofs.YtfpgidpffhmadaaGreatDoor
namespace Go.Proofs.YtfpgidpffhmadaaGreatDoor
open Go Go.Dw Go.Proofs
attribute [local simp] Nj Bool.cond_eq_ite
theorem AfX (a b : List (List Int)) (h : a.length ≤ 9223372036854775807) (hr : ∀ s ∈ a,s.length ≤ 9223372036854775807) : Rb a b = some (decide (a = b)):=by
 unfold Rb
 by_cases hl : a.length = b.length
 ·have:=Pg (body:=fun i : Int=>Oy a b i) a (fun (_ : List (List Int)) i=>i) (fun acc i=>b.drop i = acc) (fun acc l=>some (decide (l = acc)))
   (fun acc hacc=>⟨true,by simp [Oy],by rw [hl] at hacc; simp at hacc; simp [← hacc]⟩) (fun acc i x r hacc hd hi hx=>by
    have w:=Mx (show i < 9223372036854775807 by omega)
    obtain ⟨_,rfl⟩:=List.getElem?_eq_some_iff.1 hx
    have hib : i < b.length:=by omega
    have hdb:=List.drop_eq_getElem_cons hib
    have hs:=AiJ a[i] b[i] (hr _ (List.getElem_mem _))
    by_cases e : a[i] = b[i]
    ·refine .inl ⟨b.drop (i + 1),rfl,?_,by rw [← hacc,hdb]; simp only [List.cons.injEq,e,true_and]⟩
     rw [decide_eq_true e] at hs
     simp [Oy,hi,hib,hs,w]
    ·refine .inr ⟨false,?_,by rw [← hacc,hdb]; simp only [List.cons.injEq,e,false_and,decide_false]⟩
     rw [decide_eq_false e] at hs
     simp [Oy,hi,hib,hs])
   b (by simp)
  simpa [hl] using this
 ·have : ¬ a = b:=fun e=>hl (by rw [e])
  simp [this,show ¬ (a.length : Int) = b.length by omega]
end Go.Proofs.YtfpgidpffhmadaaGreatDoor
namespace Go.Proofs.YtfpgidpffhmadaaGreatDoor
open Go Go.Dw Go.Proofs
attribute [local simp] Nj Bool.cond_eq_ite
theorem Agr (s : List Int) (n : Int) (hs : s.length ≤ 16777215) : RZ s n = some (s.filter (· != n)):=by
 unfold RZ
 have:=Pg (body:=fun p : List Int × Int=>OY s n p.1 p.2) s (fun (out : List Int) i=>(out,i)) (fun out i=>out.length ≤ i) (fun out l=>some (out ++ l.filter (· != n)))
  (fun out _=>⟨out,by simp [OY],by simp⟩) (fun out i x r ho hd hi hx=>by
   have w:=Mx (show i < 9223372036854775807 by omega)
   obtain ⟨_,rfl⟩:=List.getElem?_eq_some_iff.1 hx
   left
   by_cases h : s[i] = n
   ·exact ⟨out,by omega,by simp [OY,hi,h,w],by simp [h]⟩
   ·exact ⟨out ++ [s[i]],by simp; omega,by simp [OY,hi,h,w,show out.length ≤ 16777215 by omega],by simp [h]⟩)
  [] (by simp)
 simpa using this
def NN (a b : List Int) : List Int:=b.foldl (fun o x=>OR x o) a
theorem Afx (n : Int) (s : List Int) : (OR n s).length ≤ s.length + 1:=by
 unfold OR
 split
 ·exact Adq n s
 ·omega
theorem union_eq (a b : List Int) (h : a.length + b.length ≤ 1000000) : PE a b = some (NN a b):=by
 unfold PE NN
 rw [Nj (by simp; omega)]
 have:=Pg (body:=fun p : List Int × Int=>Qw b p.1 p.2) b (fun (out : List Int) i=>(out,i)) (fun out i=>out.length ≤ a.length + i) (fun out l=>some (l.foldl (fun o x=>OR x o) out))
  (fun out _=>⟨out,by simp [Qw],by simp⟩) (fun out i x r ho hd hi hx=>by
   have w:=Mx (show i < 9223372036854775807 by omega)
   obtain ⟨_,rfl⟩:=List.getElem?_eq_some_iff.1 hx
   have hl:=Afx b[i] out
   left
   exact ⟨OR b[i] out,by omega,by simp [Qw,hi,add_eq out b[i] (by omega),w],by simp⟩)
  a (by simp)
 simpa using this
theorem AdZ : ∀ {a b : List Int},a.Pairwise (· < ·) → b.Pairwise (· < ·) → (∀ v ∈ a,v ∈ b) → a.Sublist b
 | [],_,_,_,_=>List.nil_sublist _
 | x :: a,[],_,_,h=>by have:=h x (List.mem_cons_self ..); cases this
 | x :: a,y :: b,ha,hb,h=>by
  rw [List.pairwise_cons] at ha hb
  by_cases e : x = y
  ·subst e
   refine (AdZ ha.2 hb.2 fun v hv=>?_).cons_cons x
   rcases List.mem_cons.1 (h v (List.mem_cons_of_mem _ hv)) with h1 | h1
   ·have:=ha.1 v hv; omega
   ·exact h1
  ·have hx : x ∈ b:=by
    rcases List.mem_cons.1 (h x (List.mem_cons_self ..)) with h1 | h1
    ·exact (e h1).elim
    ·exact h1
   have hyx:=hb.1 x hx
   refine (AdZ (List.pairwise_cons.2 ha) hb.2 fun v hv=>?_).cons y
   rcases List.mem_cons.1 (h v hv) with h1 | h1
   ·subst h1
    rcases List.mem_cons.1 hv with h2 | h2
    ·omega
    ·have:=ha.1 v h2; omega
   ·exact h1
theorem MP.sub {a b : List Int} (ha : MP a) (hb : MP b) (h : ∀ v ∈ a,v ∈ b) : a.Sublist b:=AdZ ha.1 hb.1 h
theorem MP.ext {a b : List Int} (ha : MP a) (hb : MP b) (h : ∀ v,v ∈ a ↔ v ∈ b) : a = b :=
 (ha.sub hb fun v hv=>(h v).1 hv).eq_of_length_le (hb.sub ha fun v hv=>(h v).2 hv).length_le
theorem MP.filter {a : List Int} (ha : MP a) (p : Int → Bool) : MP (a.filter p) :=
 ⟨ha.1.sublist List.filter_sublist,fun x hx=>ha.2 x ((List.mem_filter.1 hx).1)⟩
theorem MJ.AfS {n m : Int} {s : List Int} (h : MP s ∧ ∀ x ∈ s,x < n) (hm : 0 ≤ m ∧ m < n) (hn : n ≤ 512) : MP (OR m s) ∧ (∀ x ∈ OR m s,x < n) ∧ ∀ v,v ∈ OR m s ↔ v = m ∨ v ∈ s:=by
 unfold OR
 rw [if_pos (by omega)]
 refine ⟨h.1.QX (by omega),fun x hx=>?_,fun v=>Xo _ _ _⟩
 rw [Xo] at hx
 rcases hx with rfl | hx
 ·exact hm.2
 ·exact h.2 x hx
theorem SN {n : Int} (hn : n ≤ 512) : ∀ {b a : List Int},(MP a ∧ ∀ x ∈ a,x < n) → (∀ x ∈ b,0 ≤ x ∧ x < n) → (MP (NN a b) ∧ ∀ x ∈ NN a b,x < n) ∧ ∀ v,v ∈ NN a b ↔ v ∈ a ∨ v ∈ b
 | [],a,ha,_=>⟨ha,fun v=>by simp [NN]⟩
 | x :: b,a,ha,hb=>by
  obtain ⟨h1,h2,h3⟩:=MJ.AfS ha (hb x (List.mem_cons_self ..)) hn
  obtain ⟨h4,h5⟩:=SN hn ⟨h1,h2⟩ fun y hy=>hb y (List.mem_cons_of_mem _ hy)
  refine ⟨h4,fun v=>?_⟩
  show v ∈ NN (OR x a) b ↔ _
  rw [h5,h3,List.mem_cons]
  constructor
  ·rintro ((h | h) | h)
   ·exact .inr (.inl h)
   ·exact .inl h
   ·exact .inr (.inr h)
  ·rintro (h | h | h)
   ·exact .inl (.inr h)
   ·exact .inl (.inl h)
   ·exact .inr h
end Go.Proofs.YtfpgidpffhmadaaGreatDoor
namespace Go.Proofs.YtfpgidpffhmadaaGreatDoor
open Go Go.Dw Go.Proofs
attribute [local simp] Nj Bool.cond_eq_ite
def Qk (l : List Int) (p : Int → Prop) : Prop:=MP l ∧ ∀ v,v ∈ l ↔ (0 ≤ v ∧ v < 512) ∧ p v
theorem Qk.eq {l m : List Int} {p q : Int → Prop} (h : Qk l p) (k : Qk m q) (e : ∀ v,0 ≤ v → v < 512 → (p v ↔ q v)) : l = m :=
 h.1.ext k.1 fun v=>by
  rw [h.2,k.2]
  exact ⟨fun ⟨a,b⟩=>⟨a,(e v a.1 a.2).1 b⟩,fun ⟨a,b⟩=>⟨a,(e v a.1 a.2).2 b⟩⟩
theorem Qk.AdN {l : List Int} (h : MP l) : Qk l (· ∈ l):=⟨h,fun v=>⟨fun k=>⟨h.2 v k,k⟩,fun k=>k.2⟩⟩
theorem Qk.mono {l : List Int} {p q : Int → Prop} (h : Qk l p) (e : ∀ v,0 ≤ v → v < 512 → (p v ↔ q v)) : Qk l q :=
 ⟨h.1,fun v=>by rw [h.2]; exact ⟨fun ⟨a,b⟩=>⟨a,(e v a.1 a.2).1 b⟩,fun ⟨a,b⟩=>⟨a,(e v a.1 a.2).2 b⟩⟩⟩
abbrev BS:=LX
def Ot (t : BS) : Prop:=∀ w ∈ t.toList,WW w
theorem BS.len (t : BS) : t.toList.length = 8:=rfl
def Rs (t : BS) (i : Nat) : Int:=(t.toList[i]?).getD 0
def hasB (t : BS) (v : Int) : Bool:=Xe (Rs t (v.toNat / 64)) (v.toNat % 64)
theorem VZ {t : BS} {i : Nat} (h : i < 8) : t.toList[i]? = some (Rs t i):=by
 have : t.toList[i]? = some (t.toList[i]'(show i < 8 from h)):=List.getElem?_eq_getElem _
 simp [Rs,this]
theorem Ot.word {t : BS} (h : Ot t) {i : Nat} (hi : i < 8) : WW (Rs t i):=h _ (List.mem_of_getElem? (VZ hi))
theorem Aez {t : BS} {i j : Nat} {w : Int} (hi : i < 8) : Rs (t.set i w) j = if i = j then w else Rs t j:=by
 unfold Rs
 rw [Oe,List.getElem?_set]
 by_cases h : i = j
 ·subst h
  simp [show i < (LX.toList t).length from hi]
 ·simp [h]
theorem Ot.set {t : BS} (h : Ot t) {i : Nat} {w : Int} (hw : WW w) : Ot (t.set i w):=by
 intro x hx
 rw [Oe] at hx
 rcases List.mem_or_eq_of_mem_set hx with h1 | rfl
 ·exact h x h1
 ·exact hw
theorem Ot.zero : Ot ⟨0,0,0,0,0,0,0,0⟩:=by
 intro w hw
 simp [LX.toList] at hw
 subst hw
 exact ⟨by omega,by omega⟩
theorem Agk (v : Int) : hasB ⟨0,0,0,0,0,0,0,0⟩ v = false:=by
 have : Rs ⟨0,0,0,0,0,0,0,0⟩ (v.toNat / 64) = 0:=by
  unfold Rs
  have hl : ∀ i : Nat,(([0,0,0,0,0,0,0,0] : List Int)[i]?).getD 0 = 0:=by
   intro i
   match i with
   | 0 | 1 | 2 | 3 | 4 | 5 | 6 | 7=>rfl
   | n + 8=>rfl
  exact hl _
 unfold hasB
 rw [this]
 simp [Xe]
theorem Aiu (n : Int) : 0 ≤ (IntKind.u64.wrap n).tmod 64 ∧ (0 ≤ n → n < 512 → ((IntKind.u64.wrap n).tmod 64).toNat = n.toNat % 64):=by
 obtain ⟨h0,h1⟩:=AcZ n
 rw [Int.tmod_eq_emod_of_nonneg h0]
 refine ⟨by omega,fun ha hb=>?_⟩
 rw [Agx ⟨ha,by omega⟩]
 omega
theorem Ait {n : Int} (h0 : 0 ≤ n) (h1 : n < 512) : IntKind.i64.wrap (n.tdiv 64) = ((n.toNat / 64 : Nat) : Int):=by
 rw [Int.tdiv_eq_ediv_of_nonneg h0,wrap64 (by omega) (by omega)]
 omega
theorem AiW {n : Int} (h0 : 0 ≤ n) (h1 : n < 512) : IntKind.u64.wrap (1 * 2 ^ (Nat.min ((IntKind.u64.wrap n).tmod 64).toNat IntKind.u64.bits)) = ((2 ^ (n.toNat % 64) : Nat) : Int):=by
 rw [(Aiu n).2 h0 h1]
 have e : Nat.min (n.toNat % 64) IntKind.u64.bits = n.toNat % 64:=Nat.min_eq_left (by show n.toNat % 64 ≤ 64; omega)
 rw [e,Int.one_mul]
 have hp : 2 ^ (n.toNat % 64) < 18446744073709551616:=by
  have:=Nat.pow_lt_pow_right (a:=2) (by decide) (show n.toNat % 64 < 64 by omega)
  simpa using this
 have:=Zl hp
 rw [Int.natCast_pow] at this ⊢
 exact this
theorem Afo (j : Nat) (h : j < 64) : 2 ^ j < 18446744073709551616:=by
 have:=Nat.pow_lt_pow_right (a:=2) (by decide) h
 simpa using this
theorem AlH {n v : Int} (h0 : 0 ≤ n) (h0' : 0 ≤ v) (hne : v ≠ n) (h : n.toNat / 64 = v.toNat / 64) : v.toNat % 64 ≠ n.toNat % 64:=by omega
theorem Agp {t : BS} (ht : Ot t) (n : Int) (b : Bool) : Hs (NX t n b) fun r=>Ot r ∧ ∀ v,0 ≤ v → v < 512 → hasB r v = if v = n then b else hasB t v:=by
 unfold NX
 refine .chk (Aiu n).1 ?_
 rw [AcS,Option.bind_some]
 by_cases h : 0 ≤ n ∧ n < 512
 ·rw [decide_eq_true h]
  obtain ⟨h0,h1⟩:=h
  have hi : n.toNat / 64 < 8:=by omega
  have hb:=AiW h0 h1
  have hw:=ht.word hi
  have hp : WW ((2 ^ (n.toNat % 64) : Nat) : Int):=WW.nat (Afo _ (by omega))
  have fin : ∀ (x : Nat),x < 18446744073709551616 → (∀ j,j < 64 → x.testBit j = if j = n.toNat % 64 then b else (Rs t (n.toNat / 64)).toNat.testBit j) →
    Ot (t.set (n.toNat / 64) (x : Int)) ∧ ∀ v,0 ≤ v → v < 512 → hasB (t.set (n.toNat / 64) (x : Int)) v = if v = n then b else hasB t v:=by
   intro x hx hbit
   refine ⟨ht.set (WW.nat hx),fun v hv0 hv1=>?_⟩
   unfold hasB
   rw [Aez hi]
   by_cases he : v = n
   ·subst he
    rw [if_pos rfl,if_pos rfl]
    show (x : Int).toNat.testBit _ = b
    rw [Int.toNat_natCast,hbit _ (by omega),if_pos rfl]
   ·rw [if_neg he]
    by_cases hq : n.toNat / 64 = v.toNat / 64
    ·rw [if_pos hq]
     show (x : Int).toNat.testBit _ = _
     rw [Int.toNat_natCast,hbit _ (by omega),if_neg (AlH h0 hv0 he hq),hq]
     rfl
    ·rw [if_neg hq]
  cases b with
  | true =>
   simp only [Bool.not_true,cond_false,cond_true]
   rw [Ait h0 h1]
   refine .chk (by omega) ?_
   rw [Int.toNat_natCast,VZ hi,Option.bind_some]
   refine .chk (by omega) ?_
   rw [Option.bind_some]
   refine .pure ?_
   rw [hb,AlK hw hp,Int.toNat_natCast]
   refine fin _ (Agn hw.toNat_lt (Afo _ (by omega))) fun j hj=>?_
   rw [Nat.testBit_or,Nat.testBit_two_pow]
   by_cases e : j = n.toNat % 64
   ·simp [e]
   ·rw [if_neg e]
    simp [show ¬ n.toNat % 64 = j from fun h=>e h.symm]
  | false =>
   simp only [Bool.not_true,cond_false]
   rw [Ait h0 h1]
   refine .chk (by omega) ?_
   rw [Int.toNat_natCast,VZ hi,Option.bind_some]
   refine .chk (by omega) ?_
   rw [Option.bind_some]
   refine .pure ?_
   rw [hb,AeS hw hp,Int.toNat_natCast]
   refine fin _ (AdY hw.toNat_lt) fun j hj=>?_
   rw [AeZ hw.toNat_lt (Afo _ (by omega)),Nat.testBit_two_pow]
   by_cases e : j = n.toNat % 64
   ·simp [e]
   ·rw [if_neg e]
    simp [show ¬ n.toNat % 64 = j from fun h=>e h.symm]
 ·rw [decide_eq_false h]
  simp only [Bool.not_false,cond_true]
  exact .pure ⟨ht,fun v h0 h1=>by rw [if_neg (fun e=>h (by omega))]⟩
theorem AcX (l : List Int) (hl : l.length ≤ 9000000000000000000) : Hs (NG l) fun r=>Ot r ∧ ∀ v,0 ≤ v → v < 512 → hasB r v = decide (v ∈ l):=by
 unfold NG
 refine Hs.loop (fun s=>Ot s.1 ∧ ∃ k : Nat,s.2 = (k : Int) ∧ k ≤ l.length ∧ ∀ v,0 ≤ v → v < 512 → hasB s.1 v = decide (v ∈ l.take k)) (fun s=>l.length - s.2.toNat) ⟨Ot.zero,0,rfl,Nat.zero_le _,fun v _ _=>by simp [Agk]⟩ ?_
 rintro ⟨t,k'⟩ ⟨ht,k,hk',hk,hall⟩
 simp only at ht hk' hall
 subst hk'
 unfold Sm
 refine .dec (fun hlt=>?_) fun hge=>?_
 ·have hlt : k < l.length:=by omega
  refine Hs.bind (P:=fun x=>l[k]? = some x) ⟨l[k],by simp [hlt],by simp [hlt]⟩ fun x hx=>(Agp ht x true).bind fun r hr=>.cnt ?_
  rw [Mx (by omega)]
  refine ⟨⟨hr.1,k + 1,rfl,hlt,fun v h0 h1=>?_⟩,by simp only; omega⟩
  simp only
  rw [hr.2 v h0 h1,hall v h0 h1,List.take_add_one,hx]
  by_cases e : v = x
  ·simp [e]
  ·simp [e]
 ·have : k = l.length:=by omega
  subst this
  exact .lft (.pure ⟨ht,fun v h0 h1=>by rw [hall v h0 h1,List.take_length]⟩)
theorem MP.snoc {l : List Int} (h : MP l) {z : Int} (h0 : 0 ≤ z ∧ z < 512) (hz : ∀ x ∈ l,x < z) : MP (l ++ [z]):=by
 refine ⟨List.pairwise_append.2 ⟨h.1,List.pairwise_singleton _ _,fun a ha b hb=>?_⟩,fun x hx=>?_⟩
 ·simp only [List.mem_singleton] at hb; subst hb; exact hz a ha
 ·simp only [List.mem_append,List.mem_singleton] at hx
  rcases hx with h1 | rfl
  ·exact h.2 x h1
  ·exact h0
theorem Zi {t : BS} (ht : Ot t) : Hs (Nd t) fun r=>r.2 = t ∧ Qk r.1 (fun v=>hasB t v = true):=by
 unfold Nd
 refine Hs.loop (fun s=>∃ i : Nat,s.2 = (i : Int) ∧ i ≤ 8 ∧ Qk s.1 (fun v=>v < 64 * i ∧ hasB t v = true)) (fun s=>8 - s.2.toNat) ⟨0,rfl,by omega,⟨MP.nil,fun v=>by simp; omega⟩⟩ ?_
 rintro ⟨l,i'⟩ ⟨i,hi',hi,hs⟩
 simp only at hi' hs
 subst hi'
 unfold Py
 refine .dec (fun hlt=>?_) fun hge=>?_
 ·have hlt : i < 8:=by omega
  refine .chk (by omega) ?_
  rw [Int.toNat_natCast,VZ hlt,Option.bind_some]
  have hw:=ht.word hlt
  refine Hs.loop (fun s=>WW s.2 ∧ ∃ c : Nat,c ≤ 64 ∧ Qk s.1 (fun v=>v < 64 * i + c ∧ hasB t v = true) ∧ ∀ j,j < 64 → Xe s.2 j = (decide (c ≤ j) && Xe (Rs t i) j)) (fun s=>s.2.toNat) ⟨hw,0,by omega,by simpa using hs,fun j _=>by simp⟩ ?_
  rintro ⟨m,x⟩ ⟨hx,c,hc,hm,hb⟩
  simp only at hx hm hb
  unfold Pz
  refine .bne (fun hne=>?_) fun he=>?_
  ·have hx0 : 0 < x.toNat:=by have:=hx.1; omega
   obtain ⟨k1,k2,k3,k4⟩:=Aig hx0 hx.toNat_lt
   generalize hk : Lib.ctz 64 x.toNat = k at k1 k2 k3 k4
   have ek : Abz x = some (k : Int):=by
    unfold Abz
    rw [Nj (show 0 ≤ x ∧ x < 18446744073709551616 from hx),hk]
   rw [ek,Option.bind_some]
   have hck : c ≤ k:=by
    have:=hb k k1
    unfold Xe at this
    rw [k2] at this
    simp at this
    exact this.1
   have hwk : Xe (Rs t i) k = true:=by
    have:=hb k k1
    unfold Xe at this
    rw [k2] at this
    simp at this
    exact this.2
   have e1 : IntKind.i64.wrap (IntKind.i64.wrap (64 * (i : Int)) + (k : Int)) = ((64 * i + k : Nat) : Int):=by
    rw [wrap64 (n:=64 * (i : Int)) (by omega) (by omega),wrap64 (by omega) (by omega)]; omega
   have e2 : IntKind.u64.wrap (x - 1) = x - 1:=Agx ⟨by omega,by have:=hx.2; omega⟩
   have e3 : (x - 1).toNat = x.toNat - 1:=by omega
   have hz : ∀ v ∈ m,v < ((64 * i + k : Nat) : Int):=fun v hv=>by
    have:=((hm.2 v).1 hv).2.1
    omega
   have hlen:=hm.1.length_le
   refine .chk (by simp; omega) (.cnt ?_)
   rw [e1,e2,AlO hx ⟨by omega,by have:=hx.2; omega⟩,e3]
   refine ⟨⟨WW.nat (AdY hx.toNat_lt),k + 1,by omega,⟨hm.1.snoc (by omega) hz,fun v=>?_⟩,fun j hj=>?_⟩,?_⟩
   ·simp only [List.mem_append,List.mem_singleton,hm.2]
    constructor
    ·rintro (⟨a,b,d⟩ | rfl)
     ·exact ⟨a,by omega,d⟩
     ·refine ⟨by omega,by omega,?_⟩
      unfold hasB
      have q1 : (((64 * i + k : Nat) : Int).toNat) / 64 = i:=by omega
      have q2 : (((64 * i + k : Nat) : Int).toNat) % 64 = k:=by omega
      rw [q1,q2]
      exact hwk
    ·rintro ⟨a,b,d⟩
     by_cases e : v = ((64 * i + k : Nat) : Int)
     ·exact .inr e
     ·refine .inl ⟨a,?_,d⟩
      refine Int.not_le.1 fun hle=>?_
      have q1 : v.toNat / 64 = i:=by omega
      have q3 : v.toNat % 64 < k:=by omega
      have q4 : c ≤ v.toNat % 64:=by omega
      have q5:=hb (v.toNat % 64) (by omega)
      unfold Xe at q5
      rw [k3 _ q3] at q5
      unfold hasB at d
      rw [q1] at d
      unfold Xe at d
      rw [d] at q5
      simp [q4] at q5
   ·simp only
    unfold Xe
    rw [Int.toNat_natCast,k4]
    have q:=hb j hj
    unfold Xe at q
    by_cases h1 : j < k
    ·rw [k3 _ h1]
     simp [show ¬ k + 1 ≤ j by omega]
    ·by_cases h2 : j = k
     ·subst h2
      simp [show ¬ j + 1 ≤ j by omega]
     ·rw [q]
      simp [h2,show c ≤ j by omega,show k + 1 ≤ j by omega]
   ·simp only [Int.toNat_natCast]
    have : x.toNat &&& (x.toNat - 1) ≤ x.toNat - 1:=Nat.and_le_right
    omega
  ·have he : x = 0:=he
   subst he
   refine .lft (.cnt ?_)
   rw [Mx (by omega)]
   refine ⟨⟨i + 1,rfl,hlt,hm.mono fun v h0 h1=>⟨fun ⟨a,b⟩=>⟨by omega,b⟩,fun ⟨a,b⟩=>⟨?_,b⟩⟩⟩,by simp only; omega⟩
   refine Int.not_le.1 fun hle=>?_
   have q1 : v.toNat / 64 = i:=by omega
   have q4 : c ≤ v.toNat % 64:=by omega
   have q5:=hb (v.toNat % 64) (by omega)
   unfold hasB at b
   rw [q1] at b
   rw [b] at q5
   simp [q4,Xe] at q5
 ·have : i = 8:=by omega
  subst this
  exact .lft (.pure ⟨rfl,hs.mono fun v h0 h1=>⟨fun h=>h.2,fun h=>⟨by omega,h⟩⟩⟩)
theorem Agz {x y : Int} (hx : WW x) (hy : WW y) : Qu x y = some ((x.toNat ||| y.toNat : Nat) : Int):=by
 unfold Qu; rw [AlK hx hy]
theorem Agm {x y : Int} (hx : WW x) (hy : WW y) : Qt x y = some ((AeY x.toNat y.toNat : Nat) : Int):=by
 unfold Qt; rw [AeS hx hy]
theorem AfO {s t : BS} (hs : Ot s) (ht : Ot t) (g : Nat → Nat → Nat) (hg : ∀ x y,x < 18446744073709551616 → y < 18446744073709551616 → g x y < 18446744073709551616) (p : Bool → Bool → Bool)
  (hp : ∀ x y j,x < 18446744073709551616 → y < 18446744073709551616 → j < 64 → (g x y).testBit j = p (x.testBit j) (y.testBit j))
  {body : BS × Int → Option ((BS × Int) ⊕ (BS × BS × BS))} (hend : ∀ x,body (x,8) = some (.inr (x,s,t)))
  (hstep : ∀ x (i : Nat),i < 8 → body (x,(i : Int)) = some (.inl (x.set i ((g (Rs s i).toNat (Rs t i).toNat : Nat) : Int),((i + 1 : Nat) : Int)))) :
  Hs (MD body (⟨0,0,0,0,0,0,0,0⟩,0)) fun r=>Ot r.1 ∧ ∀ v,0 ≤ v → v < 512 → hasB r.1 v = p (hasB s v) (hasB t v):=by
 refine Hs.loop (fun q=>Ot q.1 ∧ ∃ i : Nat,q.2 = (i : Int) ∧ i ≤ 8 ∧ ∀ j,j < i → Rs q.1 j = ((g (Rs s j).toNat (Rs t j).toNat : Nat) : Int)) (fun q=>8 - q.2.toNat) ⟨Ot.zero,0,rfl,by omega,fun j hj=>by omega⟩ ?_
 rintro ⟨x,i'⟩ ⟨hx,i,hi',hi,hall⟩
 simp only at hx hi' hall
 subst hi'
 by_cases hlt : i < 8
 ·refine ⟨_,hstep x i hlt,⟨hx.set (WW.nat (hg _ _ (hs.word hlt).toNat_lt (ht.word hlt).toNat_lt)),i + 1,rfl,hlt,fun j hj=>?_⟩,by simp only; omega⟩
  simp only
  rw [Aez hlt]
  by_cases e : i = j
  ·subst e; rw [if_pos rfl]
  ·rw [if_neg e]; exact hall j (by omega)
 ·obtain rfl : i = 8:=by omega
  refine ⟨_,hend x,hx,fun v h0 h1=>?_⟩
  have hv : v.toNat / 64 < 8:=by omega
  unfold hasB
  simp only
  rw [hall _ hv]
  unfold Xe
  rw [Int.toNat_natCast,hp _ _ _ (hs.word hv).toNat_lt (ht.word hv).toNat_lt (by omega)]
theorem AeJ {s t : BS} (hs : Ot s) (ht : Ot t) : Hs (Ni s t) fun r=>Ot r.1 ∧ ∀ v,0 ≤ v → v < 512 → hasB r.1 v = (hasB s v || hasB t v):=by
 unfold Ni
 refine AfO hs ht (· ||| ·) (fun x y=>Agn) (· || ·) (fun x y j _ _ _=>Nat.testBit_or ..) (fun x=>by simp [Nq]) fun x i hi=>?_
 have w:=Mx (show i < 9223372036854775807 by omega)
 simp [Nq,VZ hi,Agz (hs.word hi) (ht.word hi),w,show (i : Int) < 8 by omega]
theorem AeI {s t : BS} (hs : Ot s) (ht : Ot t) : Hs (Nh s t) fun r=>Ot r.1 ∧ ∀ v,0 ≤ v → v < 512 → hasB r.1 v = (hasB s v && !hasB t v):=by
 unfold Nh
 refine AfO hs ht AeY (fun x y hx _=>AdY hx) (fun a b=>a && !b) (fun x y j hx hy _=>AeZ hx hy) (fun x=>by simp [Np]) fun x i hi=>?_
 have w:=Mx (show i < 9223372036854775807 by omega)
 simp [Np,VZ hi,Agm (hs.word hi) (ht.word hi),w,show (i : Int) < 8 by omega]
theorem AgE (l : List Int) (hl : l.length ≤ 9000000000000000000) : Hs (Si l) fun r=>Qk r (· ∈ l):=by
 unfold Si
 exact (AcX l hl).bind fun r hr=>(Zi hr.1).bind fun q hq=>.pure (hq.2.mono fun v h0 h1=>by rw [hr.2 v h0 h1]; simp)
theorem AeW (l : List Int) (n : Int) (hl : l.length ≤ 9000000000000000000) : Hs (Qa l n) fun r=>Qk r (fun v=>v ∈ l ∧ v ≠ n):=by
 unfold Qa
 refine (AcX l hl).bind fun r hr=>(Agp hr.1 n false).bind fun u hu=>(Zi hu.1).bind fun q hq=>.pure (hq.2.mono fun v h0 h1=>?_)
 rw [hu.2 v h0 h1,hr.2 v h0 h1]
 by_cases e : v = n <;> simp [e]
theorem AfA (a b : List Int) (ha : a.length ≤ 9000000000000000000) (hb : b.length ≤ 9000000000000000000) : Hs (OT a b) fun r=>Qk r (fun v=>v ∈ a ∨ v ∈ b):=by
 unfold OT
 refine (AcX a ha).bind fun r hr=>(AcX b hb).bind fun u hu=>(AeJ hr.1 hu.1).bind fun x hx=>(Zi hx.1).bind fun q hq=>.pure (hq.2.mono fun v h0 h1=>?_)
 rw [hx.2 v h0 h1,hr.2 v h0 h1,hu.2 v h0 h1]; simp
theorem Afz (a b : List Int) (ha : a.length ≤ 9000000000000000000) (hb : b.length ≤ 9000000000000000000) : Hs (QB a b) fun r=>Qk r (fun v=>v ∈ a ∧ v ∉ b):=by
 unfold QB
 refine (AcX a ha).bind fun r hr=>(AcX b hb).bind fun u hu=>(AeI hr.1 hu.1).bind fun x hx=>(Zi hx.1).bind fun q hq=>.pure (hq.2.mono fun v h0 h1=>?_)
 rw [hx.2 v h0 h1,hr.2 v h0 h1,hu.2 v h0 h1]; simp
theorem AeV {s : List Int} (hs : MP s) (n : Int) : Qa s n = some (s.filter (· != n)):=by
 obtain ⟨r,h1,h2⟩:=AeW s n (by have:=hs.length_le; omega)
 rw [h1,h2.eq (Qk.AdN (hs.filter (· != n))) fun v _ _=>by simp [List.mem_filter]]
theorem AaH {a b : List Int} (ha : MP a) (hb : ∀ x ∈ b,0 ≤ x ∧ x < 512) (hl : b.length ≤ 1000) : OT a b = some (NN a b):=by
 obtain ⟨r,h1,h2⟩:=AfA a b (by have:=ha.length_le; omega) (by omega)
 obtain ⟨h3,h4⟩:=SN (n:=512) (by omega) (b:=b) ⟨ha,fun x hx=>(ha.2 x hx).2⟩ hb
 rw [h1,h2.eq (Qk.AdN h3.1) fun v _ _=>by rw [h4]]
theorem AgD {b : List Int} (hb : ∀ x ∈ b,0 ≤ x ∧ x < 512) (hl : b.length ≤ 1000) : Si b = some (NN [] b):=by
 obtain ⟨r,h1,h2⟩:=AgE b (by omega)
 obtain ⟨h3,h4⟩:=SN (n:=512) (by omega) (b:=b) ⟨MP.nil,fun x hx=>by cases hx⟩ hb
 rw [h1,h2.eq (Qk.AdN h3.1) fun v _ _=>by rw [h4]; simp]
end Go.Proofs.YtfpgidpffhmadaaGreatDoor
namespace Go.Proofs.YtfpgidpffhmadaaGreatDoor
open Go Go.Dw Go.Proofs
attribute [local simp] Nj Bool.cond_eq_ite
def okC (c : LV) : Prop:=0 ≤ c.at_ ∧ c.at_ ≤ c.list.length ∧ c.list.length ≤ 1000 ∧ ∀ v ∈ c.list,0 ≤ v ∧ v ≤ 255
theorem AlJ (l : List Int) (n : Int) (hl : qL (Pl .u8) l) (h0 : 0 ≤ n) (h1 : n ≤ 1000) : ∃ c,Xk l n = some c ∧ okC c:=by
 unfold Xk
 have e : On (l.length : Int) n = min (l.length : Int) n:=AiE _ _
 rw [e]
 refine ⟨_,by rw [Nj (by omega)],by simp,?_,?_,?_⟩
 ·simp
 ·simp only [List.length_take]; omega
 ·intro v hv
  have:=hl.2 v (List.mem_of_mem_take hv)
  simpa [Pl,IntKind.min,IntKind.max,IntKind.signed,IntKind.bits] using this
theorem AiH (c : LV) (h : okC c) (n : Int) (h1 : n ≤ 1099511627776) : ∃ r c',Mi c n = some (r,c') ∧ okC c' ∧ 0 ≤ r ∧ (r < n ∨ r = 0):=by
 obtain ⟨ha,hb,hc,hd⟩:=h
 unfold Mi Rj
 by_cases hl : c.at_ < c.list.length
 ·by_cases hn : n < 1
  ·exact ⟨0,c,by simp [hl,hn],⟨ha,hb,hc,hd⟩,by omega,.inr rfl⟩
  ·have hx : c.list[c.at_.toNat]? = some (c.list[c.at_.toNat]'(by omega)):=List.getElem?_eq_getElem _
   have hv:=hd _ (List.getElem_mem (show c.at_.toNat < c.list.length by omega))
   generalize hq : c.list[c.at_.toNat]'(by omega) = v at hx hv
   have e1 : IntKind.i64.wrap v = v:=wrap64 (by omega) (by omega)
   have hm0 : 0 ≤ v * n:=Int.mul_nonneg hv.1 (by omega)
   have hm1 : v * n ≤ 255 * n:=Int.mul_le_mul_of_nonneg_right hv.2 (by omega)
   have e2 : IntKind.i64.wrap (v * n) = v * n:=wrap64 (by omega) (by omega)
   have e3 : (v * n).tdiv 256 = v * n / 256:=Int.tdiv_eq_ediv_of_nonneg hm0
   have e4 : IntKind.i64.wrap (v * n / 256) = v * n / 256:=wrap64 (by omega) (by omega)
   have e5 : IntKind.i64.wrap (c.at_ + 1) = c.at_ + 1:=wrap64 (by omega) (by omega)
   refine ⟨v * n / 256,⟨c.list,c.at_ + 1⟩,?_,⟨by simp only; omega,by simp only; omega,hc,hd⟩,by omega,.inl (by omega)⟩
   simp [hl,hn,Rl,SU _ ha,hx,e1,e2,e3,e4,e5]
 ·exact ⟨0,c,by simp [hl],⟨ha,hb,hc,hd⟩,by omega,.inr rfl⟩
end Go.Proofs.YtfpgidpffhmadaaGreatDoor
namespace Go.Proofs.YtfpgidpffhmadaaGreatDoor
open Go Go.Dw Go.Proofs
theorem AiF {c : LV} (h : okC c) {n : Int} (h1 : n ≤ 1099511627776) : Hs (Mi c n) fun p=>okC p.2 ∧ 0 ≤ p.1 ∧ (p.1 < n ∨ p.1 = 0):=by
 obtain ⟨r,c',e,h2,h3,h4⟩:=AiH c h n h1
 exact ⟨(r,c'),e,h2,h3,h4⟩
theorem MI {c : LV} (h : okC c) {n : Int} (h0 : 1 ≤ n) (h1 : n ≤ 1099511627776) : Hs (Mi c n) fun p=>okC p.2 ∧ 0 ≤ p.1 ∧ p.1 < n :=
 (AiF h h1).mono fun r hr=>⟨hr.1,hr.2.1,by omega⟩
def AaT (s : Mt) : Prop:=s.Size ∈ ([8,4,8,1,2,16,8] : List Int) ∧ s.Align ∈ ([8,4,1,8,16,2,32,64] : List Int)
def W64 (w : Int) : Prop:=0 ≤ w ∧ w < 18446744073709551616
def Reg (a : Int) : Prop:=0 ≤ a ∧ a < 4
theorem AiK {c : LV} (h : okC c) : Hs (PN c) fun p=>okC p.2 ∧ AaT p.1:=by
 unfold PN
 refine (MI h (by omega) (by omega)).bind fun r hr=>.chk (by simp; omega) ?_
 refine (Hs.get hr.2.1 (by simp; omega) fun x hx=>List.mem_of_getElem? hx).bind fun x hx=>?_
 refine (MI hr.1 (by omega) (by omega)).bind fun r' hr'=>.chk (by simp; omega) ?_
 refine (Hs.get hr'.2.1 (by simp; omega) fun x hx=>List.mem_of_getElem? hx).bind fun y hy=>?_
 exact .pure ⟨hr'.1,hx,hy⟩
theorem Aij {c : LV} (h : okC c) {m : Int} (hm : 0 ≤ m) (hm' : m ≤ 1000) : Hs (Pr c m) fun p=>okC p.2 ∧ (p.1.length : Int) ≤ m ∧ ∀ s ∈ p.1,AaT s:=by
 unfold Pr
 have w : IntKind.i64.wrap (m + 1) = m + 1:=wrap64 (by omega) (by omega)
 rw [w]
 refine (MI h (by omega) (by omega)).bind fun r hr=>?_
 refine Hs.loop (fun s=>okC ⟨s.1,s.2.1⟩ ∧ (s.2.2.1.length : Int) + s.2.2.2 ≤ m ∧ (∀ x ∈ s.2.2.1,AaT x) ∧ 0 ≤ s.2.2.2) (fun s=>s.2.2.2.toNat) ⟨hr.1,by simp; omega,by simp,hr.2.1⟩ ?_
 rintro ⟨l,a,sl,n⟩ ⟨hc,hl,hs,hn⟩
 simp only at hc hl hs hn
 unfold QO
 refine .dec (fun hlt=>?_) fun hlt=>?_
 ·have hlt : 0 < n:=hlt
  have w : IntKind.i64.wrap (n - 1) = n - 1:=wrap64 (by omega) (by omega)
  refine (AiK hc).bind fun x hx=>.chk (by simp; omega) (.cnt ⟨⟨hx.1,?_,?_,?_⟩,?_⟩)
  ·simp only [w,List.length_append,List.length_singleton]; omega
  ·intro y hy
   rcases List.mem_append.1 hy with h1 | h1
   ·exact hs y h1
   ·rw [List.mem_singleton] at h1; subst h1; exact hx.2
  ·simp only [w]; omega
  ·simp only [w]; omega
 ·exact .lft (.pure ⟨hc,by simp only; omega,hs⟩)
theorem AfP {c : LV} (h : okC c) : Hs (OV c) fun p=>okC p.2 ∧ W64 p.1:=by
 unfold OV
 refine (MI h (by omega) (by omega)).bind fun r hr=>.beq (fun _=>?_) fun _=>.beq (fun _=>?_) fun _=>.beq (fun _=>?_) fun _=>?_
 ·exact (MI hr.1 (by omega) (by omega)).bind fun r' hr'=>.pure ⟨hr'.1,AcZ _⟩
 ·exact (MI hr.1 (by omega) (by omega)).bind fun r' hr'=>.chk hr'.2.1 (.pure ⟨hr'.1,AcZ _⟩)
 ·exact .pure ⟨hr.1,by simp only; unfold W64; omega⟩
 ·exact (MI hr.1 (by omega) (by omega)).bind fun r' hr'=>.pure ⟨hr'.1,AcZ _⟩
def AgB (sl : List Mt) (a b : Int) : Prop:=0 ≤ a ∧ a < sl.length ∧ ∃ x y,sl[a.toNat]? = some x ∧ sl[b.toNat]? = some y ∧ x.Size = y.Size
theorem AiD {c : LV} (h : okC c) {f : LY} {s : Int} (h0 : 0 ≤ s) (h1 : s < f.Slots.length) (hl : f.Slots.length ≤ 1000) : Hs (PQ c f s) fun p=>okC p.2 ∧ AgB f.Slots p.1 s:=by
 unfold PQ
 refine Hs.loop (fun st=>0 ≤ st.2 ∧ st.2 ≤ f.Slots.length ∧ (st.1.length : Int) ≤ st.2 ∧ (∀ v ∈ st.1,AgB f.Slots v s) ∧ (s < st.2 → 0 < st.1.length)) (fun st=>f.Slots.length - st.2.toNat) ⟨by simp,by simp,by simp,by simp,fun h=>by simp at h; omega⟩ ?_
 rintro ⟨l,k⟩ ⟨hk0,hk1,hll,hv,hne⟩
 simp only at hk0 hk1 hll hv hne
 unfold Rn
 refine .dec (fun hlt=>?_) fun hlt=>.lft ?_
 ·have w : IntKind.i64.wrap (k + 1) = k + 1:=wrap64 (by omega) (by omega)
  refine (Hs.ix hk0 hlt fun x hx=>hx).bind fun x hx=>(Hs.ix h0 h1 fun x hx=>hx).bind fun y hy=>.beq (fun he=>?_) fun he=>?_
  ·refine .chk (by simp; omega) (.cnt ⟨⟨by simp only [w]; omega,by simp only [w]; omega,by simp only [w,List.length_append,List.length_singleton]; omega,?_,by simp⟩,by simp only [w]; omega⟩)
   intro v hv'
   rcases List.mem_append.1 hv' with h2 | h2
   ·exact hv v h2
   ·rw [List.mem_singleton] at h2; subst h2
    exact ⟨hk0,hlt,x,y,hx,hy,he⟩
  ·refine .cnt ⟨⟨by simp only [w]; omega,by simp only [w]; omega,by simp only [w]; omega,hv,fun h3=>?_⟩,by simp only [w]; omega⟩
   simp only [w] at h3
   by_cases e : s = k
   ·subst e; rw [hx] at hy; cases hy; exact (he rfl).elim
   ·exact hne (by omega)
 ·have hlt : ¬ k < f.Slots.length:=hlt
  have hl1:=hne (by omega)
  refine (MI h (n:=(l.length : Int)) (by omega) (by omega)).bind fun r hr=>.chk ⟨hr.2.1,hr.2.2⟩ ?_
  exact (Hs.get hr.2.1 hr.2.2 fun x hx=>hv x (List.mem_of_getElem? hx)).bind fun x hx=>.pure ⟨hr.1,hx⟩
inductive Nc (sl : List Mt) (np i : Int) (ps : List Int) (T : Int → Prop) : LU → Prop
 | store (a b : Int) : 0 ≤ a → a < sl.length → Reg b → Nc sl np i ps T ⟨16,a,b,0,0⟩
 | load (a b : Int) : Reg a → 0 ≤ b → b < sl.length → Nc sl np i ps T ⟨15,a,b,0,0⟩
 | move (a b : Int) : AgB sl a b → 0 ≤ b → b < sl.length → Nc sl np i ps T ⟨17,a,b,0,0⟩
 | const (a w : Int) : Reg a → W64 w → Nc sl np i ps T ⟨0,a,0,0,w⟩
 | bin (op a b c : Int) : 2 ≤ op → op < 12 → Reg a → Reg b → 0 ≤ c → c < 8 → Nc sl np i ps T ⟨op,a,b,c,0⟩
 | out (a : Int) : Reg a → Nc sl np i ps T ⟨14,a,0,0,0⟩
 | un (op a : Int) : (op = 13 ∨ op = 12 ∨ op = 1) → Reg a → Nc sl np i ps T ⟨op,a,0,0,0⟩
 | param (a b : Int) : Reg a → 0 ≤ b → b < np → Nc sl np i ps T ⟨19,a,b,0,0⟩
 | arg (a b : Int) : 0 ≤ a → a < 4 → Reg b → Nc sl np i ps T ⟨18,a,b,0,0⟩
 | call (j : Int) : i < j → j < ps.length → Nc sl np i ps T ⟨22,j,0,0,0⟩
 | jump (t : Int) : T t → Nc sl np i ps T ⟨20,t,0,0,0⟩
 | branch (a t : Int) : Reg a → T t → Nc sl np i ps T ⟨21,a,t,0,0⟩
def AeK (ps : List Int) : Prop:=(∀ v ∈ ps,0 ≤ v ∧ v < 4) ∧ ps.length ≤ 1000
theorem Aiz {c : LV} (h : okC c) {f : LY} {i : Int} {ps : List Int} (T : Int → Prop) (hf : f.Slots.length ≤ 1000) (hp : f.Params < 4) (hi : 0 ≤ i) (hi' : i < ps.length) (hps : AeK ps) :
  Hs (PO c f i ps) fun p=>okC p.2 ∧ p.1.length ≤ 4 ∧ ∀ x ∈ p.1,Nc f.Slots f.Params i ps T x:=by
 unfold PO
 refine (MI h (by omega) (by omega)).bind fun r hr=>(MI hr.1 (by omega) (by omega)).bind fun k hk=>?_
 have hreg : Reg r.1:=hr.2
 have one : ∀ {x : LU} {c' : LV},okC c' → Nc f.Slots f.Params i ps T x → Hs (some (([x] : List LU),c')) fun p=>okC p.2 ∧ p.1.length ≤ 4 ∧ ∀ x ∈ p.1,Nc f.Slots f.Params i ps T x:=fun hc hx=>.pure ⟨hc,by simp,by simpa using hx⟩
 have j6 : ∀ b,(b = true → i + 1 < ps.length) → Hs (OE k ps i r b) fun p=>okC p.2 ∧ p.1.length ≤ 4 ∧ ∀ x ∈ p.1,Nc f.Slots f.Params i ps T x:=by
  intro b hb
  unfold OE
  refine .cond (fun hb'=>?_) fun _=>one hk.1 (.out _ hreg)
  have hil:=hb hb'
  have hlen:=hps.2
  have w1 : IntKind.i64.wrap ((ps.length : Int) - i) = (ps.length : Int) - i:=wrap64 (by omega) (by omega)
  have w2 : IntKind.i64.wrap ((ps.length : Int) - i - 1) = (ps.length : Int) - i - 1:=wrap64 (by omega) (by omega)
  have w3 : IntKind.i64.wrap (i + 1) = i + 1:=wrap64 (by omega) (by omega)
  rw [w1,w2]
  refine (MI hk.1 (by omega) (by omega)).bind fun q hq=>?_
  have w4 : IntKind.i64.wrap (i + 1 + q.1) = i + 1 + q.1:=wrap64 (by omega) (by omega)
  refine Hs.loop (fun s=>okC ⟨s.1,s.2.1⟩ ∧ (s.2.2.1.length : Int) ≤ s.2.2.2 ∧ 0 ≤ s.2.2.2 ∧ s.2.2.2 ≤ 3 ∧ ∀ x ∈ s.2.2.1,Nc f.Slots f.Params i ps T x) (fun s=>(3 - s.2.2.2).toNat) ⟨hq.1,by simp,by simp,by simp,by simp⟩ ?_
  rintro ⟨l,a,out,n⟩ ⟨hc,ho,hn0,hn3,hall⟩
  simp only at hc ho hn0 hn3 hall
  unfold Rm
  simp only [w3,w4]
  refine (Hs.ix (by omega) (by omega) fun x hx=>hps.1 x (List.mem_of_getElem? hx)).bind fun x hx=>.dec (fun hlt=>?_) fun hlt=>.lft ?_
  ·have w5 : IntKind.i64.wrap (n + 1) = n + 1:=wrap64 (by omega) (by omega)
   refine (MI hc (by omega) (by omega)).bind fun u hu=>.dec (fun _=>?_) fun _=>?_
   ·refine (MI hu.1 (by omega) (by omega)).bind fun v hv=>.chk (by simp; omega) (.cnt ⟨⟨hv.1,by simp only [w5,List.length_append,List.length_singleton]; omega,by simp only [w5]; omega,by simp only [w5]; omega,?_⟩,by simp only [w5]; omega⟩)
    intro y hy
    rcases List.mem_append.1 hy with h2 | h2
    ·exact hall y h2
    ·rw [List.mem_singleton] at h2; subst h2
     exact .arg _ _ hn0 (by omega) hv.2
   ·exact .cnt ⟨⟨hu.1,by simp only [w5]; omega,by simp only [w5]; omega,by simp only [w5]; omega,hall⟩,by simp only [w5]; omega⟩
  ·refine .chk (by simp; omega) (.pure ⟨hc,by simp only [List.length_append,List.length_singleton]; omega,?_⟩)
   intro y hy
   rcases List.mem_append.1 hy with h2 | h2
   ·exact hall y h2
   ·rw [List.mem_singleton] at h2; subst h2
    exact .call _ (by omega) (by omega)
 have j5 : ∀ b,(b = true → 0 < f.Params) → Hs (OD k f r ps i b) fun p=>okC p.2 ∧ p.1.length ≤ 4 ∧ ∀ x ∈ p.1,Nc f.Slots f.Params i ps T x:=by
  intro b hb
  unfold OD
  refine .cond (fun hb'=>?_) fun _=>.dec (fun _=>j6 _ fun hd=>?_) fun _=>j6 _ fun hd=>(by cases hd)
  ·have:=hb hb'
   exact (MI hk.1 (by omega) (by omega)).bind fun u hu=>one hu.1 (.param _ _ hreg hu.2.1 hu.2.2)
  ·have hlen:=hps.2
   have:=of_decide_eq_true hd
   rw [wrap64 (by omega) (by omega)] at this
   exact this
 have j4 : ∀ b,(b = true → 0 < f.Slots.length) → Hs (OC k f r ps i b) fun p=>okC p.2 ∧ p.1.length ≤ 4 ∧ ∀ x ∈ p.1,Nc f.Slots f.Params i ps T x:=by
  intro b hb
  unfold OC
  refine .cond (fun hb'=>?_) fun _=>.dec (fun _=>?_) fun _=>.dec (fun _=>?_) fun _=>.dec (fun _=>one hk.1 (.out _ hreg)) fun _=>.beq (fun _=>?_) fun _=>.beq (fun _=>j5 _ fun hd=>of_decide_eq_true hd) fun _=>j5 _ fun hd=>(by cases hd)
  ·have:=hb hb'
   exact (MI hk.1 (by omega) (by omega)).bind fun u hu=>(AiD hu.1 hu.2.1 hu.2.2 hf).bind fun v hv=>one hv.1 (.move _ _ hv.2 hu.2.1 hu.2.2)
  ·exact (AfP hk.1).bind fun u hu=>one hu.1 (.const _ _ hreg hu.2)
  ·refine (MI hk.1 (by omega) (by omega)).bind fun u hu=>(MI hu.1 (by omega) (by omega)).bind fun v hv=>(MI hv.1 (by omega) (by omega)).bind fun z hz=>one hz.1 ?_
   rw [wrap64 (by omega) (by omega)]
   exact .bin _ _ _ _ (by omega) (by omega) hreg hv.2 hz.2.1 hz.2.2
  ·refine (MI hk.1 (by omega) (by omega)).bind fun u hu=>.chk (by simp; omega) ?_
   refine (Hs.get hu.2.1 (by simp; omega) fun x hx=>List.mem_of_getElem? hx).bind fun x hx=>one hu.1 (.un _ _ (by simpa using hx) hreg)
 have j3 : ∀ b,(b = true → 0 < f.Slots.length) → Hs (OB k f r ps i b) fun p=>okC p.2 ∧ p.1.length ≤ 4 ∧ ∀ x ∈ p.1,Nc f.Slots f.Params i ps T x:=by
  intro b hb
  unfold OB
  refine .cond (fun hb'=>?_) fun _=>.dec (fun _=>j4 _ fun hd=>by have:=of_decide_eq_true hd; omega) fun _=>j4 _ fun hd=>(by cases hd)
  have:=hb hb'
  exact (MI hk.1 (by omega) (by omega)).bind fun u hu=>one hu.1 (.load _ _ hreg hu.2.1 hu.2.2)
 have j2 : ∀ b,(b = true → 0 < f.Slots.length) → Hs (OA k f r ps i b) fun p=>okC p.2 ∧ p.1.length ≤ 4 ∧ ∀ x ∈ p.1,Nc f.Slots f.Params i ps T x:=by
  intro b hb
  unfold OA
  refine .cond (fun hb'=>?_) fun _=>.dec (fun _=>j3 _ fun hd=>by have:=of_decide_eq_true hd; omega) fun _=>j3 _ fun hd=>(by cases hd)
  have:=hb hb'
  exact (MI hk.1 (by omega) (by omega)).bind fun u hu=>one hu.1 (.store _ _ hu.2.1 hu.2.2 hreg)
 exact .dec (fun _=>j2 _ fun hd=>by have:=of_decide_eq_true hd; omega) fun _=>j2 _ fun hd=>(by cases hd)
theorem Nc.mono {sl : List Mt} {np i : Int} {ps : List Int} {T T' : Int → Prop} {x : LU} (h : Nc sl np i ps T x) (hT : ∀ t,T t → T' t) : Nc sl np i ps T' x:=by
 cases h with
 | store a b h1 h2 h3=>exact .store a b h1 h2 h3
 | load a b h1 h2 h3=>exact .load a b h1 h2 h3
 | move a b h1 h2 h3=>exact .move a b h1 h2 h3
 | const a w h1 h2=>exact .const a w h1 h2
 | bin op a b c h1 h2 h3 h4 h5 h6=>exact .bin op a b c h1 h2 h3 h4 h5 h6
 | out a h1=>exact .out a h1
 | un op a h1 h2=>exact .un op a h1 h2
 | param a b h1 h2 h3=>exact .param a b h1 h2 h3
 | arg a b h1 h2 h3=>exact .arg a b h1 h2 h3
 | call j h1 h2=>exact .call j h1 h2
 | jump t h1=>exact .jump t (hT t h1)
 | branch a t h1 h2=>exact .branch a t h1 (hT t h2)
def Abp (x : LU) : Prop:=x = ⟨23,0,0,0,0⟩ ∨ ∃ w,W64 w ∧ x = ⟨24,0,0,0,w⟩
def Xm (x : LU) (t : Int) : LU :=
 if x.Op = 20 ∧ x.A < 0 then ⟨x.Op,t,x.B,x.C,x.Imm⟩ else if x.Op = 21 ∧ x.B < 0 then ⟨x.Op,x.A,t,x.C,x.Imm⟩ else x
theorem Abp.fix {x : LU} (h : Abp x) (t : Int) : Xm x t = x:=by
 rcases h with rfl | ⟨w,_,rfl⟩ <;> simp [Xm]
theorem Nc.fix {sl : List Mt} {np i : Int} {ps : List Int} {T : Int → Prop} {x : LU} (h : Nc sl np i ps (· = -1) x) {t : Int} (ht : T t) : Nc sl np i ps T (Xm x t):=by
 cases h with
 | store a b h1 h2 h3=>exact .store a b h1 h2 h3
 | load a b h1 h2 h3=>exact .load a b h1 h2 h3
 | move a b h1 h2 h3=>exact .move a b h1 h2 h3
 | const a w h1 h2=>exact .const a w h1 h2
 | bin op a b c h1 h2 h3 h4 h5 h6 =>
  have : Xm ⟨op,a,b,c,0⟩ t = ⟨op,a,b,c,0⟩:=by simp [Xm,show op ≠ 20 by omega,show op ≠ 21 by omega]
  rw [this]
  exact .bin op a b c h1 h2 h3 h4 h5 h6
 | out a h1=>exact .out a h1
 | un op a h1 h2 =>
  have : Xm ⟨op,a,0,0,0⟩ t = ⟨op,a,0,0,0⟩:=by simp [Xm,show op ≠ 20 by omega,show op ≠ 21 by omega]
  rw [this]
  exact .un op a h1 h2
 | param a b h1 h2 h3=>exact .param a b h1 h2 h3
 | arg a b h1 h2 h3=>exact .arg a b h1 h2 h3
 | call j h1 h2=>exact .call j h1 h2
 | jump q h1=>subst h1; exact .jump t ht
 | branch a q h1 h2=>subst h2; exact .branch a t h1 ht
theorem Amd {code : List LU} {k : Nat} {x : LU} (h : code[k]? = some x) (r : Int × LV) (t : Int) : Na (k : Int) code r t = some (.inl (r.2.list,r.2.at_,code.set k (Xm x t),IntKind.i64.wrap ((k : Int) + 1))):=by
 obtain ⟨hl,hx⟩:=List.getElem?_eq_some_iff.1 h
 have hset : code.set k x = code:=by rw [← hx]; exact List.set_getElem_self hl
 obtain ⟨op,a,b,c,w⟩:=x
 unfold Na Om
 by_cases h20 : op = 20
 ·subst h20
  by_cases ha : a < 0
  ·simp [Nj,hl,hx,Xm,ha]
  ·simp [Nj,hl,hx,Xm,ha,hset]
 ·by_cases h21 : op = 21
  ·subst h21
   by_cases hb : b < 0
   ·simp [Nj,hl,hx,Xm,hb]
   ·simp [Nj,hl,hx,Xm,hb,hset]
  ·have e20 : (op == 20) = false:=by simpa using h20
   have e21 : (op == 21) = false:=by simpa using h21
   simp [Nj,hl,hx,Xm,e20,e21,h20,h21,hset]
structure SO (ps : List Int) (i most : Int) (f : LY) : Prop where
 par : ps[i.toNat]? = some f.Params
 slots : f.Slots.length ≤ 6
 slot : ∀ s ∈ f.Slots,AaT s
 len : 1 ≤ f.Code.length
 len' : (f.Code.length : Int) ≤ 7 + 5 * most
 body : ∀ (k : Nat) x,f.Code[k]? = some x → k + 1 < f.Code.length → Nc f.Slots f.Params i ps (fun t=>0 ≤ t ∧ t < f.Code.length) x
 last : ∀ x,f.Code[f.Code.length - 1]? = some x → Abp x
theorem AlG {l : List Int} {a : Int} (h : okC ⟨l,a⟩) {sl : List Mt} {np i : Int} {ps : List Int} {most : Int} {code : List LU} (hpar : ps[i.toNat]? = some np) (hsl : sl.length ≤ 6) (hsl' : ∀ s ∈ sl,AaT s)
  (hlen : 1 ≤ code.length) (hlen' : (code.length : Int) ≤ 7 + 5 * most) (hm : most ≤ 1000) (hb : ∀ (k : Nat) x,code[k]? = some x → k + 1 < code.length → Nc sl np i ps (· = -1) x) (he : ∀ x,code[code.length - 1]? = some x → Abp x) :
  Hs (MD (fun s : List Int × Int × List LU × Int=>Ol np sl s.1 s.2.1 s.2.2.1 s.2.2.2) (l,a,code,0)) fun p=>okC p.2 ∧ SO ps i most p.1:=by
 refine Hs.loop (fun s=>okC ⟨s.1,s.2.1⟩ ∧ s.2.2.1.length = code.length ∧ ∃ k : Nat,s.2.2.2 = (k : Int) ∧ k ≤ code.length ∧ (∀ x,s.2.2.1[code.length - 1]? = some x → Abp x) ∧
  ∀ (j : Nat) x,s.2.2.1[j]? = some x → j + 1 < code.length → Nc sl np i ps (fun t=>if j < k then 0 ≤ t ∧ t < code.length else t = -1) x) (fun s=>code.length - s.2.2.2.toNat) ⟨h,rfl,0,rfl,Nat.zero_le _,he,fun j x hj hj'=>(hb j x hj hj').mono fun t ht=>by simpa using ht⟩ ?_
 rintro ⟨l,a,code',k⟩ ⟨hc,hl,k,rfl,hk,he',hall⟩
 simp only at hc hl he' hall
 unfold Ol
 refine .dec (fun hlt=>?_) fun hlt=>?_
 ·have hlt : k < code.length:=by rw [← hl]; exact Int.ofNat_lt.1 hlt
  have w:=Mx (show k < 9223372036854775807 by omega)
  have hx : code'[k]? = some (code'[k]'(by omega)):=List.getElem?_eq_getElem _
  generalize code'[k]'(by omega) = x at hx
  have step : ∀ (r : Int × LV) (t : Int),okC r.2 → 0 ≤ t → t < code.length → Hs (Na (k : Int) code' r t) (Rnd (fun s : List Int × Int × List LU × Int=>okC ⟨s.1,s.2.1⟩ ∧ s.2.2.1.length = code.length ∧ ∃ k : Nat,s.2.2.2 = (k : Int) ∧ k ≤ code.length ∧ (∀ x,s.2.2.1[code.length - 1]? = some x → Abp x) ∧
    ∀ (j : Nat) x,s.2.2.1[j]? = some x → j + 1 < code.length → Nc sl np i ps (fun t=>if j < k then 0 ≤ t ∧ t < code.length else t = -1) x) (fun s=>code.length - s.2.2.2.toNat) (l,a,code',(k : Int)) (fun p : LY × LV=>okC p.2 ∧ SO ps i most p.1)):=by
   intro r t hr ht0 ht1
   rw [Amd hx]
   refine .pure ⟨⟨hr,by simp [hl],k + 1,w,hlt,?_,?_⟩,by simp only [w]; omega⟩
   ·intro y hy
    simp only at hy
    by_cases e : k = code.length - 1
    ·rw [← e,List.getElem?_set_self (by omega)] at hy
     obtain rfl:=Option.some.inj hy
     have hex:=he' x (by rw [← e]; exact hx)
     rw [hex.fix]; exact hex
    ·rw [List.getElem?_set_ne e] at hy
     exact he' y hy
   ·intro j y hy hj
    simp only at hy
    by_cases e : k = j
    ·subst e
     rw [List.getElem?_set_self (by omega)] at hy
     obtain rfl:=Option.some.inj hy
     exact ((hall k x hx hj).mono fun t ht=>by simpa using ht).fix (by rw [if_pos (by omega)]; exact ⟨ht0,ht1⟩)
    ·rw [List.getElem?_set_ne e] at hy
     refine (hall j y hy hj).mono fun t ht=>?_
     by_cases e2 : j < k
     ·rw [if_pos e2] at ht; rw [if_pos (by omega)]; exact ht
     ·rw [if_neg e2] at ht; rw [if_neg (by omega)]; exact ht
  refine (MI hc (by omega) (by omega)).bind fun r hr=>?_
  have w1 : IntKind.i64.wrap ((k : Int) + r.1) = (k : Int) + r.1:=wrap64 (by omega) (by omega)
  have w2 : IntKind.i64.wrap ((k : Int) + r.1 - 2) = (k : Int) + r.1 - 2:=wrap64 (by omega) (by omega)
  have w3 : IntKind.i64.wrap ((code'.length : Int) - 1) = (code'.length : Int) - 1:=wrap64 (by omega) (by omega)
  simp only [w1,w2,w3]
  exact .dec (fun _=>step r _ hr.1 (by omega) (by omega)) fun _=>.dec (fun _=>step r _ hr.1 (by omega) (by omega)) fun _=>step r _ hr.1 (by omega) (by omega)
 ·have hlt : ¬ k < code'.length:=fun h=>hlt (Int.ofNat_lt.2 h)
  have hkl : k = code.length:=by omega
  refine .lft (.pure ⟨hc,hpar,hsl,hsl',by simp only; omega,by simp only; omega,?_,?_⟩)
  ·intro j x hj hj'
   simp only at hj hj' ⊢
   rw [hl] at hj' ⊢
   refine (hall j x hj hj').mono fun t ht=>?_
   rw [if_pos (by omega)] at ht
   exact ht
  ·intro x hx
   simp only at hx
   rw [hl] at hx
   exact he' x hx
theorem Ais {l : List Int} {a : Int} (h : okC ⟨l,a⟩) {sl : List Mt} {np i : Int} {ps : List Int} {most : Int} {code : List LU} (hpar : ps[i.toNat]? = some np) (hsl : sl.length ≤ 6) (hsl' : ∀ s ∈ sl,AaT s)
  (hlen : (code.length : Int) ≤ 6 + 5 * most) (hm : most ≤ 1000) (hb : ∀ x ∈ code,Nc sl np i ps (· = -1) x) {e1 e2 : Int} (he : Abp ⟨e1,0,0,0,e2⟩) :
  Hs (NI code np sl l a e1 e2) fun p=>okC p.2 ∧ SO ps i most p.1:=by
 unfold NI
 refine .chk (by simp; omega) (AlG h hpar hsl hsl' (by simp) (by simp; omega) hm ?_ ?_)
 ·intro k x hx hk
  simp only [List.length_append,List.length_singleton] at hk
  rw [List.getElem?_append_left (by omega)] at hx
  exact hb x (List.mem_of_getElem? hx)
 ·intro x hx
  simp at hx
  subst hx
  exact he
theorem AfD {c : LV} (h : okC c) {i : Int} {ps : List Int} {most : Int} (hi : 0 ≤ i) (hi' : i < ps.length) (hps : AeK ps) (hm0 : 0 ≤ most) (hm : most ≤ 1000) :
  Hs (Oj c i ps most) fun p=>okC p.2 ∧ SO ps i most p.1:=by
 unfold Oj
 refine (Hs.ix hi hi' fun x hx=>hx).bind fun np hnp=>(Aij h (by omega) (by omega)).bind fun sl hsl=>?_
 obtain ⟨hc0,hsl1,hsl2⟩:=hsl
 have hnp4:=hps.1 np (List.mem_of_getElem? hnp)
 refine Hs.loop (fun s=>okC ⟨s.1,s.2.1⟩ ∧ 0 ≤ s.2.2.2 ∧ s.2.2.2 ≤ sl.1.length ∧ (s.2.2.1.length : Int) ≤ s.2.2.2 ∧ ∀ x ∈ s.2.2.1,Nc sl.1 np i ps (· = -1) x) (fun s=>sl.1.length - s.2.2.2.toNat) ⟨hc0,by simp,by simp,by simp,by simp⟩ ?_
 rintro ⟨l,a,code,s⟩ ⟨hc,hs0,hs1,hcl,hall⟩
 simp only at hc hs0 hs1 hcl hall
 unfold PC
 refine .dec (fun hlt=>?_) fun hlt=>?_
 ·have hlt : s < sl.1.length:=hlt
  have w : IntKind.i64.wrap (s + 1) = s + 1:=wrap64 (by omega) (by omega)
  refine (MI hc (by omega) (by omega)).bind fun r hr=>.dec (fun _=>?_) fun _=>?_
  ·refine (MI hr.1 (by omega) (by omega)).bind fun q hq=>.chk (by simp; omega) (.cnt ⟨⟨hq.1,by simp only [w]; omega,by simp only [w]; omega,by simp only [w,List.length_append,List.length_singleton]; omega,?_⟩,by simp only [w]; omega⟩)
   intro y hy
   rcases List.mem_append.1 hy with h2 | h2
   ·exact hall y h2
   ·rw [List.mem_singleton] at h2; subst h2
    exact .store _ _ hs0 hlt hq.2
  ·exact .cnt ⟨⟨hr.1,by simp only [w]; omega,by simp only [w]; omega,by simp only [w]; omega,hall⟩,by simp only [w]; omega⟩
 ·have w : IntKind.i64.wrap (most + 1) = most + 1:=wrap64 (by omega) (by omega)
  rw [w]
  refine .lft ((MI hc (by omega) (by omega)).bind fun r hr=>?_)
  refine Hs.loop (fun s=>okC ⟨s.1,s.2.1⟩ ∧ s.2.2.2.1 = sl.1 ∧ 0 ≤ s.2.2.2.2 ∧ s.2.2.2.2 ≤ most ∧ (s.2.2.1.length : Int) ≤ 6 + 5 * (most - s.2.2.2.2) ∧ ∀ x ∈ s.2.2.1,Nc sl.1 np i ps (· = -1) x) (fun s=>s.2.2.2.2.toNat) ⟨hr.1,rfl,hr.2.1,by simp only; omega,by simp only; omega,hall⟩ ?_
  rintro ⟨l,a,code,sl',n⟩ ⟨hc,rfl,hn0,hn1,hcl,hall⟩
  simp only at hc hn0 hn1 hcl hall
  unfold PD
  refine .dec (fun hlt=>?_) fun hlt=>.lft ?_
  ·have hlt : 0 < n:=hlt
   have w : IntKind.i64.wrap (n - 1) = n - 1:=wrap64 (by omega) (by omega)
   refine (Aiz hc (· = -1) (by simp only; omega) hnp4.2 hi hi' hps).bind fun b hb=>.chk (by simp; omega) ?_
   have hall2 : ∀ x ∈ code ++ b.1,Nc sl.1 np i ps (· = -1) x:=by
    intro y hy
    rcases List.mem_append.1 hy with h2 | h2
    ·exact hall y h2
    ·exact hb.2.2 y h2
   have hall3 : ∀ x,Nc sl.1 np i ps (· = -1) x → ∀ y ∈ (code ++ b.1) ++ [x],Nc sl.1 np i ps (· = -1) y:=by
    intro x hx y hy
    rcases List.mem_append.1 hy with h2 | h2
    ·exact hall2 y h2
    ·rw [List.mem_singleton] at h2; subst h2; exact hx
   have hbl:=hb.2.1
   refine (MI hb.1 (by omega) (by omega)).bind fun r hr=>.beq (fun _=>?_) fun _=>.beq (fun _=>?_) fun _=>?_
   ·refine (MI hr.1 (by omega) (by omega)).bind fun q hq=>.chk (by simp; omega) (.cnt ⟨⟨hq.1,rfl,by simp only [w]; omega,by simp only [w]; omega,by simp only [w,List.length_append,List.length_singleton]; omega,hall3 _ (.branch _ _ hq.2 rfl)⟩,by simp only [w]; omega⟩)
   ·refine (MI hr.1 (by omega) (by omega)).bind fun q hq=>.beq (fun _=>?_) fun _=>?_
    ·exact .chk (by simp; omega) (.cnt ⟨⟨hq.1,rfl,by simp only [w]; omega,by simp only [w]; omega,by simp only [w,List.length_append,List.length_singleton]; omega,hall3 _ (.jump _ rfl)⟩,by simp only [w]; omega⟩)
    ·exact .cnt ⟨⟨hq.1,rfl,by simp only [w]; omega,by simp only [w]; omega,by simp only [w,List.length_append]; omega,hall2⟩,by simp only [w]; omega⟩
   ·exact .cnt ⟨⟨hr.1,rfl,by simp only [w]; omega,by simp only [w]; omega,by simp only [w,List.length_append]; omega,hall2⟩,by simp only [w]; omega⟩
  ·refine (MI hc (by omega) (by omega)).bind fun r hr=>.beq (fun _=>?_) fun _=>?_
   ·exact (AfP hr.1).bind fun q hq=>Ais hq.1 hnp (by omega) hsl2 (by omega) hm hall (.inr ⟨_,hq.2,rfl⟩)
   ·exact Ais hr.1 hnp (by omega) hsl2 (by omega) hm hall (.inl rfl)
def AiU (funcs most : Int) (p : PZ) : Prop :=
 ∃ ps,AeK ps ∧ ps[0]? = some 0 ∧ 1 ≤ ps.length ∧ (ps.length : Int) ≤ funcs ∧ p.Funcs.length = ps.length ∧ ∀ (j : Nat) f,p.Funcs[j]? = some f → SO ps j most f
theorem AfW {c : LV} (h : okC c) {funcs most : Int} (hf : 1 ≤ funcs) (hf' : funcs ≤ 1000) (hm0 : 0 ≤ most) (hm : most ≤ 1000) :
  Hs (Oz c funcs most) fun p=>okC p.2 ∧ AiU funcs most p.1:=by
 unfold Oz
 refine (MI h hf (by omega)).bind fun r hr=>?_
 refine Hs.loop (fun s=>okC ⟨s.1,s.2.1⟩ ∧ (∀ v ∈ s.2.2.1,0 ≤ v ∧ v < 4) ∧ s.2.2.1[0]? = some 0 ∧ 0 ≤ s.2.2.2 ∧ (s.2.2.1.length : Int) + s.2.2.2 ≤ funcs) (fun s=>s.2.2.2.toNat) ⟨hr.1,by simp,by simp,hr.2.1,by simp; omega⟩ ?_
 rintro ⟨l,a,ps,n⟩ ⟨hc,hv,hz,hn0,hn1⟩
 simp only at hc hv hz hn0 hn1
 have hp1 : 1 ≤ ps.length:=by have:=(List.getElem?_eq_some_iff.1 hz).1; omega
 unfold PL
 refine .dec (fun hlt=>?_) fun hlt=>.lft ?_
 ·have hlt : 0 < n:=hlt
  have w : IntKind.i64.wrap (n - 1) = n - 1:=wrap64 (by omega) (by omega)
  refine (MI hc (by omega) (by omega)).bind fun q hq=>.chk (by simp; omega) (.cnt ⟨⟨hq.1,?_,by simp only; rw [List.getElem?_append_left (by omega)]; exact hz,by simp only [w]; omega,by simp only [w,List.length_append,List.length_singleton]; omega⟩,by simp only [w]; omega⟩)
  intro y hy
  rcases List.mem_append.1 hy with h2 | h2
  ·exact hv y h2
  ·rw [List.mem_singleton] at h2; subst h2; exact hq.2
 ·have hps : AeK ps:=⟨hv,by omega⟩
  refine Hs.loop (fun s=>okC ⟨s.1,s.2.1⟩ ∧ s.2.2.2.2 = ps ∧ ∃ i : Nat,s.2.2.2.1 = (i : Int) ∧ i ≤ ps.length ∧ s.2.2.1.length = i ∧ ∀ (j : Nat) f,s.2.2.1[j]? = some f → SO ps j most f) (fun s=>ps.length - s.2.2.2.1.toNat) ⟨hc,rfl,0,rfl,Nat.zero_le _,rfl,fun j f hj=>by simp at hj⟩ ?_
  rintro ⟨l,a,fs,i',ps'⟩ ⟨hc,hpe,i,hie,hi,hfl,hall⟩
  simp only at hc hpe hie hi hfl hall
  subst hpe hie
  unfold PM
  refine .dec (fun hlt=>?_) fun hlt=>.lft (.pure ⟨hc,ps',hps,hz,hp1,by omega,?_,hall⟩)
  ·have hlt : i < ps'.length:=Int.ofNat_lt.1 hlt
   have w:=Mx (show i < 9223372036854775807 by have:=hps.2; omega)
   have hpl:=hps.2
   refine .chk (by simp; omega) ((AfD hc (i:=(i : Int)) (ps:=ps') (by omega) (by omega) hps hm0 hm).bind fun f hf=>.chk (by simp; omega) (.cnt ⟨⟨hf.1,rfl,i + 1,w,hlt,by simp; omega,?_⟩,by simp only [w]; omega⟩))
   intro j g hg
   simp only [List.nil_append] at hg
   by_cases e : j < fs.length
   ·rw [List.getElem?_append_left e] at hg; exact hall j g hg
   ·have hj : j = i:=by
     have:=(List.getElem?_eq_some_iff.1 hg).1
     simp at this; omega
    subst hj
    rw [List.getElem?_append_right (by omega),hfl] at hg
    simp at hg
    subst hg
    exact hf.2
  ·have hlt : ¬ i < ps'.length:=fun h=>hlt (Int.ofNat_lt.2 h)
   simp only; omega
end Go.Proofs.YtfpgidpffhmadaaGreatDoor
namespace Go.Proofs.YtfpgidpffhmadaaGreatDoor
open Go Go.Dw Go.Proofs
attribute [local simp] Nj Bool.cond_eq_ite
def Nx (x : LU) (k : Int) : List Int :=
 if x.Op = 20 then [x.A] else if x.Op = 23 ∨ x.Op = 24 then [] else
 if x.Op = 21 then (if x.B < k + 1 then [x.B,k + 1] else if k + 1 < x.B then [k + 1,x.B] else [k + 1]) else [k + 1]
theorem Afp {f : LY} {k : Nat} {x : LU} (h : f.Code[k]? = some x) (hk : k < 9223372036854775807) : Sz f (k : Int) = some (Nx x k):=by
 obtain ⟨hl,hx⟩:=List.getElem?_eq_some_iff.1 h
 have hnl : ¬ f.Code.length ≤ k:=by omega
 have w : IntKind.i64.wrap ((k : Int) + 1) = (k : Int) + 1:=wrap64 (by omega) (by omega)
 unfold Sz Vp Nx
 obtain ⟨op,a,b,c,i⟩:=x
 by_cases h20 : op = 20
 ·subst h20; simp [hx,hl,hnl,show ¬ (k : Int) < 0 by omega]
 ·have e20 : (op == 20) = false:=by simpa using h20
  by_cases h23 : op = 23
  ·subst h23; simp [hx,hl,hnl,show ¬ (k : Int) < 0 by omega,Ob]
  ·have e23 : (op == 23) = false:=by simpa using h23
   by_cases h24 : op = 24
   ·subst h24; simp [hx,hl,hnl,show ¬ (k : Int) < 0 by omega,Ob]
   ·have e24 : (op == 24) = false:=by simpa using h24
    by_cases h21 : op = 21
    ·subst h21
     by_cases hb : b < (k : Int) + 1
     ·simp [hx,hl,hnl,show ¬ (k : Int) < 0 by omega,Ob,w,hb]
     ·by_cases hb' : (k : Int) + 1 < b
      ·simp [hx,hl,hnl,show ¬ (k : Int) < 0 by omega,Ob,w,hb,hb']
      ·simp [hx,hl,hnl,show ¬ (k : Int) < 0 by omega,Ob,w,hb,hb']
    ·have e21 : (op == 21) = false:=by simpa using h21
     simp [hx,hl,hnl,show ¬ (k : Int) < 0 by omega,Ob,w,h20,h23,h24,h21]
def NW (x : LU) : List Int:=if x.Op = 15 ∨ x.Op = 17 then [x.B] else []
structure MN (f : LY) : Prop where
 len : 1 ≤ f.Code.length
 len' : f.Code.length ≤ 10000
 slots : f.Slots.length ≤ 500
 next : ∀ (k : Nat) x,f.Code[k]? = some x → ∀ j ∈ Nx x k,0 ≤ j ∧ j < f.Code.length
 uses : ∀ x ∈ f.Code,∀ v ∈ NW x,0 ≤ v ∧ v < f.Slots.length
theorem SO.Amj {ps : List Int} {i most : Int} {f : LY} (h : SO ps i most f) (hm : most ≤ 1000) : MN f:=by
 have hl:=h.len
 have hl':=h.len'
 have hs:=h.slots
 refine ⟨hl,by omega,by omega,fun k x hx j hj=>?_,fun x hx v hv=>?_⟩
 ·have hkl:=(List.getElem?_eq_some_iff.1 hx).1
  by_cases hk : k + 1 < f.Code.length
  ·have hins:=h.body k x hx hk
   cases hins with
   | jump t h1=>simp [Nx] at hj; subst hj; exact h1
   | branch a t h0 h1 =>
    simp [Nx] at hj
    have : j = t ∨ j = (k : Int) + 1:=by
     split at hj
     ·simpa using hj
     ·split at hj
      ·simp at hj; omega
      ·simp at hj; omega
    rcases this with rfl | rfl <;> omega
   | bin op a b c h1 h2 h3 h4 h5 h6 =>
    simp [Nx,show op ≠ 20 by omega,show op ≠ 23 by omega,show op ≠ 24 by omega,show op ≠ 21 by omega] at hj
    subst hj; omega
   | un op a h1 h2 =>
    simp [Nx,show op ≠ 20 by omega,show op ≠ 23 by omega,show op ≠ 24 by omega,show op ≠ 21 by omega] at hj
    subst hj; omega
   | _=>simp [Nx] at hj; subst hj; omega
  ·have he:=h.last x (by rw [show f.Code.length - 1 = k by omega]; exact hx)
   rcases he with rfl | ⟨w,_,rfl⟩ <;> simp [Nx] at hj
 ·obtain ⟨k,hk⟩:=List.getElem?_of_mem hx
  have hkl:=(List.getElem?_eq_some_iff.1 hk).1
  by_cases hk1 : k + 1 < f.Code.length
  ·have hins:=h.body k x hk hk1
   cases hins with
   | load a b h0 h1 h2=>simp [NW] at hv; subst hv; exact ⟨h1,h2⟩
   | move a b h0 h1 h2=>simp [NW] at hv; subst hv; exact ⟨h1,h2⟩
   | bin op a b c h1 h2 h3 h4 h5 h6=>simp [NW,show op ≠ 15 by omega,show op ≠ 17 by omega] at hv
   | un op a h1 h2=>simp [NW,show op ≠ 15 by omega,show op ≠ 17 by omega] at hv
   | _=>simp [NW] at hv
  ·have he:=h.last x (by rw [show f.Code.length - 1 = k by omega]; exact hk)
   rcases he with rfl | ⟨w,_,rfl⟩ <;> simp [NW] at hv
end Go.Proofs.YtfpgidpffhmadaaGreatDoor
namespace Go.Proofs.YtfpgidpffhmadaaGreatDoor
open Go Go.Dw Go.Proofs
attribute [local simp] Nj Bool.cond_eq_ite
def MJ (n : Int) (s : List Int) : Prop:=MP s ∧ ∀ x ∈ s,x < n
theorem MJ.nil (n : Int) : MJ n []:=⟨MP.nil,fun x hx=>by cases hx⟩
theorem MJ.add {n m : Int} {s : List Int} (h : MJ n s) (hm : 0 ≤ m ∧ m < n) (hn : n ≤ 512) : MJ n (OR m s) ∧ Qr s m = some (OR m s):=by
 have hl:=h.1.length_le
 refine ⟨?_,add_eq s m (by omega)⟩
 unfold OR
 rw [if_pos (by omega)]
 refine ⟨h.1.QX (by omega),fun x hx=>?_⟩
 rw [Xo] at hx
 rcases hx with rfl | hx
 ·exact hm.2
 ·exact h.2 x hx
def RowsIn (n : Int) (g : List (List Int)) : Prop:=∀ s ∈ g,MJ n s
theorem RowsIn.set {n : Int} {g : List (List Int)} (h : RowsIn n g) {i : Nat} {s : List Int} (hs : MJ n s) : RowsIn n (g.set i s):=by
 intro x hx
 rcases List.mem_or_eq_of_mem_set hx with h1 | rfl
 ·exact h x h1
 ·exact hs
end Go.Proofs.YtfpgidpffhmadaaGreatDoor
namespace Go.Proofs.YtfpgidpffhmadaaGreatDoor
open Go Go.Dw Go.Proofs
attribute [local simp] Nj Bool.cond_eq_ite
def inN (x : LU) (s : List Int) : List Int:=NN (if x.Op = 16 ∨ x.Op = 17 then s.filter (· != x.A) else s) (NW x)
theorem Air (x : LU) (s : List Int) (h : s.length ≤ 900000) : VG x s = some (inN x s):=by
 obtain ⟨op,a,b,c,i⟩:=x
 have hu : SB ⟨op,a,b,c,i⟩ = some (NW ⟨op,a,b,c,i⟩):=by
  unfold SB NW
  by_cases h15 : op = 15
  ·simp [h15]
  ·have e15 : (op == 15) = false:=by simpa using h15
   by_cases h17 : op = 17
   ·simp [h17]
   ·have e17 : (op == 17) = false:=by simpa using h17
    simp [h15,e15,h17,e17]
 have hul : (NW ⟨op,a,b,c,i⟩).length ≤ 1:=by unfold NW; split <;> simp
 have hfl : (s.filter (· != a)).length ≤ s.length:=List.length_filter_le ..
 have hr:=Agr s a (by omega)
 have hu1:=union_eq (s.filter (· != a)) (NW ⟨op,a,b,c,i⟩) (by omega)
 have hu2:=union_eq s (NW ⟨op,a,b,c,i⟩) (by omega)
 unfold VG Ou PW inN
 by_cases h16 : op = 16
 ·subst h16; simp [hr,hu,hu1]
 ·have e16 : (op == 16) = false:=by simpa using h16
  by_cases h17 : op = 17
  ·subst h17; simp [hr,hu,hu1]
  ·have e17 : (op == 17) = false:=by simpa using h17
   simp [h16,e16,h17,e17,hu,hu2]
theorem Un {f : LY} (hf : MN f) {x : LU} (hx : x ∈ f.Code) {s : List Int} (hs : MJ f.Slots.length s) :
  MJ f.Slots.length (inN x s) ∧ ∀ v,v ∈ inN x s ↔ (v ∈ s ∧ ¬ ((x.Op = 16 ∨ x.Op = 17) ∧ x.A = v)) ∨ v ∈ NW x:=by
 have hsl:=hf.slots
 have h0 : MJ f.Slots.length (if x.Op = 16 ∨ x.Op = 17 then s.filter (· != x.A) else s):=by
  split
  ·exact ⟨hs.1.filter _,fun v hv=>hs.2 v (List.mem_filter.1 hv).1⟩
  ·exact hs
 obtain ⟨h1,h2⟩:=SN (n:=f.Slots.length) (by omega) (b:=NW x) h0 (hf.uses x hx)
 refine ⟨h1,fun v=>?_⟩
 unfold inN
 rw [h2]
 by_cases hd : x.Op = 16 ∨ x.Op = 17
 ·simp only [hd,if_true,List.mem_filter,true_and]
  constructor
  ·rintro (⟨h3,h4⟩ | h3)
   ·exact .inl ⟨h3,fun e=>by simp [e] at h4⟩
   ·exact .inr h3
  ·rintro (⟨h3,h4⟩ | h3)
   ·exact .inl ⟨h3,by simpa using fun e : v = x.A=>h4 e.symm⟩
   ·exact .inr h3
 ·simp [hd]
def Ma (f : LY) (j : Int) : LU:=(f.Code[j.toNat]?).getD default
def Mn (l : List (List Int)) (j : Int) : List Int:=(l[j.toNat]?).getD []
def Tf (f : LY) (l : List (List Int)) (k : Int) : List Int:=(Nx (Ma f k) k).foldl (fun o j=>NN o (inN (Ma f j) (Mn l j))) []
def Pc (f : LY) (l : List (List Int)) : List (List Int):=(List.range f.Code.length).map fun k=>Tf f l (k : Nat)
def Od (f : LY) (l : List (List Int)) : Prop:=l.length = f.Code.length ∧ ∀ s ∈ l,MJ f.Slots.length s
theorem Aff {f : LY} (hf : MN f) {l : List (List Int)} (hl : Od f l) : ∀ {js : List Int} {o : List Int},(∀ j ∈ js,0 ≤ j ∧ j < f.Code.length) → MJ f.Slots.length o →
  MJ f.Slots.length (js.foldl (fun o j=>NN o (inN (Ma f j) (Mn l j))) o) ∧ ∀ v,v ∈ js.foldl (fun o j=>NN o (inN (Ma f j) (Mn l j))) o ↔ v ∈ o ∨ ∃ j ∈ js,v ∈ inN (Ma f j) (Mn l j)
 | [],o,_,ho=>⟨ho,fun v=>by simp⟩
 | j :: js,o,hj,ho=>by
  have hsl:=hf.slots
  have h0:=hj j (List.mem_cons_self ..)
  have hc : Ma f j ∈ f.Code:=by
   unfold Ma
   rw [List.getElem?_eq_getElem (show j.toNat < f.Code.length by omega)]
   exact List.getElem_mem _
  have ho' : MJ f.Slots.length (Mn l j):=by
   unfold Mn
   rw [List.getElem?_eq_getElem (show j.toNat < l.length by have:=hl.1; omega)]
   exact hl.2 _ (List.getElem_mem _)
  obtain ⟨h1,h2⟩:=Un hf hc ho'
  obtain ⟨h3,h4⟩:=SN (n:=f.Slots.length) (by omega) (b:=inN (Ma f j) (Mn l j)) ho fun x hx=>⟨(h1.1.2 x hx).1,h1.2 x hx⟩
  obtain ⟨h5,h6⟩:=Aff hf hl (fun q hq=>hj q (List.mem_cons_of_mem _ hq)) h3
  refine ⟨h5,fun v=>?_⟩
  simp only [List.foldl_cons]
  rw [h6,h4]
  simp only [List.mem_cons,exists_eq_or_imp,or_assoc]
theorem Vj {f : LY} (hf : MN f) {l : List (List Int)} (hl : Od f l) {k : Nat} (hk : k < f.Code.length) :
  MJ f.Slots.length (Tf f l k) ∧ ∀ v,v ∈ Tf f l k ↔ ∃ j ∈ Nx (Ma f k) k,v ∈ inN (Ma f j) (Mn l j):=by
 have hx : f.Code[k]? = some (Ma f k):=by simp [Ma,hk]
 obtain ⟨h1,h2⟩:=Aff hf hl (js:=Nx (Ma f k) k) (hf.next k _ hx) (MJ.nil _)
 exact ⟨h1,fun v=>by unfold Tf; rw [h2]; simp⟩
theorem Afu {f : LY} (hf : MN f) {l : List (List Int)} (hl : Od f l) : Od f (Pc f l):=by
 refine ⟨by simp [Pc],fun s hs=>?_⟩
 obtain ⟨k,hk,rfl⟩:=List.mem_map.1 hs
 exact (Vj hf hl (List.mem_range.1 hk)).1
theorem step_eq {f : LY} (hf : MN f) {l : List (List Int)} (hl : Od f l) : Us f ⟨l⟩ = some ⟨Pc f l⟩:=by
 have hlen:=hf.len'
 unfold Us
 rw [Nj (by omega)]
 have key : Hs (MD (fun s : List (List Int) × Int=>Rc f ⟨l⟩ s.1 s.2) (List.replicate (f.Code.length : Int).toNat ([] : List Int),0)) fun r=>r = ⟨Pc f l⟩:=by
  refine Hs.loop (fun s=>s.1.length = f.Code.length ∧ ∃ k : Nat,s.2 = (k : Int) ∧ k ≤ f.Code.length ∧ ∀ (j : Nat) r,s.1[j]? = some r → r = if j < k then Tf f l j else []) (fun s=>f.Code.length - s.2.toNat) ⟨by simp,0,rfl,Nat.zero_le _,fun j r hj=>?_⟩ ?_
  ·have:=List.mem_of_getElem? hj
   rw [List.mem_replicate] at this
   simp [this.2]
  rintro ⟨x,k'⟩ ⟨hxl,k,hke,hk,hall⟩
  simp only at hxl hke hall
  subst hke
  by_cases hlt : k < f.Code.length
  ·have w:=Mx (show k < 9223372036854775807 by omega)
   have hx : f.Code[k]? = some (Ma f k):=by simp [Ma,hlt]
   have hxk : x[k]? = some []:=by
    have h1 : x[k]? = some (x[k]'(by omega)):=List.getElem?_eq_getElem _
    have:=hall k _ h1
    rw [h1,this,if_neg (by omega)]
   have hset : x.set k [] = x:=by
    obtain ⟨h1,h2⟩:=List.getElem?_eq_some_iff.1 hxk
    rw [← h2]; exact List.set_getElem_self h1
   have inner:=Pg (body:=fun s : List (List Int) × Int=>Re (Nx (Ma f k) k) k f ⟨l⟩ s.1 s.2) (Nx (Ma f k) k) (fun (o : List Int) i=>(x.set k o,i)) (fun o _=>MJ f.Slots.length o)
    (fun o js=>some (.inl (x.set k (js.foldl (fun o j=>NN o (inN (Ma f j) (Mn l j))) o),((k + 1 : Nat) : Int))))
    (fun o _=>⟨_,by simp [Re,Vq,w]; rfl,by simp⟩) (fun o i j r ho hd hi hj=>by
     left
     have wi:=Mx (show i < 9223372036854775807 by
      have : (Nx (Ma f k) k).length ≤ 2:=by unfold Nx; (repeat' split) <;> simp
      omega)
     have hjm:=hf.next k _ hx j (List.mem_of_getElem? hj)
     have hjc : f.Code[j.toNat]? = some (Ma f j):=by simp [Ma,show j.toNat < f.Code.length by omega]
     have hjl : j.toNat < l.length:=by have:=hl.1; omega
     have hjo : l[j.toNat]? = some (Mn l j):=by simp [Mn,hjl]
     have hos : MJ f.Slots.length (Mn l j):=hl.2 _ (List.mem_of_getElem? hjo)
     have hsl:=hf.slots
     obtain ⟨g1,g2⟩:=Un hf (List.mem_of_getElem? hjc) hos
     obtain ⟨g3,g4⟩:=SN (n:=f.Slots.length) (by omega) (b:=inN (Ma f j) (Mn l j)) ho fun x hx=>⟨(g1.1.2 x hx).1,g1.2 x hx⟩
     have e1:=Air (Ma f j) (Mn l j) (by have:=hos.1.length_le; omega)
     have e2:=union_eq o (inN (Ma f j) (Mn l j)) (by have:=ho.1.length_le; have:=g1.1.length_le; omega)
     obtain ⟨_,hje⟩:=List.getElem?_eq_some_iff.1 hj
     refine ⟨NN o (inN (Ma f j) (Mn l j)),g3,?_,by simp⟩
     simp [Re,hi,hje,hxl,hlt,SU _ hjm.1,hjc,hjo,e1,e2,wi]) [] (MJ.nil _)
   simp only [hset] at inner
   refine ⟨.inl (x.set k (Tf f l k),((k + 1 : Nat) : Int)),?_,⟨by simpa using hxl,k + 1,rfl,hlt,fun j r hj=>?_⟩,by simp only; omega⟩
   ·simp only [Rc,decide_eq_true (Int.ofNat_lt.2 hlt),cond_true,Afp hx (by omega),Option.bind_some]
    exact inner
   ·simp only at hj
    by_cases e : k = j
    ·subst e
     rw [List.getElem?_set_self (by omega)] at hj
     obtain rfl:=Option.some.inj hj
     rw [if_pos (by omega)]
    ·rw [List.getElem?_set_ne e] at hj
     rw [hall j r hj]
     by_cases e2 : j < k
     ·rw [if_pos e2,if_pos (by omega)]
     ·rw [if_neg e2,if_neg (by omega)]
  ·refine ⟨.inr ⟨x⟩,by simp [Rc,hlt],?_⟩
   show Mf.mk x = ⟨Pc f l⟩
   congr 1
   refine List.ext_getElem (by simp [Pc,hxl]) fun j h1 h2=>?_
   have:=hall j _ (List.getElem?_eq_getElem h1)
   rw [this,if_pos (by omega)]
   simp [Pc]
 obtain ⟨r,h1,rfl⟩:=key
 exact h1
def LE (a b : List (List Int)) : Prop:=∀ (k : Nat) s t,a[k]? = some s → b[k]? = some t → ∀ v ∈ s,v ∈ t
theorem LE.trans {a b c : List (List Int)} (h1 : LE a b) (h2 : LE b c) (hl : a.length = b.length) : LE a c:=by
 intro k s t hs ht v hv
 have hk:=(List.getElem?_eq_some_iff.1 hs).1
 have hb : b[k]? = some (b[k]'(by omega)):=List.getElem?_eq_getElem _
 exact h2 k _ t hb ht v (h1 k s _ hs hb v hv)
theorem Agv : ∀ {a b : List (List Int)},a.length = b.length → (∀ s ∈ a,MP s) → (∀ s ∈ b,MP s) → LE a b → (a.map List.length).sum ≤ (b.map List.length).sum ∧ ((a.map List.length).sum = (b.map List.length).sum → a = b)
 | [],[],_,_,_,_=>⟨Nat.le_refl _,fun _=>rfl⟩
 | [],y :: b,h,_,_,_=>by simp at h
 | x :: a,[],h,_,_,_=>by simp at h
 | x :: a,y :: b,h,ha,hb,hle=>by
  have hsub:=(ha x (List.mem_cons_self ..)).sub (hb y (List.mem_cons_self ..)) (hle 0 x y rfl rfl)
  obtain ⟨h1,h2⟩:=Agv (a:=a) (b:=b) (by simpa using h) (fun s hs=>ha s (List.mem_cons_of_mem _ hs)) (fun s hs=>hb s (List.mem_cons_of_mem _ hs)) fun k s t hs ht=>hle (k + 1) s t (by simpa using hs) (by simpa using ht)
  have hlen:=hsub.length_le
  simp only [List.map_cons,List.sum_cons]
  refine ⟨by omega,fun he=>?_⟩
  rw [h2 (by omega),hsub.eq_of_length (by omega)]
theorem Aey : ∀ {a : List (List Int)},(∀ s ∈ a,MP s) → (a.map List.length).sum ≤ 512 * a.length
 | [],_=>by simp
 | x :: a,ha=>by
  have h1:=(ha x (List.mem_cons_self ..)).length_le
  have h2:=Aey (a:=a) fun s hs=>ha s (List.mem_cons_of_mem _ hs)
  simp only [List.map_cons,List.sum_cons,List.length_cons]
  omega
theorem Aic {f : LY} (hf : MN f) {x : LU} (hx : x ∈ f.Code) {s t : List Int} (hs : MJ f.Slots.length s) (ht : MJ f.Slots.length t) (h : ∀ v ∈ s,v ∈ t) : ∀ v ∈ inN x s,v ∈ inN x t:=by
 intro v hv
 rw [(Un hf hx hs).2] at hv
 rw [(Un hf hx ht).2]
 rcases hv with ⟨h1,h2⟩ | h1
 ·exact .inl ⟨h v h1,h2⟩
 ·exact .inr h1
theorem Aex {f : LY} (hf : MN f) {a b : List (List Int)} (ha : Od f a) (hb : Od f b) (h : LE a b) : LE (Pc f a) (Pc f b):=by
 intro k s t hs ht v hv
 have hk : k < f.Code.length:=by have:=(List.getElem?_eq_some_iff.1 hs).1; simpa [Pc] using this
 have e1 : s = Tf f a k:=by simp [Pc,hk] at hs; exact hs.symm
 have e2 : t = Tf f b k:=by simp [Pc,hk] at ht; exact ht.symm
 subst e1 e2
 rw [(Vj hf ha hk).2] at hv
 rw [(Vj hf hb hk).2]
 obtain ⟨j,hj,hv⟩:=hv
 have hx : f.Code[k]? = some (Ma f k):=by simp [Ma,hk]
 have hjm:=hf.next k _ hx j hj
 have hjc : f.Code[j.toNat]? = some (Ma f j):=by simp [Ma,show j.toNat < f.Code.length by omega]
 have hja : a[j.toNat]? = some (Mn a j):=by simp [Mn,show j.toNat < a.length by have:=ha.1; omega]
 have hjb : b[j.toNat]? = some (Mn b j):=by simp [Mn,show j.toNat < b.length by have:=hb.1; omega]
 exact ⟨j,hj,Aic hf (List.mem_of_getElem? hjc) (ha.2 _ (List.mem_of_getElem? hja)) (hb.2 _ (List.mem_of_getElem? hjb)) (h _ _ _ hja hjb) v hv⟩
structure AdV (f : LY) (l : List (List Int)) : Prop where
 ok : Od f l
 fix : Pc f l = l
 least : ∀ b,Od f b → LE (Pc f b) b → LE l b
theorem Aik {f : LY} (hf : MN f) : Hs (SY f) fun l=>AdV f l.Out:=by
 have hlen:=hf.len'
 unfold SY
 refine .chk (by omega) ?_
 refine Hs.loop (fun l=>Od f l ∧ LE l (Pc f l) ∧ ∀ b,Od f b → LE (Pc f b) b → LE l b) (fun l=>512 * f.Code.length - (l.map List.length).sum) ⟨⟨by simp,fun s hs=>?_⟩,fun k s t hs ht v hv=>?_,fun b _ _ k s t hs ht v hv=>?_⟩ ?_
 ·rw [List.mem_replicate] at hs; rw [hs.2]; exact MJ.nil _
 ·have:=List.mem_of_getElem? hs; rw [List.mem_replicate] at this; rw [this.2] at hv; cases hv
 ·have:=List.mem_of_getElem? hs; rw [List.mem_replicate] at this; rw [this.2] at hv; cases hv
 ·rintro l ⟨hl,hle,hleast⟩
  have hl':=Afu hf hl
  have e1:=step_eq hf hl
  have e2 : Uq ⟨Pc f l⟩ ⟨l⟩ = some (decide (Pc f l = l)):=by
   unfold Uq
   rw [AfX _ _ (by have:=hl'.1; simp only; omega) (fun s hs=>by have:=(hl'.2 s hs).1.length_le; omega)]
   rfl
  obtain ⟨s1,s2⟩:=Agv (by rw [hl.1,hl'.1]) (fun s hs=>(hl.2 s hs).1) (fun s hs=>(hl'.2 s hs).1) hle
  have s3:=Aey fun s hs=>(hl'.2 s hs).1
  rw [hl'.1] at s3
  unfold Ur
  rw [e1,Option.bind_some,e2,Option.bind_some]
  by_cases he : Pc f l = l
  ·simp only [he,decide_true,cond_true]
   exact .lft (.pure ⟨hl,he,hleast⟩)
  ·simp only [he,decide_false,cond_false]
   refine .cnt ⟨⟨hl',Aex hf hl hl' hle,fun b hb hb'=>(Aex hf hl hb (hleast b hb hb')).trans hb' (by rw [hl'.1,(Afu hf hb).1])⟩,?_⟩
   have : (l.map List.length).sum ≠ ((Pc f l).map List.length).sum:=fun e=>he (s2 e).symm
   simp only
   omega
end Go.Proofs.YtfpgidpffhmadaaGreatDoor
namespace Go.Proofs.YtfpgidpffhmadaaGreatDoor
open Go Go.Dw Go.Proofs
attribute [local simp] Nj Bool.cond_eq_ite
theorem AhY (x : LU) : Ry x = some (NW x):=by
 obtain ⟨op,a,b,c,i⟩:=x
 unfold Ry NW
 by_cases h15 : op = 15
 ·simp [h15]
 ·have e15 : (op == 15) = false:=by simpa using h15
  by_cases h17 : op = 17
  ·simp [h17]
  ·have e17 : (op == 17) = false:=by simpa using h17
   simp [h15,e15,h17,e17]
theorem Aeb (x : LU) : OG x = some (if x.Op = 16 ∨ x.Op = 17 then (x.A,true) else (0,false)):=by
 obtain ⟨op,a,b,c,i⟩:=x
 unfold OG
 by_cases h16 : op = 16
 ·simp [h16]
 ·have e16 : (op == 16) = false:=by simpa using h16
  by_cases h17 : op = 17
  ·simp [h17]
  ·have e17 : (op == 17) = false:=by simpa using h17
   simp [h16,e16,h17,e17]
theorem AiR (x : LU) : (NW x).length ≤ 1:=by unfold NW; split <;> simp
theorem AgA (x : LU) (hu : ∀ v ∈ NW x,0 ≤ v ∧ v < 512) : NN [] (NW x) = NW x:=by
 unfold NW at hu ⊢
 split
 ·rename_i h
  rw [if_pos h] at hu
  have:=hu x.B (by simp)
  simp [NN,OR,QX,this]
 ·rfl
theorem AlF {x : LU} {s : List Int} (hs : MP s) (hu : ∀ v ∈ NW x,0 ≤ v ∧ v < 512) : VV x s = some (inN x s):=by
 have hl:=AiR x
 have h1:=AgD hu (by omega)
 rw [AgA x hu] at h1
 have h2:=AeV hs x.A
 have h3:=AaH (hs.filter (· != x.A)) hu (by omega)
 have h4:=AaH hs hu (by omega)
 unfold VV inN
 rw [Aeb,Option.bind_some,AhY]
 by_cases h : x.Op = 16 ∨ x.Op = 17
 ·simp only [h,if_true,cond_true,Option.bind_some,h1,h2,h3]
 ·simp only [h,if_false,cond_false,Option.bind_some,h1,h4]
theorem Afy {a b : List Int} (ha : MP a) (hb : MP b) : QB a b = some (a.filter fun v=>!decide (v ∈ b)):=by
 obtain ⟨r,h1,h2⟩:=Afz a b (by have:=ha.length_le; omega) (by have:=hb.length_le; omega)
 rw [h1,h2.eq (Qk.AdN (ha.filter fun v=>!decide (v ∈ b))) fun v _ _=>by simp [List.mem_filter]]
theorem Agu (a b : List Int) (ha : a.length ≤ 16777215) (hb : b.length ≤ 9223372036854775807) : SX a b = some (a.filter fun v=>!decide (v ∈ b)):=by
 unfold SX
 have:=Pg (body:=fun p : List Int × Int=>Ps a b p.1 p.2) a (fun (out : List Int) i=>(out,i)) (fun out i=>out.length ≤ i) (fun out l=>some (out ++ l.filter fun v=>!decide (v ∈ b)))
  (fun out _=>⟨out,by simp [Ps],by simp⟩) (fun out i x r ho hd hi hx=>by
   have w:=Mx (show i < 9223372036854775807 by omega)
   obtain ⟨_,rfl⟩:=List.getElem?_eq_some_iff.1 hx
   left
   by_cases h : a[i] ∈ b
   ·exact ⟨out,by omega,by simp [Ps,hi,AdM b _ hb,h,w],by simp [h]⟩
   ·exact ⟨out ++ [a[i]],by simp; omega,by simp [Ps,hi,AdM b _ hb,h,w,show out.length ≤ 16777215 by omega],by simp [h]⟩)
  [] (by simp)
 simpa using this
end Go.Proofs.YtfpgidpffhmadaaGreatDoor
namespace Go.Proofs.YtfpgidpffhmadaaGreatDoor
open Go Go.Dw Go.Proofs
attribute [local simp] Nj Bool.cond_eq_ite
theorem Adi : Lib.compact ([] : List Int) = []:=by simp [Lib.compact,Lib.compactUpTo]
theorem Adj (a : Int) : Lib.compact [a] = [a]:=by simp [Lib.compact,Lib.compactUpTo,List.range_succ,Lib.keeps]
theorem AaI (a b : Int) : Lib.compact [a,b] = if a = b then [a] else [a,b]:=by
 by_cases h : a = b
 ·subst h; simp [Lib.compact,Lib.compactUpTo,List.range_succ,Lib.keeps]
 ·have h' : ¬ b = a:=fun e=>h e.symm
  simp [Lib.compact,Lib.compactUpTo,List.range_succ,Lib.keeps,h,h']
theorem Aft (a : Int) : NL [a] = [a]:=by simp [NL]
theorem Afs : NL [] = []:=by simp [NL]
theorem Ail (a b : Int) : NL [a,b] = if a ≤ b then [a,b] else [b,a]:=by
 unfold NL List.mergeSort
 by_cases h : a ≤ b <;> simp [List.MergeSort.Internal.splitInTwo,h]
theorem Aia {f : LY} {k : Nat} {x : LU} (h : f.Code[k]? = some x) (hk : k < 9223372036854775807) : VW f (k : Int) = some (Nx x k):=by
 obtain ⟨hl,hx⟩:=List.getElem?_eq_some_iff.1 h
 have hnl : ¬ f.Code.length ≤ k:=by omega
 have w : IntKind.i64.wrap ((k : Int) + 1) = (k : Int) + 1:=wrap64 (by omega) (by omega)
 unfold VW Wo TT Nx Sd
 obtain ⟨op,a,b,c,i⟩:=x
 by_cases h20 : op = 20
 ·subst h20; simp [hx,hl,hnl,show ¬ (k : Int) < 0 by omega,Aft,Adj]
 ·have e20 : (op == 20) = false:=by simpa using h20
  by_cases h23 : op = 23
  ·subst h23; simp [hx,hl,hnl,show ¬ (k : Int) < 0 by omega,Afs,Adi]
  ·have e23 : (op == 23) = false:=by simpa using h23
   by_cases h24 : op = 24
   ·subst h24; simp [hx,hl,hnl,show ¬ (k : Int) < 0 by omega,Afs,Adi]
   ·have e24 : (op == 24) = false:=by simpa using h24
    by_cases h21 : op = 21
    ·subst h21
     simp [hx,hl,hnl,show ¬ (k : Int) < 0 by omega,w,Ail]
     by_cases hb : b < (k : Int) + 1
     ·simp [hb,show ¬ (k : Int) + 1 ≤ b by omega,AaI,show ¬ b = (k : Int) + 1 by omega]
     ·by_cases hb' : (k : Int) + 1 < b
      ·simp [hb,hb',show (k : Int) + 1 ≤ b by omega,AaI,show ¬ (k : Int) + 1 = b by omega]
      ·simp [AaI,show (k : Int) + 1 = b by omega]
    ·have e21 : (op == 21) = false:=by simpa using h21
     simp [hx,hl,hnl,show ¬ (k : Int) < 0 by omega,w,e24,h20,h23,h24,h21,Aft,Adj]
end Go.Proofs.YtfpgidpffhmadaaGreatDoor
namespace Go.Proofs.YtfpgidpffhmadaaGreatDoor
open Go Go.Dw Go.Proofs
attribute [local simp] Nj
theorem Afj {s : List Int} (hs : s.Pairwise (· < ·)) {n : Int} {h : s.length - 1 < s.length} (hl : s[s.length - 1] < n) : ∀ v ∈ s,v < n:=by
 intro v hv
 obtain ⟨i,hi,rfl⟩:=List.getElem_of_mem hv
 by_cases e : i = s.length - 1
 ·subst e; exact hl
 ·have:=List.pairwise_iff_getElem.1 hs i (s.length - 1) hi h (by omega)
  omega
theorem Aiq (s : List Int) (f : LY) (hs : s.length ≤ maxLen) : Hs (NT s f) fun b=>(b = false ↔ MJ f.Slots.length s):=by
 have hm : maxLen ≤ 9223372036854775807:=by decide
 unfold NT
 rw [Agf s (by omega),Option.bind_some]
 by_cases hc : QA none s = true
 ·have hset:=(AcV s).1 hc
  rw [hc]
  simp only [Bool.not_true,cond_false]
  refine .dec (fun hp=>?_) fun hp=>?_
  ·have hp : 0 < s.length:=by omega
   have hi : s.length - 1 < s.length:=by omega
   have w : IntKind.i64.wrap ((s.length : Int) - 1) = ((s.length - 1 : Nat) : Int):=by rw [wrap64 (by omega) (by omega)]; omega
   rw [w,Of,List.getElem?_eq_getElem hi,Option.bind_some]
   refine .pure ⟨fun h=>⟨hset,Afj hset.1 (h:=hi) (by simpa using h)⟩,fun h=>?_⟩
   have:=h.2 _ (List.getElem_mem hi)
   simp; omega
  ·have : s = []:=List.length_eq_zero_iff.1 (by omega)
   subst this
   exact .pure ⟨fun _=>MJ.nil _,fun _=>rfl⟩
 ·have hc' : QA none s = false:=by simpa using hc
  rw [hc']
  simp only [Bool.not_false,cond_true]
  exact .pure ⟨fun h=>(by cases h),fun h=>(hc ((AcV s).2 h.1)).elim⟩
theorem Aeu (f : LY) (l : Mf) (hl : l.Out.length ≤ maxLen) (hr : ∀ s ∈ l.Out,s.length ≤ maxLen) : Hs (Ox f l) fun b=>(b = true ↔ Od f l.Out):=by
 have hm : maxLen ≤ 9223372036854775807:=by decide
 unfold Ox
 refine .beq (fun he=>?_) fun hne=>.pure ⟨fun h=>(by cases h),fun h=>(hne (by rw [h.1])).elim⟩
 have he : l.Out.length = f.Code.length:=by omega
 have key : Hs (MS l.Out f) fun i=>(0 ≤ i ↔ ¬ ∀ s ∈ l.Out,MJ f.Slots.length s):=by
  unfold MS
  refine Hs.loop (fun i=>∃ k : Nat,i = (k : Int) ∧ k ≤ l.Out.length ∧ ∀ (j : Nat) s,j < k → l.Out[j]? = some s → MJ f.Slots.length s) (fun i=>l.Out.length - i.toNat) ⟨0,rfl,Nat.zero_le _,fun j s h=>absurd h (Nat.not_lt_zero _)⟩ ?_
  rintro _ ⟨k,rfl,hk,hall⟩
  unfold Ns
  refine .dec (fun hlt=>?_) fun hge=>?_
  ·have hlt : k < l.Out.length:=by omega
   rw [Of,List.getElem?_eq_getElem hlt,Option.bind_some]
   refine (Aiq _ f (hr _ (List.getElem_mem hlt))).bind fun b hb=>.cond (fun h=>?_) fun h=>?_
   ·refine .lft (.pure ⟨fun _ hh=>?_,fun _=>by omega⟩)
    have:=hb.2 (hh _ (List.getElem_mem hlt))
    rw [h] at this; cases this
   ·rw [Mx (by omega)]
    refine .cnt ⟨⟨k + 1,rfl,hlt,fun j s hj hs=>?_⟩,by simp only; omega⟩
    by_cases e : j = k
    ·subst e
     rw [List.getElem?_eq_getElem hlt] at hs
     cases hs
     exact hb.1 h
    ·exact hall j s (by omega) hs
  ·refine .lft (.pure ⟨fun h=>by omega,fun h=>(h fun s hs=>?_).elim⟩)
   obtain ⟨j,hj⟩:=List.getElem?_of_mem hs
   exact hall j s (by have:=(List.getElem?_eq_some_iff.1 hj).1; omega) hj
 unfold MU
 refine Hs.bind (P:=fun b=>(b = true ↔ ¬ ∀ s ∈ l.Out,MJ f.Slots.length s)) (key.bind fun i hi=>.pure (by simpa using hi)) fun b hb=>.pure ?_
 constructor
 ·intro h
  have hb' : b = false:=by simpa using h
  refine ⟨he,fun s hs=>?_⟩
  refine Classical.byContradiction fun hn=>?_
  have:=hb.2 fun hh=>hn (hh s hs)
  rw [hb'] at this; cases this
 ·intro h
  have : ¬ b = true:=fun hbt=>hb.1 hbt h.2
  simpa using this
theorem Afq (f : LY) (l : Mf) (hl : l.Out.length ≤ maxLen) (hr : ∀ s ∈ l.Out,s.length ≤ maxLen) : Hs (RB f l) fun b=>(b = true ↔ Od f l.Out):=by
 have hm : maxLen ≤ 9223372036854775807:=by decide
 unfold RB
 refine .bne (fun hne=>.pure ⟨fun h=>(by cases h),fun h=>(hne (by rw [h.1])).elim⟩) fun he=>?_
 have he : l.Out.length = f.Code.length:=by omega
 refine Hs.loop (fun i=>∃ k : Nat,i = (k : Int) ∧ k ≤ l.Out.length ∧ ∀ (j : Nat) s,j < k → l.Out[j]? = some s → MJ f.Slots.length s) (fun i=>l.Out.length - i.toNat) ⟨0,rfl,Nat.zero_le _,fun j s h=>absurd h (Nat.not_lt_zero _)⟩ ?_
 rintro _ ⟨k,rfl,hk,hall⟩
 unfold Uu
 refine .dec (fun hlt=>?_) fun hge=>?_
 ·have hlt : k < l.Out.length:=by omega
  have hg : l.Out[k]? = some l.Out[k]:=List.getElem?_eq_getElem hlt
  have hlen:=hr _ (List.getElem_mem hlt)
  rw [Of,hg,Option.bind_some,AgF _ (by omega),Option.bind_some]
  have next : MJ f.Slots.length l.Out[k] → Hs (cnt (R:=Bool) (IntKind.i64.wrap ((k : Int) + 1))) (Rnd (fun i : Int=>∃ k : Nat,i = (k : Int) ∧ k ≤ l.Out.length ∧ ∀ (j : Nat) s,j < k → l.Out[j]? = some s → MJ f.Slots.length s) (fun i=>l.Out.length - i.toNat) (k : Int) fun b=>(b = true ↔ Od f l.Out)):=by
   intro hset
   rw [Mx (by omega)]
   refine .cnt ⟨⟨k + 1,rfl,hlt,fun j s hj hs=>?_⟩,by simp only; omega⟩
   by_cases e : j = k
   ·subst e
    rw [hg] at hs
    cases hs
    exact hset
   ·exact hall j s (by omega) hs
  have stop : ¬ MJ f.Slots.length l.Out[k] → ((false : Bool) = true ↔ Od f l.Out):=fun hn=>⟨fun h=>(by cases h),fun h=>(hn (h.2 _ (List.getElem_mem hlt))).elim⟩
  by_cases hc : QA none l.Out[k] = true
  ·have hset:=(AcV _).1 hc
   rw [hc]
   simp only [Bool.not_true,cond_false,Option.bind_some]
   refine .dec (fun hp=>?_) fun hp=>?_
   ·have hp : 0 < l.Out[k].length:=by omega
    have hi : l.Out[k].length - 1 < l.Out[k].length:=by omega
    have w : IntKind.i64.wrap ((l.Out[k].length : Int) - 1) = ((l.Out[k].length - 1 : Nat) : Int):=by rw [wrap64 (by omega) (by omega)]; omega
    rw [w,Of,List.getElem?_eq_getElem hi,Option.bind_some]
    refine .dec (fun h=>.lft (.pure (stop fun hh=>?_))) fun h=>next ⟨hset,Afj hset.1 (h:=hi) (by omega)⟩
    have:=hh.2 _ (List.getElem_mem hi)
    omega
   ·have h0 : l.Out[k] = []:=List.length_eq_zero_iff.1 (by omega)
    exact next (by rw [h0]; exact MJ.nil _)
  ·have hc' : QA none l.Out[k] = false:=by simpa using hc
   rw [hc']
   simp only [Bool.not_false,cond_true]
   exact .lft (.pure (stop fun h=>hc ((AcV _).2 h.1)))
 ·refine .lft (.pure ⟨fun _=>⟨he,fun s hs=>?_⟩,fun _=>rfl⟩)
  obtain ⟨j,hj⟩:=List.getElem?_of_mem hs
  exact hall j s (by have:=(List.getElem?_eq_some_iff.1 hj).1; omega) hj
def Qn (f : LY) (l : List (List Int)) (k : Int) : List Int :=
 (Nx (Ma f k) k).foldl (fun o j=>NN o ((inN (Ma f j) (Mn l j)).filter fun v=>!decide (v ∈ Mn l k))) []
theorem Od.at {f : LY} {l : List (List Int)} (h : Od f l) {j : Int} (h0 : 0 ≤ j) (h1 : j < f.Code.length) : l[j.toNat]? = some (Mn l j) ∧ MJ f.Slots.length (Mn l j):=by
 have hl : j.toNat < l.length:=by have:=h.1; omega
 have : l[j.toNat]? = some (Mn l j):=by simp [Mn,hl]
 exact ⟨this,h.2 _ (List.mem_of_getElem? this)⟩
theorem MN.at {f : LY} (_h : MN f) {j : Int} (h0 : 0 ≤ j) (h1 : j < f.Code.length) : f.Code[j.toNat]? = some (Ma f j) ∧ Ma f j ∈ f.Code:=by
 have : f.Code[j.toNat]? = some (Ma f j):=by simp [Ma,show j.toNat < f.Code.length by omega]
 exact ⟨this,List.mem_of_getElem? this⟩
theorem MN.AiQ {f : LY} (h : MN f) {x : LU} (hx : x ∈ f.Code) : ∀ v ∈ NW x,0 ≤ v ∧ v < 512:=fun v hv=>by have:=h.uses x hx v hv; have:=h.slots; omega
theorem Acy {f : LY} (hf : MN f) {l : List (List Int)} (hl : Od f l) {k j : Int} (_hk : 0 ≤ k ∧ k < f.Code.length) (hj : 0 ≤ j ∧ j < f.Code.length) {o : List Int} (ho : MJ f.Slots.length o) :
  MJ f.Slots.length (NN o ((inN (Ma f j) (Mn l j)).filter fun v=>!decide (v ∈ Mn l k))) ∧ ∀ v,v ∈ NN o ((inN (Ma f j) (Mn l j)).filter fun v=>!decide (v ∈ Mn l k)) ↔ v ∈ o ∨ (v ∈ inN (Ma f j) (Mn l j) ∧ v ∉ Mn l k):=by
 have hsl:=hf.slots
 obtain ⟨g1,g2⟩:=Un hf (hf.at hj.1 hj.2).2 (hl.at hj.1 hj.2).2
 obtain ⟨g3,g4⟩:=SN (n:=f.Slots.length) (by omega) (b:=(inN (Ma f j) (Mn l j)).filter fun v=>!decide (v ∈ Mn l k)) ho fun x hx=>⟨(g1.1.2 x (List.mem_filter.1 hx).1).1,g1.2 x (List.mem_filter.1 hx).1⟩
 exact ⟨g3,fun v=>by rw [g4]; simp [List.mem_filter]⟩
theorem Aew {f : LY} (hf : MN f) {l : List (List Int)} (hl : Od f l) {k : Int} (hk : 0 ≤ k ∧ k < f.Code.length) : ∀ {js : List Int} {o : List Int},(∀ j ∈ js,0 ≤ j ∧ j < f.Code.length) → MJ f.Slots.length o →
  MJ f.Slots.length (js.foldl (fun o j=>NN o ((inN (Ma f j) (Mn l j)).filter fun v=>!decide (v ∈ Mn l k))) o) ∧ ∀ v,v ∈ js.foldl (fun o j=>NN o ((inN (Ma f j) (Mn l j)).filter fun v=>!decide (v ∈ Mn l k))) o ↔ v ∈ o ∨ ∃ j ∈ js,v ∈ inN (Ma f j) (Mn l j) ∧ v ∉ Mn l k
 | [],o,_,ho=>⟨ho,fun v=>by simp⟩
 | j :: js,o,hj,ho=>by
  obtain ⟨h1,h2⟩:=Acy hf hl hk (hj j (List.mem_cons_self ..)) ho
  obtain ⟨h5,h6⟩:=Aew hf hl hk (fun q hq=>hj q (List.mem_cons_of_mem _ hq)) h1
  refine ⟨h5,fun v=>?_⟩
  simp only [List.foldl_cons]
  rw [h6,h2]
  simp only [List.mem_cons,exists_eq_or_imp,or_assoc]
theorem Abw {f : LY} (hf : MN f) {l : List (List Int)} (hl : Od f l) {k : Nat} (hk : k < f.Code.length) : MJ f.Slots.length (Qn f l k) ∧ ∀ v,v ∈ Qn f l k ↔ ∃ j ∈ Nx (Ma f k) k,v ∈ inN (Ma f j) (Mn l j) ∧ v ∉ Mn l k:=by
 have hx : f.Code[k]? = some (Ma f k):=by simp [Ma,hk]
 obtain ⟨h1,h2⟩:=Aew hf hl (k:=(k : Int)) ⟨by omega,by omega⟩ (hf.next k _ hx) (MJ.nil _)
 exact ⟨h1,fun v=>by unfold Qn; rw [h2]; simp⟩
theorem AfI (x : LU) (k : Int) : (Nx x k).length ≤ 2:=by unfold Nx; (repeat' split) <;> simp
theorem AfU {f : LY} (hf : MN f) {l : Mf} (hl : Od f l.Out) {k : Nat} (hk : k < f.Code.length) : MR f k l [] l k = some (true,Qn f l.Out k):=by
 have hlen:=hf.len'
 have hx : f.Code[k]? = some (Ma f k):=by simp [Ma,hk]
 have hn:=hf.next k _ hx
 have h2:=AfI (Ma f k) k
 obtain ⟨hk1,hk2⟩:=hl.at (j:=(k : Int)) (by omega) (by omega)
 simp only [Int.toNat_natCast] at hk1
 unfold MR
 rw [Aia hx (by omega),Option.bind_some]
 have:=Pg (body:=fun s : List Int × Int=>MM (Nx (Ma f k) k) f l l k s.1 s.2) (Nx (Ma f k) k) (fun (o : List Int) i=>(o,i)) (fun o _=>MJ f.Slots.length o)
  (fun o js=>some (true,js.foldl (fun o j=>NN o ((inN (Ma f j) (Mn l.Out j)).filter fun v=>!decide (v ∈ Mn l.Out k))) o))
  (fun o _=>⟨_,by simp [MM]; rfl,by simp⟩) (fun o i j r ho hd hi hj=>by
   left
   have wi:=Mx (show i < 9223372036854775807 by omega)
   have hjm:=hn j (List.mem_of_getElem? hj)
   obtain ⟨c1,c2⟩:=hf.at hjm.1 hjm.2
   obtain ⟨o1,o2⟩:=hl.at hjm.1 hjm.2
   obtain ⟨g1,g2⟩:=Acy hf hl (k:=(k : Int)) ⟨by omega,by omega⟩ hjm ho
   obtain ⟨s1,s2⟩:=Un hf c2 o2
   have hsl:=hf.slots
   have e1:=AlF o2.1 (hf.AiQ c2)
   have e2:=Afy s1.1 hk2.1
   have e3:=AaH ho.1 (b:=(inN (Ma f j) (Mn l.Out j)).filter fun v=>!decide (v ∈ Mn l.Out k)) (fun x hx=>by have:=s1.1.2 x (List.mem_filter.1 hx).1; exact this) (by have:=(s1.1.filter fun v=>!decide (v ∈ Mn l.Out k)).length_le; omega)
   obtain ⟨_,hje⟩:=List.getElem?_eq_some_iff.1 hj
   refine ⟨_,g1,?_,rfl⟩
   simp [MM,Pn,NK,hi,hje,SU _ hjm.1,c1,o1,e1,hk1,e2,e3,wi]) [] (MJ.nil _)
 exact this
theorem AfF {f : LY} (hf : MN f) {l : Mf} (hl : Od f l.Out) {k : Nat} (hk : k < f.Code.length) : Rf f l k = some (Qn f l.Out k):=by
 have hlen:=hf.len'
 have hx : f.Code[k]? = some (Ma f k):=by simp [Ma,hk]
 have hn:=hf.next k _ hx
 have h2:=AfI (Ma f k) k
 obtain ⟨hk1,hk2⟩:=hl.at (j:=(k : Int)) (by omega) (by omega)
 simp only [Int.toNat_natCast] at hk1
 unfold Rf
 rw [Afp hx (by omega),Option.bind_some]
 have:=Pg (body:=fun s : List Int × Int=>Pt (Nx (Ma f k) k) f l k s.1 s.2) (Nx (Ma f k) k) (fun (o : List Int) i=>(o,i)) (fun o _=>MJ f.Slots.length o)
  (fun o js=>some (js.foldl (fun o j=>NN o ((inN (Ma f j) (Mn l.Out j)).filter fun v=>!decide (v ∈ Mn l.Out k))) o))
  (fun o _=>⟨_,by simp [Pt]; rfl,by simp⟩) (fun o i j r ho hd hi hj=>by
   left
   have wi:=Mx (show i < 9223372036854775807 by omega)
   have hjm:=hn j (List.mem_of_getElem? hj)
   obtain ⟨c1,c2⟩:=hf.at hjm.1 hjm.2
   obtain ⟨o1,o2⟩:=hl.at hjm.1 hjm.2
   obtain ⟨g1,g2⟩:=Acy hf hl (k:=(k : Int)) ⟨by omega,by omega⟩ hjm ho
   obtain ⟨s1,s2⟩:=Un hf c2 o2
   have hsl:=hf.slots
   have e1:=Air (Ma f j) (Mn l.Out j) (by have:=o2.1.length_le; omega)
   have e2:=Agu (inN (Ma f j) (Mn l.Out j)) (Mn l.Out k) (by have:=s1.1.length_le; omega) (by have:=hk2.1.length_le; omega)
   have e3:=union_eq o ((inN (Ma f j) (Mn l.Out j)).filter fun v=>!decide (v ∈ Mn l.Out k)) (by have:=(s1.1.filter fun v=>!decide (v ∈ Mn l.Out k)).length_le; have:=ho.1.length_le; omega)
   obtain ⟨_,hje⟩:=List.getElem?_eq_some_iff.1 hj
   refine ⟨_,g1,?_,rfl⟩
   simp [Pt,hi,hje,SU _ hjm.1,c1,o1,e1,hk1,e2,e3,wi]) [] (MJ.nil _)
 exact this
def AdF (f : LY) (l : List (List Int)) (r : Int × Int × Bool) : Prop :=
 (Od f l ∧ ∃ (k : Nat) (v : Int),k < f.Code.length ∧ (∀ j : Nat,j < k → Qn f l j = []) ∧ (Qn f l k)[0]? = some v ∧ r = ((k : Int),v,true)) ∨
 ((Od f l → ∀ j : Nat,j < f.Code.length → Qn f l j = []) ∧ r = (0,0,false))
def Acc (f : LY) (l : List (List Int)) : Prop:=Od f l ∧ ∀ j : Nat,j < f.Code.length → Qn f l j = []
theorem AdF.acc {f : LY} {l : List (List Int)} {r : Int × Int × Bool} (h : AdF f l r) (hl : Od f l) : r.2.2 = false ↔ Acc f l:=by
 rcases h with ⟨h0,i,v,h1,h2,h3,rfl⟩ | ⟨h1,rfl⟩
 ·exact ⟨fun h=>(by cases h),fun h=>by rw [h.2 i h1] at h3; cases h3⟩
 ·exact ⟨fun _=>⟨hl,h1 hl⟩,fun _=>rfl⟩
def Aah (l : List (List Int)) : Prop:=l.length ≤ maxLen ∧ ∀ s ∈ l,s.length ≤ maxLen
theorem AhZ {f : LY} (hf : MN f) {l : Mf} (hl : Aah l.Out) : Hs (PT f l) (AdF f l.Out):=by
 have hlen:=hf.len'
 unfold PT
 refine (Aeu f l hl.1 hl.2).bind fun b hb=>.cond (fun h=>?_) fun h=>?_
 ·have hb' : ¬ b = true:=by simpa using h
  exact .pure (.inr ⟨fun hh=>(hb' (hb.2 hh)).elim,rfl⟩)
 ·have hb' : b = true:=by simpa using h
  have hok:=hb.1 hb'
  refine Hs.loop (fun i=>∃ k : Nat,i = (k : Int) ∧ k ≤ f.Code.length ∧ ∀ j : Nat,j < k → Qn f l.Out j = []) (fun i=>f.Code.length - i.toNat) ⟨0,rfl,Nat.zero_le _,fun j h=>absurd h (Nat.not_lt_zero _)⟩ ?_
  rintro _ ⟨k,rfl,hk,hall⟩
  unfold Ro
  refine .dec (fun hlt=>?_) fun hge=>?_
  ·have hlt : k < f.Code.length:=by omega
   rw [show RV l = some l from rfl,Option.bind_some,AfU hf hok hlt,Option.bind_some]
   refine .dec (fun hp=>?_) fun hp=>?_
   ·have hp : 0 < (Qn f l.Out k).length:=by simp only at hp; omega
    simp only [Aid]
    have hg : (Qn f l.Out k)[0]? = some ((Qn f l.Out k)[0]):=List.getElem?_eq_getElem hp
    rw [hg,Option.bind_some]
    exact .lft (.pure (.inl ⟨hok,k,_,hlt,hall,hg,rfl⟩))
   ·rw [Mx (by omega)]
    refine .cnt ⟨⟨k + 1,rfl,hlt,fun j hj=>?_⟩,by simp only; omega⟩
    by_cases e : j = k
    ·subst e; exact List.length_eq_zero_iff.1 (by simp only at hp; omega)
    ·exact hall j (by omega)
  ·exact .lft (.pure (.inr ⟨fun _ j hj=>hall j (by omega),rfl⟩))
theorem Ags {f : LY} (hf : MN f) {l : Mf} (hl : Aah l.Out) : Hs (Ta f l) (AdF f l.Out):=by
 have hlen:=hf.len'
 unfold Ta
 refine (Afq f l hl.1 hl.2).bind fun b hb=>.cond (fun h=>?_) fun h=>?_
 ·have hb' : ¬ b = true:=by simpa using h
  exact .pure (.inr ⟨fun hh=>(hb' (hb.2 hh)).elim,rfl⟩)
 ·have hb' : b = true:=by simpa using h
  have hok:=hb.1 hb'
  refine Hs.loop (fun i=>∃ k : Nat,i = (k : Int) ∧ k ≤ f.Code.length ∧ ∀ j : Nat,j < k → Qn f l.Out j = []) (fun i=>f.Code.length - i.toNat) ⟨0,rfl,Nat.zero_le _,fun j h=>absurd h (Nat.not_lt_zero _)⟩ ?_
  rintro _ ⟨k,rfl,hk,hall⟩
  unfold Ut
  refine .dec (fun hlt=>?_) fun hge=>?_
  ·have hlt : k < f.Code.length:=by omega
   rw [AfF hf hok hlt,Option.bind_some]
   refine .dec (fun hp=>?_) fun hp=>?_
   ·have hp : 0 < (Qn f l.Out k).length:=by omega
    refine .chk (by omega) ?_
    have hg : (Qn f l.Out k)[0]? = some ((Qn f l.Out k)[0]):=List.getElem?_eq_getElem hp
    rw [show (0 : Int).toNat = 0 from rfl,hg,Option.bind_some]
    exact .lft (.pure (.inl ⟨hok,k,_,hlt,hall,hg,rfl⟩))
   ·rw [Mx (by omega)]
    refine .cnt ⟨⟨k + 1,rfl,hlt,fun j hj=>?_⟩,by simp only; omega⟩
    by_cases e : j = k
    ·subst e; exact List.length_eq_zero_iff.1 (by omega)
    ·exact hall j (by omega)
  ·exact .lft (.pure (.inr ⟨fun _ j hj=>hall j (by omega),rfl⟩))
theorem AeX {f : LY} (hf : MN f) {l : Mf} (hl : Aah l.Out) : Hs (OW f l) fun e=>(e = 0 ∨ e = 11) ∧ (e = 0 ↔ Acc f l.Out):=by
 unfold OW
 refine (Aeu f l hl.1 hl.2).bind fun b hb=>.cond (fun h=>?_) fun h=>?_
 ·have hb' : ¬ b = true:=by simpa using h
  exact .pure ⟨.inr rfl,fun h=>by omega,fun h=>(hb' (hb.2 h.1)).elim⟩
 ·have hb' : b = true:=by simpa using h
  refine (AhZ hf hl).bind fun r hr=>.cond (fun h=>.pure ⟨.inr rfl,fun h=>by omega,fun h'=>?_⟩) fun h=>.pure ⟨.inl rfl,fun _=>(hr.acc (hb.1 hb')).1 h,fun _=>rfl⟩
  rw [(hr.acc h'.1).2 h'] at h; cases h
theorem Agq {f : LY} (hf : MN f) {l : Mf} (hl : Aah l.Out) : Hs (SZ f l) fun e=>(e = 0 ∨ e = 11) ∧ (e = 0 ↔ Acc f l.Out):=by
 unfold SZ
 refine (Ags hf hl).bind fun r hr=>.cond (fun h=>.pure ⟨.inr rfl,fun h=>by omega,fun h'=>?_⟩) fun h=>?_
 ·rw [(hr.acc h'.1).2 h'] at h; cases h
 ·refine (Afq f l hl.1 hl.2).bind fun b hb=>.cond (fun h=>?_) fun h2=>?_
  ·have hb' : ¬ b = true:=by simpa using h
   exact .pure ⟨.inr rfl,fun h=>by omega,fun h=>(hb' (hb.2 h.1)).elim⟩
  ·have hb' : b = true:=by simpa using h2
   exact .pure ⟨.inl rfl,fun _=>(hr.acc (hb.1 hb')).1 h,fun _=>rfl⟩
theorem Od.len {f : LY} (hf : MN f) {l : List (List Int)} (h : Od f l) : Aah l:=by
 have hm : (100000 : Nat) ≤ maxLen:=by decide
 have:=hf.len'; have:=h.1
 exact ⟨by omega,fun s hs=>by have:=(h.2 s hs).1.length_le; omega⟩
theorem Aiw {f : LY} (hf : MN f) {l : List (List Int)} (hl : Od f l) : Acc f l ↔ LE (Pc f l) l:=by
 constructor
 ·rintro ⟨_,h⟩ k s t hs ht v hv
  have hk : k < f.Code.length:=by have:=(List.getElem?_eq_some_iff.1 ht).1; have:=hl.1; omega
  have e1 : s = Tf f l k:=by simp [Pc,hk] at hs; exact hs.symm
  have e2 : t = Mn l k:=by simp [Mn,ht]
  subst e1 e2
  rw [(Vj hf hl hk).2] at hv
  obtain ⟨j,hj,hv⟩:=hv
  refine Classical.byContradiction fun hn=>?_
  have : v ∈ Qn f l k:=((Abw hf hl hk).2 v).2 ⟨j,hj,hv,hn⟩
  rw [h k hk] at this; cases this
 ·intro h
  refine ⟨hl,fun k hk=>?_⟩
  refine List.eq_nil_iff_forall_not_mem.2 fun v hv=>?_
  obtain ⟨j,hj,h1,h2⟩:=((Abw hf hl hk).2 v).1 hv
  refine h2 (h k (Tf f l k) (Mn l k) (by simp [Pc,hk]) ?_ v (((Vj hf hl hk).2 v).2 ⟨j,hj,h1⟩))
  have:=(hl.at (j:=(k : Int)) (by omega) (by omega)).1
  simpa using this
theorem Acc.mem {f : LY} (hf : MN f) {l : List (List Int)} (h : Acc f l) {k : Nat} (hk : k < f.Code.length) {j v : Int} (hj : j ∈ Nx (Ma f k) k) (hv : v ∈ inN (Ma f j) (Mn l j)) : v ∈ Mn l k:=by
 refine Classical.byContradiction fun hn=>?_
 have : v ∈ Qn f l k:=((Abw hf h.1 hk).2 v).2 ⟨j,hj,hv,hn⟩
 rw [h.2 k hk] at this; cases this
theorem AdV.acc {f : LY} (hf : MN f) {l : List (List Int)} (h : AdV f l) : Acc f l:=by
 rw [Aiw hf h.ok,h.fix]
 intro k s t hs ht v hv
 rw [hs] at ht; cases ht; exact hv
end Go.Proofs.YtfpgidpffhmadaaGreatDoor
namespace Go.Proofs.YtfpgidpffhmadaaGreatDoor
open Go Go.Dw Go.Proofs
def I64 (v : Int) : Prop:=-9223372036854775808 ≤ v ∧ v ≤ 9223372036854775807
def AfZ (l : List (List Int)) : Prop:=∀ s ∈ l,s.length ≤ 512 ∧ ∀ v ∈ s,I64 v
def AeP (l : List (List Int)) : Prop:=∀ s ∈ l,MP s
theorem AeP.set {l : List (List Int)} (h : AeP l) {k : Nat} {s : List Int} (hs : MP s) : AeP (l.set k s):=by
 intro t ht
 rcases List.mem_or_eq_of_mem_set ht with h1 | rfl
 ·exact h t h1
 ·exact hs
theorem MP.add {s : List Int} (h : MP s) (n : Int) : MP (OR n s):=by
 unfold OR
 split
 ·exact h.QX (by assumption)
 ·exact h
end Go.Proofs.YtfpgidpffhmadaaGreatDoor
namespace Go.Proofs.YtfpgidpffhmadaaGreatDoor
open Go Go.Dw Go.Proofs
theorem AfZ.len {f : LY} (hf : MN f) {l : List (List Int)} (h1 : l.length ≤ f.Code.length) (h2 : AfZ l) : Aah l:=by
 have hm : (100000 : Nat) ≤ maxLen:=by decide
 have:=hf.len'
 exact ⟨by omega,fun s hs=>by have:=(h2 s hs).1; omega⟩
theorem AiV {f : LY} (hf : MN f) {l : List (List Int)} (hl : Od f l) (h : ∀ k : Nat,k < f.Code.length → ∀ j ∈ Nx (Ma f k) k,∀ v ∈ inN (Ma f j) (Mn l j),v ∈ Mn l k) : Acc f l:=by
 refine ⟨hl,fun k hk=>List.eq_nil_iff_forall_not_mem.2 fun v hv=>?_⟩
 obtain ⟨j,hj,h1,h2⟩:=((Abw hf hl hk).2 v).1 hv
 exact h2 (h k hk j hj v h1)
theorem AiG {f : LY} (hf : MN f) {k : Nat} (hk : k < f.Code.length) {j : Int} (hj : j ∈ Nx (Ma f k) k) : 0 ≤ j ∧ j < f.Code.length :=
 hf.next k _ (by simp [Ma,hk]) j hj
theorem Ago {l : List (List Int)} {g : List Int → List Int} {j : Int} (h1 : j.toNat < l.length) : Mn (l.map g) j = g (Mn l j):=by
 simp [Mn,h1]
theorem Aiv {f : LY} (hf : MN f) {l : List (List Int)} (h : Acc f l) {u : Int} (hu : 0 ≤ u ∧ u < f.Slots.length) : Acc f (l.map (OR u)):=by
 have hsl:=hf.slots
 have hl : Od f (l.map (OR u)):=by
  refine ⟨by simpa using h.1.1,fun s hs=>?_⟩
  obtain ⟨t,ht,rfl⟩:=List.mem_map.1 hs
  exact (MJ.add (h.1.2 t ht) hu (by omega)).1
 have mem : ∀ s,MJ f.Slots.length s → ∀ v,v ∈ OR u s ↔ v = u ∨ v ∈ s:=fun s hs=>(MJ.AfS (n:=f.Slots.length) hs hu (by omega)).2.2
 refine AiV hf hl fun k hk j hj v hv=>?_
 have hjm:=AiG hf hk hj
 have hll:=h.1.1
 obtain ⟨o1,o2⟩:=h.1.at hjm.1 hjm.2
 obtain ⟨q1,q2⟩:=h.1.at (j:=(k : Int)) (by omega) (by omega)
 obtain ⟨p1,p2⟩:=hl.at hjm.1 hjm.2
 rw [Ago (by omega)] at hv p2 ⊢
 rw [(Un hf (hf.at hjm.1 hjm.2).2 p2).2,mem _ o2] at hv
 rw [mem _ q2]
 by_cases e : v = u
 ·exact .inl e
 ·refine .inr (h.mem hf hk hj ?_)
  rw [(Un hf (hf.at hjm.1 hjm.2).2 o2).2]
  rcases hv with ⟨h1,h2⟩ | h1
  ·rcases h1 with h1 | h1
   ·exact (e h1).elim
   ·exact .inl ⟨h1,h2⟩
  ·exact .inr h1
def Vn (u : Int) (l : List (List Int)) (k : Nat) : List (List Int):=(l.take k).map (OR u) ++ l.drop k
theorem AfR (u : Int) (l : List (List Int)) : Vn u l 0 = l:=by simp [Vn]
theorem Aga (u : Int) (l : List (List Int)) : Vn u l l.length = l.map (OR u):=by simp [Vn]
theorem AeQ (u : Int) (l : List (List Int)) {k : Nat} (hk : k ≤ l.length) : (Vn u l k).length = l.length:=by simp [Vn]; omega
theorem Agb {u : Int} {l : List (List Int)} {k : Nat} (hk : k < l.length) : (Vn u l k)[k]? = some l[k]:=by
 unfold Vn
 rw [List.getElem?_append_right (by simp; omega)]
 simp [show min k l.length = k by omega,hk]
theorem Agc {u : Int} {l : List (List Int)} {k : Nat} (hk : k < l.length) : (Vn u l k).set k (OR u l[k]) = Vn u l (k + 1):=by
 unfold Vn
 rw [List.set_append_right _ _ (by simp; omega)]
 have e1 : k - ((l.take k).map (OR u)).length = 0:=by simp; omega
 rw [e1,List.drop_eq_getElem_cons hk,List.set_cons_zero,List.take_succ_eq_append_getElem hk,List.map_append,List.append_assoc]
 rfl
end Go.Proofs.YtfpgidpffhmadaaGreatDoor
namespace Go.Proofs.YtfpgidpffhmadaaGreatDoor
open Go Go.Dw Go.Proofs
def Aea (x : LU) : Int × Bool:=if x.Op = 16 ∨ x.Op = 17 then (x.A,true) else (0,false)
theorem AfJ (x : LU) : Ou x = some (Aea x):=by
 obtain ⟨op,a,b,c,i⟩:=x
 unfold Ou PW Aea
 by_cases h16 : op = 16
 ·simp [h16]
 ·have e16 : (op == 16) = false:=by simpa using h16
  by_cases h17 : op = 17
  ·simp [h17]
  ·have e17 : (op == 17) = false:=by simpa using h17
   simp [h16,e16,h17,e17]
def AcT (f : LY) : Prop:=∀ x ∈ f.Code,(x.Op = 16 ∨ x.Op = 17) → 0 ≤ x.A ∧ x.A < f.Slots.length
theorem SO.defs {ps : List Int} {i most : Int} {f : LY} (h : SO ps i most f) : AcT f:=by
 intro x hx hop
 obtain ⟨k,hk⟩:=List.getElem?_of_mem hx
 have hkl:=(List.getElem?_eq_some_iff.1 hk).1
 by_cases hk1 : k + 1 < f.Code.length
 ·have hins:=h.body k x hk hk1
  cases hins with
  | store a b h0 h1 h2=>exact ⟨h0,h1⟩
  | move a b h0 h1 h2=>exact ⟨h0.1,h0.2.1⟩
  | bin op a b c h1 h2 h3 h4 h5 h6=>simp only at hop; omega
  | un op a h1 h2=>simp only at hop; omega
  | _=>simp at hop
 ·have he:=h.last x (by rw [show f.Code.length - 1 = k by omega]; exact hk)
  rcases he with rfl | ⟨w,_,rfl⟩ <;> simp at hop
def RX (x : LU) (v : Int) : Bool:=x.Op == 17 && x.B == v
def Afn (_ : LU) (_ : Int) : Bool:=false
def AeM (mv : LU → Int → Bool) (f : LY) (l : List (List Int)) (k : Nat) (a v : Int) : Prop :=
 a = (Ma f k).A ∧ ((Ma f k).Op = 16 ∨ (Ma f k).Op = 17) ∧ ¬ ((Ma f k).Op = 17 ∧ (Ma f k).A = (Ma f k).B) ∧ v ∈ Mn l k ∧ v ≠ a ∧ mv (Ma f k) v = false
def Wb (mv : LU → Int → Bool) (f : LY) (l : List (List Int)) (k : Nat) (a v : Int) : Prop:=∃ j < k,AeM mv f l j a v
def Ed (mv : LU → Int → Bool) (f : LY) (l : List (List Int)) (a v : Int) : Prop:=Wb mv f l f.Code.length a v
def Yn (mv : LU → Int → Bool) (f : LY) (l : List (List Int)) (k i : Nat) (a v : Int) : Prop :=
 Wb mv f l k a v ∨ (a = (Ma f k).A ∧ v ∈ (Mn l k).take i ∧ v ≠ a ∧ mv (Ma f k) v = false)
theorem Aet {mv : LU → Int → Bool} {f : LY} {l : List (List Int)} {k : Nat} {a v : Int} : Wb mv f l (k + 1) a v ↔ Wb mv f l k a v ∨ AeM mv f l k a v:=by
 constructor
 ·rintro ⟨j,hj,h⟩
  by_cases e : j = k
  ·subst e; exact .inr h
  ·exact .inl ⟨j,by omega,h⟩
 ·rintro (⟨j,hj,h⟩ | h)
  ·exact ⟨j,by omega,h⟩
  ·exact ⟨k,by omega,h⟩
theorem Aes {mv : LU → Int → Bool} {f : LY} {l : List (List Int)} {k : Nat} {a v : Int} : Yn mv f l k 0 a v ↔ Wb mv f l k a v:=by simp [Yn]
theorem Afc {mv : LU → Int → Bool} {f : LY} {l : List (List Int)} {k : Nat} {a v : Int} (h1 : (Ma f k).Op = 16 ∨ (Ma f k).Op = 17) (h2 : ¬ ((Ma f k).Op = 17 ∧ (Ma f k).A = (Ma f k).B)) :
  Yn mv f l k (Mn l k).length a v ↔ Wb mv f l (k + 1) a v:=by
 rw [Aet]
 simp only [Yn,List.take_length,AeM]
 constructor
 ·rintro (h | ⟨h3,h4,h5,h6⟩)
  ·exact .inl h
  ·exact .inr ⟨h3,h1,h2,h4,h5,h6⟩
 ·rintro (h | ⟨h3,_,_,h4,h5,h6⟩)
  ·exact .inl h
  ·exact .inr ⟨h3,h4,h5,h6⟩
theorem Acp {mv : LU → Int → Bool} {f : LY} {l : List (List Int)} {k i : Nat} {x a v : Int} (hx : (Mn l k)[i]? = some x) :
  Yn mv f l k (i + 1) a v ↔ Yn mv f l k i a v ∨ (a = (Ma f k).A ∧ v = x ∧ x ≠ a ∧ mv (Ma f k) x = false):=by
 have ht : (Mn l k).take (i + 1) = (Mn l k).take i ++ [x]:=by rw [List.take_add_one,hx]; rfl
 simp only [Yn,ht,List.mem_append,List.mem_singleton]
 constructor
 ·rintro (h | ⟨h1,h2 | rfl,h3,h4⟩)
  ·exact .inl (.inl h)
  ·exact .inl (.inr ⟨h1,h2,h3,h4⟩)
  ·exact .inr ⟨h1,rfl,h3,h4⟩
 ·rintro ((h | ⟨h1,h2,h3,h4⟩) | ⟨h1,rfl,h3,h4⟩)
  ·exact .inl h
  ·exact .inr ⟨h1,.inl h2,h3,h4⟩
  ·exact .inr ⟨h1,.inr rfl,h3,h4⟩
theorem Aar {mv : LU → Int → Bool} {f : LY} {l : List (List Int)} {k : Nat} {a v : Int} (h : ((Ma f k).Op ≠ 16 ∧ (Ma f k).Op ≠ 17) ∨ ((Ma f k).Op = 17 ∧ (Ma f k).A = (Ma f k).B)) :
  Wb mv f l (k + 1) a v ↔ Wb mv f l k a v:=by
 rw [Aet]
 constructor
 ·rintro (h1 | ⟨_,h2,h3,_⟩)
  ·exact h1
  ·rcases h with ⟨h4,h5⟩ | h4
   ·omega
   ·exact (h3 h4).elim
 ·exact .inl
theorem Aer {mv : LU → Int → Bool} {f : LY} {l : List (List Int)} {k i : Nat} {x a v : Int} (hx : (Mn l k)[i]? = some x) (h : x = (Ma f k).A ∨ mv (Ma f k) x = true) :
  Yn mv f l k (i + 1) a v ↔ Yn mv f l k i a v:=by
 rw [Acp hx]
 constructor
 ·rintro (h1 | ⟨h1,h2,h3,h4⟩)
  ·exact h1
  ·rcases h with h | h
   ·exact (h3 (by rw [h,h1])).elim
   ·rw [h] at h4; cases h4
 ·exact .inl
def Aap (m : List (List Bool)) (a v : Nat) : Bool:=(((m[a]?).getD [])[v]?).getD false
def AcU (n : Nat) (m : List (List Bool)) (P : Int → Int → Prop) : Prop :=
 m.length = n ∧ (∀ row ∈ m,row.length = n) ∧ ∀ a v : Nat,a < n → v < n → (Aap m a v = true ↔ P a v ∨ P v a)
theorem AcU.congr {n : Nat} {m : List (List Bool)} {P Q : Int → Int → Prop} (h : AcU n m P) (hq : ∀ a v,Q a v ↔ P a v) : AcU n m Q :=
 ⟨h.1,h.2.1,fun a v ha hv=>by rw [h.2.2 a v ha hv,hq,hq]⟩
theorem Aeq {n : Nat} {m : List (List Bool)} (hl : m.length = n) {d : Nat} (hd : d < n) (r : List Bool) (a v : Nat) : Aap (m.set d r) a v = if a = d then (r[v]?).getD false else Aap m a v:=by
 unfold Aap
 by_cases e : a = d
 ·subst e
  rw [if_pos rfl,List.getElem?_set_self (by omega)]; rfl
 ·rw [if_neg e,List.getElem?_set_ne (fun h=>e h.symm)]
theorem Afg {n : Nat} {r : List Bool} (hl : r.length = n) {v : Nat} (hv : v < n) (b : Nat) : ((r.set v true)[b]?).getD false = if b = v then true else (r[b]?).getD false:=by
 by_cases e : b = v
 ·subst e; rw [if_pos rfl,List.getElem?_set_self (by omega)]; rfl
 ·rw [if_neg e,List.getElem?_set_ne (fun h=>e h.symm)]
theorem AcU.set {n : Nat} {m : List (List Bool)} {P : Int → Int → Prop} (h : AcU n m P) {d v : Nat} {r1 r2 : List Bool} (hd : d < n) (hv : v < n) (hne : d ≠ v) (h1 : m[d]? = some r1) (h2 : m[v]? = some r2) :
  AcU n ((m.set d (r1.set v true)).set v (r2.set d true)) (fun a b=>P a b ∨ (a = d ∧ b = v)):=by
 obtain ⟨hl,hr,hc⟩:=h
 have l1:=hr _ (List.mem_of_getElem? h1)
 have l2:=hr _ (List.mem_of_getElem? h2)
 refine ⟨by simp [hl],fun row hrow=>?_,fun a b ha hb=>?_⟩
 ·rcases List.mem_or_eq_of_mem_set hrow with h | rfl
  ·rcases List.mem_or_eq_of_mem_set h with h | rfl
   ·exact hr _ h
   ·simp [l1]
  ·simp [l2]
 ·rw [Aeq (n:=n) (by simp [hl]) hv,Aeq hl hd,Afg l2 hd,Afg l1 hv]
  have e1 : (r1[b]?).getD false = Aap m d b:=by simp [Aap,h1]
  have e2 : (r2[b]?).getD false = Aap m v b:=by simp [Aap,h2]
  rw [e1,e2]
  have hab:=hc a b ha hb
  by_cases ea : a = v
  ·subst ea
   rw [if_pos rfl]
   by_cases eb : b = d
   ·subst eb; rw [if_pos rfl]; simp
   ·rw [if_neg eb,hab]
    constructor
    ·rintro (h | h)
     ·exact .inl (.inl h)
     ·exact .inr (.inl h)
    ·rintro ((h | ⟨h,_⟩) | (h | ⟨h,_⟩))
     ·exact .inl h
     ·omega
     ·exact .inr h
     ·omega
  ·rw [if_neg ea]
   by_cases ed : a = d
   ·subst ed
    rw [if_pos rfl]
    by_cases eb : b = v
    ·subst eb; rw [if_pos rfl]; simp
    ·rw [if_neg eb,hab]
     constructor
     ·rintro (h | h)
      ·exact .inl (.inl h)
      ·exact .inr (.inl h)
     ·rintro ((h | ⟨_,h⟩) | (h | ⟨h,_⟩))
      ·exact .inl h
      ·omega
      ·exact .inr h
      ·omega
   ·rw [if_neg ed,hab]
    constructor
    ·rintro (h | h)
     ·exact .inl (.inl h)
     ·exact .inr (.inl h)
    ·rintro ((h | ⟨h,_⟩) | (h | ⟨_,h⟩))
     ·exact .inl h
     ·omega
     ·exact .inr h
     ·omega
def NB (n : Nat) (out : List (List Int)) (Q : Nat → Int → Prop) : Prop:=out.length = n ∧ ∀ (a : Nat) s,out[a]? = some s → MJ n s ∧ ∀ v,v ∈ s ↔ Q a v
theorem NB.congr {n : Nat} {out : List (List Int)} {P Q : Nat → Int → Prop} (h : NB n out P) (hq : ∀ a v,a < n → (Q a v ↔ P a v)) : NB n out Q :=
 ⟨h.1,fun a s hs=>⟨(h.2 a s hs).1,fun v=>by rw [(h.2 a s hs).2 v,hq a v (by have:=(List.getElem?_eq_some_iff.1 hs).1; have:=h.1; omega)]⟩⟩
theorem NB.ext {n : Nat} {o1 o2 : List (List Int)} {Q : Nat → Int → Prop} (h1 : NB n o1 Q) (h2 : NB n o2 Q) : o1 = o2:=by
 apply List.ext_getElem?
 intro a
 by_cases ha : a < n
 ·have e1 : o1[a]? = some (o1[a]'(by have:=h1.1; omega)):=List.getElem?_eq_getElem _
  have e2 : o2[a]? = some (o2[a]'(by have:=h2.1; omega)):=List.getElem?_eq_getElem _
  rw [e1,e2,(h1.2 a _ e1).1.1.ext (h2.2 a _ e2).1.1 fun v=>by rw [(h1.2 a _ e1).2 v,(h2.2 a _ e2).2 v]]
 ·rw [List.getElem?_eq_none (by have:=h1.1; omega),List.getElem?_eq_none (by have:=h2.1; omega)]
theorem NB.nil (n : Nat) {Q : Nat → Int → Prop} (hq : ∀ a v,¬ Q a v) : NB n (List.replicate n []) Q :=
 ⟨by simp,fun a s hs=>by
  rw [List.getElem?_replicate] at hs
  split at hs
  ·cases hs; exact ⟨MJ.nil _,fun v=>⟨fun h=>(by cases h),fun h=>(hq a v h).elim⟩⟩
  ·cases hs⟩
theorem NB.set {n : Nat} {out : List (List Int)} {P Q : Nat → Int → Prop} (h : NB n out P) {d : Nat} {s : List Int} (hd : d < n) (hs : MJ n s) (h1 : ∀ v,v ∈ s ↔ Q d v) (h2 : ∀ a v,a ≠ d → (Q a v ↔ P a v)) : NB n (out.set d s) Q:=by
 refine ⟨by simp [h.1],fun a t ht=>?_⟩
 by_cases e : a = d
 ·subst e
  rw [List.getElem?_set_self (by have:=h.1; omega)] at ht
  cases ht
  exact ⟨hs,h1⟩
 ·rw [List.getElem?_set_ne (fun h=>e h.symm)] at ht
  exact ⟨(h.2 a t ht).1,fun v=>by rw [(h.2 a t ht).2 v,h2 a v e]⟩
def AaS (mv : LU → Int → Bool) (f : LY) (l : List (List Int)) (r : List (List Int) × Int) : Prop :=
 (r.2 = 0 ∧ Acc f l ∧ NB f.Slots.length r.1 fun a v=>Ed mv f l a v ∨ Ed mv f l v a) ∨ (r.2 = 11 ∧ ¬ Acc f l ∧ r.1 = [])
end Go.Proofs.YtfpgidpffhmadaaGreatDoor
namespace Go.Proofs.YtfpgidpffhmadaaGreatDoor
open Go Go.Dw Go.Proofs
def Mr (to : List Int) (s : Int) : Int:=(to[s.toNat]?).getD 0
def Pb (f : LY) (s : Int) : Int:=((f.Slots[s.toNat]?).map Mt.Size).getD 0
def AdX (f : LY) (to : List Int) : Prop :=
 to.length = f.Slots.length ∧ ∀ s : Nat,s < to.length → 0 ≤ Mr to s ∧ Mr to s < to.length ∧ Pb f (Mr to s) = Pb f s ∧ Mr to (Mr to s) = Mr to s
theorem SJ {to : List Int} {s : Int} (h0 : 0 ≤ s) (h : s < to.length) : to[s.toNat]? = some (Mr to s):=by
 have : s.toNat < to.length:=by omega
 simp [Mr,this]
theorem AdS {f : LY} {s : Int} {x : Mt} (h : f.Slots[s.toNat]? = some x) : x.Size = Pb f s:=by
 simp [Pb,h]
theorem Aip (f : LY) (to : List Int) (hsl : f.Slots.length ≤ 500) : Hs (Qv f to) fun b=>b = true ↔ AdX f to:=by
 unfold Qv
 refine .bne (fun h=>.pure ⟨fun h'=>(by cases h'),fun h'=>(h (by rw [h'.1])).elim⟩) fun h=>?_
 have hl : to.length = f.Slots.length:=by omega
 refine Hs.loop (fun i=>∃ k : Nat,i = (k : Int) ∧ k ≤ to.length ∧ ∀ s : Nat,s < k → 0 ≤ Mr to s ∧ Mr to s < to.length ∧ Pb f (Mr to s) = Pb f s ∧ Mr to (Mr to s) = Mr to s) (fun i=>to.length - i.toNat) ⟨0,rfl,Nat.zero_le _,fun s hs=>absurd hs (Nat.not_lt_zero _)⟩ ?_
 rintro _ ⟨k,rfl,hk,hall⟩
 unfold RK
 refine .dec (fun hlt=>?_) fun hge=>.lft (.pure ⟨fun _=>⟨hl,fun s hs=>hall s (by omega)⟩,fun _=>rfl⟩)
 have hlt : k < to.length:=by omega
 have hg : to[k]? = some (Mr to k):=by have:=SJ (to:=to) (s:=k) (by omega) (by omega); simpa using this
 rw [Of,hg,Option.bind_some]
 have no : ∀ {p : Prop},¬ p → (AdX f to → p) → Hs (lft (some false) : Option (Int ⊕ Bool)) (Rnd (fun i=>∃ k : Nat,i = (k : Int) ∧ k ≤ to.length ∧ ∀ s : Nat,s < k → 0 ≤ Mr to s ∧ Mr to s < to.length ∧ Pb f (Mr to s) = Pb f s ∧ Mr to (Mr to s) = Mr to s) (fun i=>to.length - i.toNat) (k : Int) fun b=>b = true ↔ AdX f to) :=
  fun hp hq=>.lft (.pure ⟨fun h=>(by cases h),fun h=>(hp (hq h)).elim⟩)
 refine .dec (fun h0=>no (p:=0 ≤ Mr to k) (by omega) fun h=>(h.2 k hlt).1) fun h0=>?_
 refine .dec (fun h1=>no (p:=Mr to k < to.length) (by omega) fun h=>(h.2 k hlt).2.1) fun h1=>?_
 refine Hs.bind (Hs.ix (i:=Mr to k) (P:=fun x=>x.Size = Pb f (Mr to k)) (by omega) (by omega) fun x hx=>AdS hx) fun a ha=>?_
 refine Hs.bind (Hs.ix (i:=(k : Int)) (P:=fun x=>x.Size = Pb f k) (by omega) (by omega) fun x hx=>AdS hx) fun b hb=>?_
 rw [ha,hb]
 refine .bne (fun h2=>no h2 fun h=>(h.2 k hlt).2.2.1) fun h2=>?_
 rw [SU _ (by omega),SJ (by omega) (by omega),Option.bind_some]
 refine .bne (fun h3=>no h3 fun h=>(h.2 k hlt).2.2.2) fun h3=>?_
 rw [Mx (by omega)]
 refine .cnt ⟨⟨k + 1,rfl,hlt,fun s hs=>?_⟩,by simp only; omega⟩
 by_cases e : s = k
 ·subst e; exact ⟨by omega,by omega,h2,h3⟩
 ·exact hall s (by omega)
def NA (Az : List Bool) (k : Nat) : Bool:=(Az[k]?).getD true
def AdW (f : LY) (r : ML) : Prop :=
 AdX f r.To ∧ r.Keep.length = f.Code.length ∧ ∀ k : Nat,k < f.Code.length → NA r.Keep k = false → (Ma f k).Op = 16 ∨ (Ma f k).Op = 17
theorem AdR {f : LY} (hf : MN f) (r : ML) : Hs (Qe f r) fun e=>(e = 0 ∨ e = 12) ∧ (e = 0 ↔ AdW f r):=by
 have hlen:=hf.len'
 unfold Qe
 refine (Aip f r.To hf.slots).bind fun b hb=>.cond (fun h=>.pure ⟨.inr rfl,fun h=>by omega,fun h'=>?_⟩) fun h=>?_
 ·rw [hb.2 h'.1] at h; cases h
 have hv : AdX f r.To:=hb.1 (by simpa using h)
 refine .bne (fun h=>.pure ⟨.inr rfl,fun h=>by omega,fun h'=>(h (by rw [h'.2.1])).elim⟩) fun h=>?_
 have hkl : r.Keep.length = f.Code.length:=by omega
 unfold SI
 refine Hs.loop (fun i=>∃ k : Nat,i = (k : Int) ∧ k ≤ f.Code.length ∧ ∀ j : Nat,j < k → NA r.Keep j = false → (Ma f j).Op = 16 ∨ (Ma f j).Op = 17) (fun i=>f.Code.length - i.toNat) ⟨0,rfl,Nat.zero_le _,fun s hs=>absurd hs (Nat.not_lt_zero _)⟩ ?_
 rintro _ ⟨k,rfl,hk,hall⟩
 unfold SH
 refine .dec (fun hlt=>?_) fun hge=>.lft (.pure ⟨.inl rfl,fun _=>⟨hv,hkl,fun j hj=>hall j (by omega)⟩,fun _=>rfl⟩)
 have hlt : k < f.Code.length:=by omega
 have hx:=hf.at (j:=(k : Int)) (by omega) (by omega)
 rw [Int.toNat_natCast] at hx
 have hg : r.Keep[k]? = some (NA r.Keep k):=by simp [NA,show k < r.Keep.length by omega]
 have stp : (NA r.Keep k = false → (Ma f k).Op = 16 ∨ (Ma f k).Op = 17) → ∀ j : Nat,j < k + 1 → NA r.Keep j = false → (Ma f j).Op = 16 ∨ (Ma f j).Op = 17:=by
  intro h j hj
  by_cases e : j = k
  ·subst e; exact h
  ·exact hall j (by omega)
 simp only [Of,hx.1,hg,Option.bind_some]
 rw [Mx (by omega)]
 refine .cond (fun h=>?_) fun h=>.cnt ⟨⟨k + 1,rfl,hlt,stp fun h'=>by rw [h'] at h; cases h⟩,by simp only; omega⟩
 have hkf : NA r.Keep k = false:=by simpa using h
 unfold QD
 rw [Aeb,Option.bind_some,Option.bind_some]
 by_cases hd : (Ma f k).Op = 16 ∨ (Ma f k).Op = 17
 ·rw [if_pos hd]
  exact .cnt ⟨⟨k + 1,rfl,hlt,stp fun _=>hd⟩,by simp only; omega⟩
 ·rw [if_neg hd]
  exact .lft (.pure ⟨.inr rfl,fun h=>by omega,fun h=>(hd (h.2.2 k hlt hkf)).elim⟩)
def Zp (f : LY) (l : List (List Int)) (r : ML) (k : Nat) (y : Int) : Prop :=
 ((Ma f k).Op = 16 ∨ (Ma f k).Op = 17) ∧ ¬ ((Ma f k).Op = 17 ∧ Mr r.To (Ma f k).A = Mr r.To (Ma f k).B) ∧ y ∈ Mn l k ∧ (NA r.Keep k = true ↔ y ≠ (Ma f k).A) ∧ Mr r.To y = Mr r.To (Ma f k).A
theorem Afa {f : LY} (hf : MN f) (hd : AcT f) {l : Mf} (hl : Od f l.Out) {r : ML} (hr : AdW f r) {k : Nat} (hk : k < f.Code.length) :
  Hs (MX (k : Int) f r l) fun q=>q.2 = true ↔ ∃ y,Zp f l.Out r k y:=by
 have hsl:=hf.slots
 have htl:=hr.1.1
 have hx:=hf.at (j:=(k : Int)) (by omega) (by omega)
 have hrow:=hl.at (j:=(k : Int)) (by omega) (by omega)
 rw [Int.toNat_natCast] at hx hrow
 have hlo:=hrow.2.1.length_le
 have hg : r.Keep[k]? = some (NA r.Keep k):=by have:=hr.2.1; simp [NA,show k < r.Keep.length by omega]
 have tg : ∀ s : Int,0 ≤ s → s < f.Slots.length → ixO r.To s = some (Mr r.To s):=fun s h0 h1=>by rw [SU _ h0,SJ h0 (by omega)]
 unfold MX
 simp only [Of,hx.1,Option.bind_some,Aeb]
 by_cases hdef : (Ma f k).Op = 16 ∨ (Ma f k).Op = 17
 ·rw [if_pos hdef]
  simp only [Bool.not_true,cond_false]
  have hA:=hd _ hx.2 hdef
  have inner : ¬ ((Ma f k).Op = 17 ∧ Mr r.To (Ma f k).A = Mr r.To (Ma f k).B) → Hs (MT l (k : Int) r ((Ma f k).A,true)) fun q=>q.2 = true ↔ ∃ y,Zp f l.Out r k y:=by
   intro hnm
   unfold MT
   rw [Of,hrow.1,Option.bind_some]
   refine Hs.loop (fun i=>∃ j : Nat,i = (j : Int) ∧ j ≤ (Mn l.Out k).length ∧ ∀ y ∈ (Mn l.Out k).take j,¬ Zp f l.Out r k y) (fun i=>(Mn l.Out k).length - i.toNat) ⟨0,rfl,Nat.zero_le _,fun y hy=>by simp at hy⟩ ?_
   rintro _ ⟨j,rfl,hj,hno⟩
   unfold NF
   refine .dec (fun hlt=>?_) fun hge=>.lft (.pure ⟨fun h=>(by cases h),fun ⟨y,hy⟩=>?_⟩)
   ·have hlt : j < (Mn l.Out k).length:=by omega
    have hgx : (Mn l.Out k)[j]? = some (Mn l.Out k)[j]:=List.getElem?_eq_getElem _
    have hxm:=List.getElem_mem hlt
    have htk : (Mn l.Out k).take (j + 1) = (Mn l.Out k).take j ++ [(Mn l.Out k)[j]]:=by rw [List.take_add_one,hgx]; rfl
    generalize (Mn l.Out k)[j] = y at hgx hxm htk
    have hy0:=(hrow.2.1.2 y hxm).1
    have hyn:=hrow.2.2 y hxm
    have stp : ¬ Zp f l.Out r k y → ∀ z ∈ (Mn l.Out k).take (j + 1),¬ Zp f l.Out r k z:=by
     intro h z hz
     rw [htk] at hz
     rcases List.mem_append.1 hz with hz | hz
     ·exact hno z hz
     ·rw [List.mem_singleton.1 hz]; exact h
    simp only [Of,hgx,hg,tg _ hy0 hyn,tg _ hA.1 hA.2,Option.bind_some]
    rw [Mx (by omega)]
    have hky : (NA r.Keep k == (y != (Ma f k).A)) = true ↔ (NA r.Keep k = true ↔ y ≠ (Ma f k).A):=by
     rw [beq_iff_eq]
     by_cases e : y = (Ma f k).A <;> cases NA r.Keep k <;> simp [e]
    refine .cond (fun h1=>.beq (fun h2=>.lft (.pure ⟨fun _=>⟨y,hdef,hnm,hxm,hky.1 h1,h2⟩,fun _=>rfl⟩)) fun h2=>?_) fun h1=>?_
    ·exact .cnt ⟨⟨j + 1,rfl,hlt,stp fun h=>h2 h.2.2.2.2⟩,by simp only; omega⟩
    ·exact .cnt ⟨⟨j + 1,rfl,hlt,stp fun h=>by rw [hky.2 h.2.2.2.1] at h1; cases h1⟩,by simp only; omega⟩
   ·refine (hno y ?_ hy).elim
    rw [List.take_of_length_le (by omega)]
    exact hy.2.2.1
  refine .beq (fun h17=>?_) fun h17=>inner fun h=>h17 h.1
  have hB:=hf.uses _ hx.2 (Ma f k).B (by simp [NW,h17])
  rw [tg _ hA.1 hA.2,Option.bind_some,tg _ hB.1 hB.2,Option.bind_some]
  exact .beq (fun h=>.pure ⟨fun h=>(by cases h),fun ⟨y,hy⟩=>(hy.2.1 ⟨h17,h⟩).elim⟩) fun h=>inner fun h'=>h h'.2
 ·rw [if_neg hdef]
  simp only [Bool.not_false,cond_true]
  exact .pure ⟨fun h=>(by cases h),fun ⟨y,hy⟩=>(hdef hy.1).elim⟩
theorem AfB {f : LY} (hf : MN f) (hd : AcT f) {l : Mf} (hl : Acc f l.Out) {r : ML} (hr : AdW f r) : Hs (Pf f l r) fun q=>q.2.2 = true ↔ ∃ k y,k < f.Code.length ∧ Zp f l.Out r k y:=by
 have hlen:=hf.len'
 unfold Pf
 refine (AeX hf (hl.1.len hf)).bind fun e he=>.bne (fun h=>(h (he.2.2 hl)).elim) fun _=>?_
 refine (AdR hf r).bind fun e he=>.bne (fun h=>(h (he.2.2 hr)).elim) fun _=>?_
 unfold Qq
 refine Hs.loop (fun i=>∃ k : Nat,i = (k : Int) ∧ k ≤ f.Code.length ∧ ∀ j y,j < k → ¬ Zp f l.Out r j y) (fun i=>f.Code.length - i.toNat) ⟨0,rfl,Nat.zero_le _,fun s _ hs=>absurd hs (Nat.not_lt_zero _)⟩ ?_
 rintro _ ⟨k,rfl,hk,hall⟩
 unfold Qp
 refine .dec (fun hlt=>?_) fun hge=>.lft (.pure ⟨fun h=>(by cases h),fun ⟨j,y,hj,hy⟩=>(hall j y (by omega) hy).elim⟩)
 have hlt : k < f.Code.length:=by omega
 refine (Afa hf hd hl.1 hr hlt).bind fun q hq=>.cond (fun h=>?_) fun h=>?_
 ·obtain ⟨y,hy⟩:=hq.1 h
  exact .lft (.pure ⟨fun _=>⟨k,y,hlt,hy⟩,fun _=>rfl⟩)
 ·rw [Mx (by omega)]
  refine .cnt ⟨⟨k + 1,rfl,hlt,fun j y hj hy=>?_⟩,by simp only; omega⟩
  by_cases e : j = k
  ·subst e; rw [hq.2 ⟨y,hy⟩] at h; cases h
  ·exact hall j y (by omega) hy
theorem AcR {f : LY} (hf : MN f) (hd : AcT f) {l : Mf} (hl : Aah l.Out) (r : ML) :
  Hs (OJ f l r) fun e=>(¬ Acc f l.Out ∧ e = 11) ∨ (Acc f l.Out ∧ (¬ AdW f r ∨ ∃ k y,k < f.Code.length ∧ Zp f l.Out r k y) ∧ e = 12) ∨ (Acc f l.Out ∧ AdW f r ∧ (∀ k y,k < f.Code.length → ¬ Zp f l.Out r k y) ∧ e = 0):=by
 unfold OJ
 refine (AeX hf hl).bind fun e he=>.bne (fun h=>.pure (.inl ⟨fun h'=>h (he.2.2 h'),rfl⟩)) fun h=>?_
 have ha:=he.2.1 h
 refine (AdR hf r).bind fun e he=>.bne (fun h=>.pure (.inr (.inl ⟨ha,.inl fun h'=>h (he.2.2 h'),rfl⟩))) fun h=>?_
 have hr:=he.2.1 h
 refine (AfB hf hd ha hr).bind fun q hq=>.cond (fun h=>.pure (.inr (.inl ⟨ha,.inr (hq.1 h),rfl⟩))) fun h=>.pure (.inr (.inr ⟨ha,hr,fun k y hk hy=>?_,rfl⟩))
 rw [hq.2 ⟨k,y,hk,hy⟩] at h; cases h
end Go.Proofs.YtfpgidpffhmadaaGreatDoor
namespace Go.Proofs.YtfpgidpffhmadaaGreatDoor
open Go Go.Dw Go.Proofs
theorem AlM {n : Nat} {out : List (List Int)} {P : Int → Int → Prop} (hs : NB n out fun a v=>P a v ∨ P v a) (hn : n ≤ 500) {d y : Nat} (hd : d < n) (hy : y < n) (hne : d ≠ y) (t : Bool) {i : Nat} (hi : i < 1000000) (p q r s : Bool) :
  ∃ out',OI ((d : Int),t) out (y : Int) (i : Int) p q r s = some (.inl (out',((i + 1 : Nat) : Int))) ∧ NB n out' fun a v=>(P a v ∨ ((a : Int) = d ∧ v = y)) ∨ (P v a ∨ (v = d ∧ (a : Int) = y)):=by
 have e1 : out[d]? = some (out[d]'(by have:=hs.1; omega)):=List.getElem?_eq_getElem _
 have e2 : out[y]? = some (out[y]'(by have:=hs.1; omega)):=List.getElem?_eq_getElem _
 generalize out[d]'(by have:=hs.1; omega) = sd at e1
 generalize out[y]'(by have:=hs.1; omega) = sy at e2
 have q1:=hs.2 d _ e1
 have q2:=hs.2 y _ e2
 have a1:=q1.1.add (m:=(y : Int)) (by omega) (by omega)
 have a2:=q2.1.add (m:=(d : Int)) (by omega) (by omega)
 have m1:=(MJ.AfS (m:=(y : Int)) q1.1 (by omega) (by omega)).2.2
 have m2:=(MJ.AfS (m:=(d : Int)) q2.1 (by omega) (by omega)).2.2
 have e3 : (out.set d (OR y sd))[y]? = some sy:=by rw [List.getElem?_set_ne hne]; exact e2
 have hl:=hs.1
 have h1 : 0 ≤ (d : Int) ∧ (d : Int) < out.length:=by omega
 have h2 : 0 ≤ (y : Int) ∧ (y : Int) < out.length:=by omega
 have h3 : 0 ≤ (y : Int) ∧ (y : Int) < (out.set d (OR y sd)).length:=by simp only [List.length_set]; omega
 have w:=Mx (show i < 9223372036854775807 by omega)
 refine ⟨(out.set d (OR y sd)).set y (OR d sy),by simp only [OI,Int.toNat_natCast,Nj h1,Nj h2,Nj h3,e1,e2,e3,a1.2,a2.2,Option.bind_some,w,AiA],by simp [hl],fun a s hs'=>?_⟩
 by_cases ea : a = y
 ·subst ea
  rw [List.getElem?_set_self (by simp; omega)] at hs'
  obtain rfl:=Option.some.inj hs'
  refine ⟨a2.1,fun v=>?_⟩
  rw [m2 v,q2.2 v]
  constructor
  ·rintro (h | h | h)
   ·exact .inr (.inr ⟨h,rfl⟩)
   ·exact .inl (.inl h)
   ·exact .inr (.inl h)
  ·rintro ((h | ⟨h,_⟩) | (h | ⟨h,_⟩))
   ·exact .inr (.inl h)
   ·omega
   ·exact .inr (.inr h)
   ·exact .inl h
 ·rw [List.getElem?_set_ne (fun h=>ea h.symm)] at hs'
  by_cases ed : a = d
  ·subst ed
   rw [List.getElem?_set_self (by omega)] at hs'
   obtain rfl:=Option.some.inj hs'
   refine ⟨a1.1,fun v=>?_⟩
   rw [m1 v,q1.2 v]
   constructor
   ·rintro (h | h | h)
    ·exact .inl (.inr ⟨rfl,h⟩)
    ·exact .inl (.inl h)
    ·exact .inr (.inl h)
   ·rintro ((h | ⟨_,h⟩) | (h | ⟨_,h⟩))
    ·exact .inr (.inl h)
    ·exact .inl h
    ·exact .inr (.inr h)
    ·omega
  ·rw [List.getElem?_set_ne (fun h=>ed h.symm)] at hs'
   refine ⟨(hs.2 a s hs').1,fun v=>?_⟩
   rw [(hs.2 a s hs').2 v]
   constructor
   ·rintro (h | h)
    ·exact .inl (.inl h)
    ·exact .inr (.inl h)
   ·rintro ((h | ⟨h,_⟩) | (h | ⟨_,h⟩))
    ·exact .inl h
    ·omega
    ·exact .inr h
    ·omega
def AeN (mv : LU → Int → Bool) (f : LY) (l : List (List Int)) (s : List (List Int) × Int) : Prop :=
 ∃ k : Nat,s.2 = (k : Int) ∧ k ≤ f.Code.length ∧ NB f.Slots.length s.1 fun a v=>Wb mv f l k a v ∨ Wb mv f l k v a
def AfQ (mv : LU → Int → Bool) (f : LY) (l : List (List Int)) (k : Nat) (s : List (List Int) × Int) : Prop :=
 ∃ i : Nat,s.2 = (i : Int) ∧ i ≤ (Mn l k).length ∧ NB f.Slots.length s.1 fun a v=>Yn mv f l k i a v ∨ Yn mv f l k i v a
theorem Agt {f : LY} (hf : MN f) (hd : AcT f) {l : Mf} (hl : Aah l.Out) (b : Bool) : Hs (Tc f l b) (AaS (bif b then Afn else RX) f l.Out):=by
 have hlen:=hf.len'
 have hsl:=hf.slots
 unfold Tc
 refine (Agq hf hl).bind fun e he=>.bne (fun h=>.pure (.inr ⟨he.1.resolve_left h,fun ha=>h (he.2.2 ha),rfl⟩)) fun h=>?_
 have hacc : Acc f l.Out:=he.2.1 h
 refine .chk (by omega) ?_
 generalize hmv : (bif b then Afn else RX) = mv
 refine Hs.loop (AeN mv f l.Out) (fun s=>f.Code.length - s.2.toNat) ⟨0,rfl,Nat.zero_le _,?_⟩ ?_
 ·rw [Int.toNat_natCast]
  exact NB.nil _ fun a v h=>by rcases h with ⟨j,hj,_⟩ | ⟨j,hj,_⟩ <;> omega
 rintro ⟨out,_⟩ ⟨k,rfl,hk,hs⟩
 unfold Ux
 refine .dec (fun hlt=>?_) fun hge=>.lft (.pure (.inl ⟨rfl,hacc,?_⟩))
 ·have hlt : k < f.Code.length:=by simp only at hlt; omega
  have hx:=hf.at (j:=(k : Int)) (by omega) (by omega)
  rw [Int.toNat_natCast] at hx
  have hrow:=hacc.1.at (j:=(k : Int)) (by omega) (by omega)
  rw [Int.toNat_natCast] at hrow
  simp only [Of,hx.1,Option.bind_some,AfJ]
  have next : ∀ out',(NB f.Slots.length out' fun a v=>Wb mv f l.Out (k + 1) a v ∨ Wb mv f l.Out (k + 1) v a) → ∀ a b c d e,Hs (Pu (k : Int) a b c d e out') (Rnd (AeN mv f l.Out) (fun s=>f.Code.length - s.2.toNat) (out,(k : Int)) (AaS mv f l.Out)):=by
   intro out' h' a b c d e
   unfold Pu
   rw [Mx (by omega)]
   exact .cnt ⟨⟨k + 1,rfl,hlt,h'⟩,by simp only; omega⟩
  have inner : ¬ ((Ma f k).Op = 17 ∧ (Ma f k).A = (Ma f k).B) → Hs (Qy l (k : Int) (Aea (Ma f k)) b (Ma f k) out) (Rnd (AeN mv f l.Out) (fun s=>f.Code.length - s.2.toNat) (out,(k : Int)) (AaS mv f l.Out)):=by
   intro hnm
   unfold Qy
   by_cases hdef : (Ma f k).Op = 16 ∨ (Ma f k).Op = 17
   ·have hdn : Aea (Ma f k) = ((Ma f k).A,true):=if_pos hdef
    have hA:=hd _ hx.2 hdef
    rw [hdn]
    have hlo:=hrow.2.1.length_le
    refine Hs.loop (AfQ mv f l.Out k) (fun s=>(Mn l.Out k).length - s.2.toNat) ⟨0,rfl,Nat.zero_le _,hs.congr fun a v _=>by rw [Aes,Aes]⟩ ?_
    rintro ⟨out2,_⟩ ⟨i,rfl,hi,hs2⟩
    unfold Sc
    simp only [Of,hrow.1,Option.bind_some]
    refine .dec (fun hlt2=>?_) fun hge2=>.lft (next _ (hs2.congr fun a v _=>?_) _ _ _ _ _)
    ·have hlt2 : i < (Mn l.Out k).length:=by omega
     have hgx : (Mn l.Out k)[i]? = some (Mn l.Out k)[i]:=List.getElem?_eq_getElem _
     have hxm:=List.getElem_mem hlt2
     generalize (Mn l.Out k)[i] = x at hgx hxm
     have hx0:=hrow.2.1.2 x hxm
     have hxn:=hrow.2.2 x hxm
     simp only [cond_true]
     unfold Uy
     simp only [Of,hrow.1,hgx,Option.bind_some]
     have skip : x = (Ma f k).A ∨ mv (Ma f k) x = true → Hs (cnt (out2,IntKind.i64.wrap ((i : Int) + 1))) (Rnd (AfQ mv f l.Out k) (fun s=>(Mn l.Out k).length - s.2.toNat) (out2,(i : Int)) (Rnd (AeN mv f l.Out) (fun s=>f.Code.length - s.2.toNat) (out,(k : Int)) (AaS mv f l.Out))):=by
      intro hh
      rw [Mx (by omega)]
      exact .cnt ⟨⟨i + 1,rfl,hlt2,hs2.congr fun a v _=>by rw [Aer hgx hh,Aer hgx hh]⟩,by simp only; omega⟩
     have add : x ≠ (Ma f k).A → mv (Ma f k) x = false → ∀ p q r s,Hs (OI ((Ma f k).A,true) out2 x (i : Int) p q r s) (Rnd (AfQ mv f l.Out k) (fun s=>(Mn l.Out k).length - s.2.toNat) (out2,(i : Int)) (Rnd (AeN mv f l.Out) (fun s=>f.Code.length - s.2.toNat) (out,(k : Int)) (AaS mv f l.Out))):=by
      intro hne hmf p q r s
      obtain ⟨d,hde⟩ : ∃ d : Nat,(Ma f k).A = (d : Int):=⟨_,(Int.toNat_of_nonneg hA.1).symm⟩
      obtain ⟨y,rfl⟩ : ∃ y : Nat,x = (y : Int):=⟨_,(Int.toNat_of_nonneg hx0.1).symm⟩
      obtain ⟨out',h1,h2⟩:=AlM (P:=Yn mv f l.Out k i) hs2 (by omega) (d:=d) (y:=y) (by omega) (by omega) (by omega) true (i:=i) (by omega) p q r s
      rw [hde,h1]
      refine .pure ⟨⟨i + 1,rfl,hlt2,h2.congr fun a v _=>?_⟩,by simp only; omega⟩
      rw [Acp hgx,Acp hgx,hde]
      constructor
      ·rintro ((h | ⟨h1,h2,_⟩) | (h | ⟨h1,h2,_⟩))
       ·exact .inl (.inl h)
       ·exact .inl (.inr ⟨h1,h2⟩)
       ·exact .inr (.inl h)
       ·exact .inr (.inr ⟨h1,h2⟩)
      ·rintro ((h | ⟨h1,h2⟩) | (h | ⟨h1,h2⟩))
       ·exact .inl (.inl h)
       ·exact .inl (.inr ⟨h1,h2,by omega,hmf⟩)
       ·exact .inr (.inl h)
       ·exact .inr (.inr ⟨h1,h2,by omega,hmf⟩)
     refine .beq (fun h=>skip (.inl h)) fun hne=>?_
     subst hmv
     cases b
     ·simp only [Bool.not_false,cond_true,cond_false] 
      refine .beq (fun h17=>.beq (fun hB=>skip (.inr (by simp [RX,h17,hB]))) fun hB=>add hne (by simp [RX,hB]) _ _ _ _) fun h17=>add hne (by simp [RX,h17]) _ _ _ _
     ·simp only [Bool.not_true,cond_true,cond_false] 
      exact add hne rfl _ _ _ _
    ·have hi : i = (Mn l.Out k).length:=by omega
     subst hi
     rw [Afc hdef hnm,Afc hdef hnm]
   ·have hdn : Aea (Ma f k) = (0,false):=if_neg hdef
    rw [hdn]
    have hs':=hs.congr (Q:=fun a v=>Wb mv f l.Out (k + 1) a v ∨ Wb mv f l.Out (k + 1) v a) fun a v _=>by rw [Aar (.inl (by omega)),Aar (.inl (by omega))]
    refine Hs.loop (fun s=>s = (out,0)) (fun _=>0) rfl ?_
    rintro _ rfl
    unfold Sc
    simp only [Of,hrow.1,Option.bind_some,cond_false]
    exact .dec (fun _=>.lft (next _ hs' _ _ _ _ _)) fun _=>.lft (next _ hs' _ _ _ _ _)
  refine .beq (fun h17=>.beq (fun hab=>next _ ?_ _ _ _ _ _) fun hab=>inner fun hh=>hab hh.2) fun h17=>inner fun hh=>h17 hh.1
  exact hs.congr fun a v _=>by rw [Aar (.inr ⟨h17,hab⟩),Aar (.inr ⟨h17,hab⟩)]
 ·have hk : k = f.Code.length:=by simp only at hge; omega
  subst hk
  exact hs
end Go.Proofs.YtfpgidpffhmadaaGreatDoor
namespace Go.Proofs.YtfpgidpffhmadaaGreatDoor
open Go Go.Dw Go.Proofs
def AeO (f : LY) : Prop:=∀ x ∈ f.Code,x.Op = 17 → 0 ≤ x.A ∧ x.A < f.Slots.length ∧ 0 ≤ x.B ∧ x.B < f.Slots.length ∧ Pb f x.A = Pb f x.B
theorem SO.AlI {ps : List Int} {i most : Int} {f : LY} (h : SO ps i most f) : AeO f:=by
 intro x hx hop
 obtain ⟨k,hk⟩:=List.getElem?_of_mem hx
 have hkl:=(List.getElem?_eq_some_iff.1 hk).1
 by_cases hk1 : k + 1 < f.Code.length
 ·have hins:=h.body k x hk hk1
  cases hins with
  | move a b h0 h1 h2 =>
   obtain ⟨q0,q1,x,y,e1,e2,e3⟩:=h0
   exact ⟨q0,q1,h1,h2,by simp only [Pb,e1,e2,Option.map_some,Option.getD_some]; exact e3⟩
  | bin op a b c h1 h2 h3 h4 h5 h6=>simp only at hop; omega
  | un op a h1 h2=>simp only at hop; omega
  | _=>simp at hop
 ·have he:=h.last x (by rw [show f.Code.length - 1 = k by omega]; exact hk)
  rcases he with rfl | ⟨w,_,rfl⟩ <;> simp at hop
def AdG (f : LY) (out : List MH) : Prop:=∀ p ∈ out,∃ x ∈ f.Code,x.Op = 17 ∧ p = ⟨x.A,x.B⟩
theorem AiI {f : LY} (hlen : f.Code.length ≤ 10000) : Hs (Tb f) fun out=>out.length ≤ 10000 ∧ AdG f out:=by
 unfold Tb
 refine Hs.loop (fun s=>∃ k : Nat,s.2 = (k : Int) ∧ k ≤ f.Code.length ∧ s.1.length ≤ k ∧ AdG f s.1) (fun s=>f.Code.length - s.2.toNat) ⟨0,rfl,Nat.zero_le _,Nat.le_refl _,fun p hp=>by cases hp⟩ ?_
 rintro ⟨out,_⟩ ⟨k,rfl,hk,hol,hmv⟩
 replace hol : out.length ≤ k:=hol
 replace hmv : AdG f out:=hmv
 unfold Uv
 refine .dec (fun hlt=>?_) fun hge=>.lft (.pure ⟨show out.length ≤ 10000 by omega,hmv⟩)
 have hlt : k < f.Code.length:=by simp only at hlt; omega
 have hx : f.Code[k]? = some f.Code[k]:=List.getElem?_eq_getElem _
 have hxm:=List.getElem_mem hlt
 generalize f.Code[k] = x at hx hxm
 simp only [Of,hx,Option.bind_some]
 have j3 : ∀ old : Bool,(old = false → x.Op = 17) → Hs (Qx out x (k : Int) old) (Rnd (fun s : List MH × Int=>∃ k : Nat,s.2 = (k : Int) ∧ k ≤ f.Code.length ∧ s.1.length ≤ k ∧ AdG f s.1) (fun s=>f.Code.length - s.2.toNat) (out,(k : Int)) fun out=>out.length ≤ 10000 ∧ AdG f out):=by
  intro old hold
  unfold Qx
  refine Hs.loop (fun s=>∃ i : Nat,s.2 = (i : Int) ∧ i ≤ out.length ∧ (s.1 = false → x.Op = 17)) (fun s=>out.length - s.2.toNat) ⟨0,rfl,Nat.zero_le _,hold⟩ ?_
  rintro ⟨old,_⟩ ⟨i,rfl,hi,hold⟩
  unfold Uw
  refine .dec (fun hlt2=>?_) fun _=>.lft ?_
  ·have hlt2 : i < out.length:=by simp only at hlt2; omega
   have hg : out[i]? = some out[i]:=List.getElem?_eq_getElem _
   simp only [Int.toNat_natCast]
   rw [Mx (by omega)]
   refine .cond (fun h=>.cnt ⟨⟨i + 1,rfl,hlt2,fun h'=>(by cases h')⟩,by simp only; omega⟩) fun h=>.chk (by omega) ?_
   rw [hg,Option.bind_some]
   exact .cnt ⟨⟨i + 1,rfl,hlt2,fun _=>hold h⟩,by simp only; omega⟩
  ·unfold Sb
   rw [Mx (by omega)]
   refine .cond (fun h=>.chk (by simp; omega) (.cnt ⟨⟨k + 1,rfl,hlt,by simp; omega,fun p hp=>?_⟩,by simp only; omega⟩)) fun _=>.cnt ⟨⟨k + 1,rfl,hlt,by simp only; omega,hmv⟩,by simp only; omega⟩
   rcases List.mem_append.1 hp with hp | hp
   ·exact hmv p hp
   ·rw [List.mem_singleton.1 hp]
    exact ⟨x,hxm,hold (by simpa using h),rfl⟩
 refine .bne (fun _=>j3 true fun h=>(by cases h)) fun h=>j3 _ fun _=>h
theorem AfH {to : List Int} (hl : to.length ≤ 500) (s : Int) : Hs (Qd to s) fun l=>l.length ≤ to.length ∧ ∀ t,t ∈ l ↔ ∃ j : Nat,j < to.length ∧ t = (j : Int) ∧ Mr to j = s:=by
 unfold Qd
 refine Hs.loop (fun z=>∃ k : Nat,z.2 = (k : Int) ∧ k ≤ to.length ∧ z.1.length ≤ k ∧ ∀ t,t ∈ z.1 ↔ ∃ j : Nat,j < k ∧ t = (j : Int) ∧ Mr to j = s) (fun z=>to.length - z.2.toNat) ⟨0,rfl,Nat.zero_le _,Nat.le_refl _,fun t=>⟨fun h=>(by cases h),fun ⟨j,h,_⟩=>absurd h (Nat.not_lt_zero _)⟩⟩ ?_
 rintro ⟨l,_⟩ ⟨k,rfl,hk,hll,hm⟩
 replace hll : l.length ≤ k:=hll
 replace hm : ∀ t,t ∈ l ↔ ∃ j : Nat,j < k ∧ t = (j : Int) ∧ Mr to j = s:=hm
 unfold SG
 refine .dec (fun hlt=>?_) fun hge=>.lft (.pure ?_)
 ·have hlt : k < to.length:=by simp only at hlt; omega
  have hg:=SJ (to:=to) (s:=(k : Int)) (by omega) (by omega)
  rw [Int.toNat_natCast] at hg
  simp only [Of,hg,Option.bind_some]
  rw [Mx (by omega)]
  refine .beq (fun h=>.chk (by simp; omega) (.cnt ⟨⟨k + 1,rfl,hlt,by simp; omega,fun t=>?_⟩,by simp only; omega⟩)) fun h=>.cnt ⟨⟨k + 1,rfl,hlt,by simp only; omega,fun t=>?_⟩,by simp only; omega⟩
  ·show t ∈ l ++ [(k : Int)] ↔ _
   rw [List.mem_append,hm t,List.mem_singleton]
   constructor
   ·rintro (⟨j,h1,h2,h3⟩ | rfl)
    ·exact ⟨j,by omega,h2,h3⟩
    ·exact ⟨k,by omega,rfl,h⟩
   ·rintro ⟨j,h1,h2,h3⟩
    by_cases e : j = k
    ·subst e; exact .inr h2
    ·exact .inl ⟨j,by omega,h2,h3⟩
  ·show t ∈ l ↔ _
   rw [hm t]
   constructor
   ·rintro ⟨j,h1,h2,h3⟩; exact ⟨j,by omega,h2,h3⟩
   ·rintro ⟨j,h1,h2,h3⟩
    by_cases e : j = k
    ·subst e; exact (h h3).elim
    ·exact ⟨j,by omega,h2,h3⟩
 ·have hk : k = to.length:=by simp only at hge; omega
  subst hk
  exact ⟨hll,hm⟩
def DX (g : List (List Int)) (to : List Int) (a b : Int) : Prop:=∀ (x y : Nat) row,x < to.length → y < to.length → Mr to x = a → Mr to y = b → g[x]? = some row → (y : Int) ∉ row
theorem AgC {n : Nat} {g : List (List Int)} {Q : Nat → Int → Prop} (hg : NB n g Q) {to : List Int} (htn : to.length = n) (hl : n ≤ 500) (a b : Int) : Hs (Td g to a b) fun r=>r = true → DX g to a b:=by
 unfold Td
 refine (AfH (by omega) a).bind fun xs hx=>(AfH (by omega) b).bind fun ys hy=>?_
 have hxl:=hx.1
 have hyl:=hy.1
 have fin : (∀ x ∈ xs,∀ y ∈ ys,∀ row,g[x.toNat]? = some row → y ∉ row) → DX g to a b:=by
  intro h x y row h1 h2 h3 h4 h5
  exact h x ((hx.2 x).2 ⟨x,h1,rfl,h3⟩) y ((hy.2 y).2 ⟨y,h2,rfl,h4⟩) row (by simpa using h5)
 refine Hs.loop (fun i=>∃ k : Nat,i = (k : Int) ∧ k ≤ xs.length ∧ ∀ x ∈ xs.take k,∀ y ∈ ys,∀ row,g[x.toNat]? = some row → y ∉ row) (fun i=>xs.length - i.toNat) ⟨0,rfl,Nat.zero_le _,fun x h=>by simp at h⟩ ?_
 rintro _ ⟨k,rfl,hk,hall⟩
 unfold Uz
 refine .dec (fun hlt=>?_) fun hge=>.lft (.pure fun _=>fin fun x hx=>hall x (by rw [List.take_of_length_le (by omega)]; exact hx))
 have hlt : k < xs.length:=by omega
 have hgx : xs[k]? = some xs[k]:=List.getElem?_eq_getElem _
 have hxm:=List.getElem_mem hlt
 have htk : xs.take (k + 1) = xs.take k ++ [xs[k]]:=by rw [List.take_add_one,hgx]; rfl
 generalize xs[k] = x at hgx hxm htk
 obtain ⟨jx,hjx,rfl,_⟩:=(hx.2 x).1 hxm
 have hgl:=hg.1
 have hrow : g[jx]? = some (g[jx]'(by omega)):=List.getElem?_eq_getElem _
 generalize g[jx]'(by omega) = row at hrow
 have hset:=(hg.2 jx row hrow).1
 have hrl:=hset.1.length_le
 refine Hs.loop (fun i=>∃ m : Nat,i = (m : Int) ∧ m ≤ ys.length ∧ ∀ y ∈ ys.take m,y ∉ row) (fun i=>ys.length - i.toNat) ⟨0,rfl,Nat.zero_le _,fun x h=>by simp at h⟩ ?_
 rintro _ ⟨m,rfl,hm,hno⟩
 unfold UA
 refine .dec (fun hlt2=>?_) fun hge2=>.lft ?_
 ·have hlt2 : m < ys.length:=by omega
  have hgy : ys[m]? = some ys[m]:=List.getElem?_eq_getElem _
  have htm : ys.take (m + 1) = ys.take m ++ [ys[m]]:=by rw [List.take_add_one,hgy]; rfl
  generalize ys[m] = y at hgy htm
  refine .chk (by omega) ?_
  simp only [Int.toNat_natCast,hgx,Option.bind_some,Of,hrow]
  refine .chk (by omega) ?_
  rw [hgy,Option.bind_some,AdM _ _ (by omega),Option.bind_some,Mx (by omega)]
  refine .dec (fun _=>.lft (.lft (.pure fun h=>(by cases h)))) fun h=>.cnt ⟨⟨m + 1,rfl,hlt2,fun z hz=>?_⟩,by simp only; omega⟩
  rw [htm] at hz
  rcases List.mem_append.1 hz with hz | hz
  ·exact hno z hz
  ·rw [List.mem_singleton.1 hz]; exact h
 ·unfold UB
  rw [Mx (by omega)]
  refine .cnt ⟨⟨k + 1,rfl,hlt,fun z hz y hy row' hr=>?_⟩,by simp only; omega⟩
  rw [htk] at hz
  rcases List.mem_append.1 hz with hz | hz
  ·exact hall z hz y hy row' hr
  ·rw [List.mem_singleton.1 hz,Int.toNat_natCast,hrow] at hr
   cases hr
   exact hno y (by rw [List.take_of_length_le (by omega)]; exact hy)
structure Wa (f : LY) (g : List (List Int)) (to : List Int) : Prop where
 ok : AdX f to
 apart : ∀ (x y : Nat) row,x < to.length → y < to.length → Mr to x = Mr to y → g[x]? = some row → (y : Int) ∉ row
def NH (a b c : Int) : Int:=if c = a ∨ c = b then On a b else c
theorem AcW (a b : Int) : On a b = a ∨ On a b = b:=by unfold On; split <;> simp
theorem Wa.join {f : LY} {g : List (List Int)} {Q : Nat → Int → Prop} (hg : NB f.Slots.length g Q) (hsym : ∀ (x y : Nat) r s,g[x]? = some r → g[y]? = some s → (y : Int) ∈ r → (x : Int) ∈ s) {to to' : List Int} (h : Wa f g to) {a b : Int} (ha : 0 ≤ a ∧ a < f.Slots.length) (hb : 0 ≤ b ∧ b < f.Slots.length)
  (haa : Mr to a = a) (hbb : Mr to b = b) (hs : Pb f a = Pb f b) (hap : DX g to a b) (hl : to'.length = to.length) (hto : ∀ j : Nat,j < to.length → Mr to' j = NH a b (Mr to j)) : Wa f g to':=by
 have htl:=h.ok.1
 have hto2 : ∀ j : Int,0 ≤ j → j < to.length → Mr to' j = NH a b (Mr to j):=by
  intro j h0 h1
  obtain ⟨i,rfl⟩ : ∃ i : Nat,j = (i : Int):=⟨j.toNat,by omega⟩
  exact hto i (by omega)
 have hm : Mr to (On a b) = On a b ∧ 0 ≤ On a b ∧ On a b < f.Slots.length ∧ Pb f (On a b) = Pb f a:=by
  rcases AcW a b with e | e <;> rw [e]
  ·exact ⟨haa,ha.1,ha.2,rfl⟩
  ·exact ⟨hbb,hb.1,hb.2,hs.symm⟩
 have hj : NH a b (On a b) = On a b:=by
  unfold NH
  rw [if_pos (AcW a b)]
 refine ⟨⟨by omega,fun s hs'=>?_⟩,fun x y row hx hy he hr hyr=>?_⟩
 ·obtain ⟨q1,q2,q3,q4⟩:=h.ok.2 s (by omega)
  rw [hto s (by omega)]
  by_cases e : Mr to s = a ∨ Mr to s = b
  ·have ej : NH a b (Mr to s) = On a b:=by unfold NH; rw [if_pos e]
   rw [ej,hto2 _ hm.2.1 (by omega),hm.1,hj]
   refine ⟨hm.2.1,by omega,?_,rfl⟩
   rw [hm.2.2.2]
   rcases e with e | e
   ·rw [← e,q3]
   ·rw [hs,← e,q3]
  ·have ej : NH a b (Mr to s) = Mr to s:=by unfold NH; rw [if_neg e]
   rw [ej,hto2 _ q1 (by omega),q4,ej]
   exact ⟨q1,by omega,q3,rfl⟩
 ·rw [hto x (by omega),hto y (by omega)] at he
  have hgl:=hg.1
  have hrow : g[y]? = some (g[y]'(by omega)):=List.getElem?_eq_getElem _
  by_cases ex : Mr to x = a ∨ Mr to x = b <;> by_cases ey : Mr to y = a ∨ Mr to y = b
  ·rcases ex with ex | ex <;> rcases ey with ey | ey
   ·exact h.apart x y row (by omega) (by omega) (by rw [ex,ey]) hr hyr
   ·exact hap x y row (by omega) (by omega) ex ey hr hyr
   ·exact hap y x _ (by omega) (by omega) ey ex hrow (hsym x y _ _ hr hrow hyr)
   ·exact h.apart x y row (by omega) (by omega) (by rw [ex,ey]) hr hyr
  ·have e1 : NH a b (Mr to x) = On a b:=by unfold NH; rw [if_pos ex]
   have e2 : NH a b (Mr to y) = Mr to y:=by unfold NH; rw [if_neg ey]
   rw [e1,e2] at he
   exact ey (he ▸ AcW a b)
  ·have e1 : NH a b (Mr to y) = On a b:=by unfold NH; rw [if_pos ey]
   have e2 : NH a b (Mr to x) = Mr to x:=by unfold NH; rw [if_neg ex]
   rw [e1,e2] at he
   exact ex (he ▸ AcW a b)
  ·have e1 : NH a b (Mr to y) = Mr to y:=by unfold NH; rw [if_neg ey]
   have e2 : NH a b (Mr to x) = Mr to x:=by unfold NH; rw [if_neg ex]
   rw [e1,e2] at he
   exact h.apart x y row (by omega) (by omega) he hr hyr
end Go.Proofs.YtfpgidpffhmadaaGreatDoor
namespace Go.Proofs.YtfpgidpffhmadaaGreatDoor
open Go Go.Dw Go.Proofs
theorem Aif {c : LV} (h : okC c) {f : LY} (hf : MN f) : Hs (Pq c f) fun p=>okC p.2 ∧ Acc f p.1.Out:=by
 have hlen:=hf.len
 have hlen':=hf.len'
 have hsl:=hf.slots
 unfold Pq
 refine (Aik hf).bind fun l hl=>.chk (by have:=hl.ok.1; simp; omega) ((MI h (by omega) (by omega)).bind fun r hr=>?_)
 refine Hs.loop (fun s=>okC ⟨s.1,s.2.1⟩ ∧ Acc f s.2.2.1 ∧ 0 ≤ s.2.2.2 ∧ s.2.2.2 < 3) (fun s=>s.2.2.2.toNat) ⟨hr.1,by simpa using hl.acc hf,hr.2⟩ ?_
 rintro ⟨l,a,x,n⟩ ⟨hc,hx,hn0,hn1⟩
 simp only at hc hx hn0 hn1
 have w : IntKind.i64.wrap (n - 1) = n - 1:=wrap64 (by omega) (by omega)
 unfold QK
 refine .dec (fun hlt=>.dec (fun hsl0=>?_) fun _=>.lft (.pure ⟨hc,hx⟩)) fun _=>.lft (.pure ⟨hc,hx⟩)
 have hlt : 0 < n:=hlt
 unfold QM
 refine (MI hc (by omega) (by omega)).bind fun u hu=>?_
 have hxl:=hx.1.1
 refine Hs.loop (fun s=>∃ k : Nat,s.2 = (k : Int) ∧ k ≤ x.length ∧ s.1 = Vn u.1 x k) (fun s=>x.length - s.2.toNat) ⟨0,rfl,Nat.zero_le _,(AfR _ _).symm⟩ ?_
 rintro ⟨y,i⟩ ⟨k,hi,hk,hy⟩
 simp only at hi hy
 subst hi hy
 have hyl:=AeQ u.1 x hk
 unfold QL
 refine .dec (fun hlt=>?_) fun hge=>?_
 ·have hlt : k < x.length:=by simp only at hlt; omega
  refine .chk (by omega) ?_
  have hs:=hx.1.2 _ (List.getElem_mem hlt)
  rw [Int.toNat_natCast,Agb hlt,Option.bind_some,add_eq _ _ (by have:=hs.1.length_le; omega),Option.bind_some]
  refine .chk (by omega) ?_
  rw [Option.bind_some,Agc hlt,Mx (by omega)]
  exact .cnt ⟨⟨k + 1,rfl,hlt,rfl⟩,by simp only; omega⟩
 ·obtain rfl : k = x.length:=by simp only at hge; omega
  rw [Aga]
  unfold QN
  exact .lft (.cnt ⟨⟨hu.1,Aiv hf hx hu.2,by simp only [w]; omega,by simp only [w]; omega⟩,by simp only [w]; omega⟩)
end Go.Proofs.YtfpgidpffhmadaaGreatDoor
namespace Go.Proofs.YtfpgidpffhmadaaGreatDoor
open Go Go.Dw Go.Proofs
abbrev Adw : LY:=LY.mk 0 ([(Mt.mk 8 8),(Mt.mk 8 8)] : List Mt) ([(LU.mk 16 0 0 0 0),(LU.mk 16 1 0 0 0),(LU.mk 15 0 0 0 0),(LU.mk 23 0 0 0 0)] : List LU)
abbrev AeR : List (List Int):=[[0],[0],[],[]]
theorem Aai : MN Adw:=by
 refine ⟨by simp,by simp,by simp,fun k x hx j hj=>?_,fun x hx v hv=>?_⟩
 ·match k,hx with
  | 0,hx=>simp at hx; subst hx; simp [Nx] at hj; subst hj; simp
  | 1,hx=>simp at hx; subst hx; simp [Nx] at hj; subst hj; simp
  | 2,hx=>simp at hx; subst hx; simp [Nx] at hj; subst hj; simp
  | 3,hx=>simp at hx; subst hx; simp [Nx] at hj
  | n + 4,hx=>simp at hx
 ·simp at hx
  rcases hx with rfl | rfl | rfl | rfl <;> simp [NW] at hv <;> subst hv <;> simp
theorem Aep : AcT Adw:=by
 intro x hx h
 simp at hx
 rcases hx with rfl | rfl | rfl | rfl <;> simp at h ⊢
theorem Abs : Acc Adw AeR:=by
 refine ⟨⟨rfl,fun s hs=>?_⟩,fun j hj=>?_⟩
 ·have : s = [] ∨ s = [0]:=by simp at hs; rcases hs with rfl | rfl <;> simp
  rcases this with rfl | rfl
  ·exact MJ.nil _
  ·exact ⟨⟨List.pairwise_singleton _ _,fun x hx=>by simp at hx; omega⟩,fun x hx=>by simp at hx; simp [hx]⟩
 ·match j,hj with
  | 0,_=>decide
  | 1,_=>decide
  | 2,_=>decide
  | 3,_=>decide
  | n + 4,h=>exact absurd h (by simp)
theorem Agd : Zp Adw AeR ⟨[0,0],[true,true,true,true]⟩ 1 0:=by
 refine ⟨by decide,by decide,by decide,by decide,by decide⟩
theorem Aix : AdW Adw ⟨[0,1],[true,true,true,true]⟩:=by
 refine ⟨⟨rfl,fun s hs=>?_⟩,rfl,fun k hk h=>?_⟩
 ·match s,hs with
  | 0,_=>decide
  | 1,_=>decide
  | n + 2,h=>exact absurd h (by simp)
 ·match k,hk with
  | 0,_=>exact absurd h (by decide)
  | 1,_=>exact absurd h (by decide)
  | 2,_=>exact absurd h (by decide)
  | 3,_=>exact absurd h (by decide)
  | n + 4,h=>exact absurd h (by simp)
theorem Age {k : Nat} {y : Int} (hk : k < Adw.Code.length) : ¬ Zp Adw AeR ⟨[0,1],[true,true,true,true]⟩ k y:=by
 rintro ⟨h1,-,h3,h4,h5⟩
 match k,hk with
 | 0,_ =>
  have hy : y = 0:=by simpa [Mn] using h3
  subst hy
  exact absurd h4 (by decide)
 | 1,_ =>
  have hy : y = 0:=by simpa [Mn] using h3
  subst hy
  exact absurd h5 (by decide)
 | 2,_=>exact absurd h1 (by decide)
 | 3,_=>exact absurd h1 (by decide)
 | n + 4,h=>exact absurd h (by simp)
theorem Aiy : SV = some true:=by
 obtain ⟨r,h1,h2⟩:=AcR Aai Aep (l:=⟨AeR⟩) (Abs.1.len Aai) ⟨[0,1],[true,true,true,true]⟩
 obtain ⟨q,k1,k2⟩:=AcR Aai Aep (l:=⟨AeR⟩) (Abs.1.len Aai) ⟨[0,0],[true,true,true,true]⟩
 have hr : r = 0:=by
  rcases h2 with ⟨h,_⟩ | ⟨_,h | ⟨k,y,hk,h⟩,_⟩ | ⟨_,_,_,h⟩
  ·exact (h Abs).elim
  ·exact (h Aix).elim
  ·exact (Age hk h).elim
  ·exact h
 have hq : q = 12:=by
  rcases k2 with ⟨h,_⟩ | ⟨_,_,h⟩ | ⟨_,_,h,_⟩
  ·exact (h Abs).elim
  ·exact h
  ·exact (h 1 0 (by simp) Agd).elim
 subst hr hq
 unfold SV
 rw [h1,Option.bind_some,show ((0 : Int) == 0) = true from rfl,cond_true,k1,Option.bind_some]
 rfl
end Go.Proofs.YtfpgidpffhmadaaGreatDoor
namespace Go.Proofs.YtfpgidpffhmadaaGreatDoor
open Go Go.Dw Go.Proofs
theorem AfT {f : LY} (hlen : f.Code.length ≤ 10000) (hsl : f.Slots.length ≤ 500) (hml : AeO f) {g : List (List Int)} {Q : Nat → Int → Prop} (hg : NB f.Slots.length g Q) (hsym : ∀ (x y : Nat) r s,g[x]? = some r → g[y]? = some s → (y : Int) ∈ r → (x : Int) ∈ s)
  (hirr : ∀ (x : Nat) r,g[x]? = some r → (x : Int) ∉ r) : Hs (Rg f g) fun to=>Wa f g to:=by
 unfold Rg
 refine Hs.loop (fun s=>∃ k : Nat,s.2 = (k : Int) ∧ k ≤ f.Slots.length ∧ s.1.length = k ∧ ∀ j : Nat,j < k → s.1[j]? = some (j : Int)) (fun s=>f.Slots.length - s.2.toNat) ⟨0,rfl,Nat.zero_le _,rfl,fun j hj=>absurd hj (Nat.not_lt_zero _)⟩ ?_
 rintro ⟨to,_⟩ ⟨k,rfl,hk,htl,hto⟩
 replace htl : to.length = k:=htl
 replace hto : ∀ j : Nat,j < k → to[j]? = some (j : Int):=hto
 unfold SC
 refine .dec (fun hlt=>?_) fun hge=>.lft ?_
 ·have hlt : k < f.Slots.length:=by simp only at hlt; omega
  refine .chk (by simp; omega) ?_
  rw [Mx (by omega)]
  refine .cnt ⟨⟨k + 1,rfl,hlt,by simp [htl],fun j hj=>?_⟩,by simp only; omega⟩
  show (to ++ [(k : Int)])[j]? = some (j : Int)
  by_cases e : j = k
  ·subst e; rw [← htl,List.getElem?_concat_length]
  ·rw [List.getElem?_append_left (by omega)]; exact hto j (by omega)
 have hkk : k = f.Slots.length:=by simp only at hge; omega
 subst hkk
 have hid : ∀ j : Nat,j < f.Slots.length → Mr to j = (j : Int):=by
  intro j h1
  simp only [Mr,Int.toNat_natCast,hto j h1,Option.getD_some]
 have hc0 : Wa f g to:=by
  refine ⟨⟨htl,fun s hs=>?_⟩,fun x y row hx hy he hr hyr=>?_⟩
  ·have:=hid s (by omega)
   rw [this,this]
   exact ⟨by omega,by omega,rfl,rfl⟩
  ·rw [hid x (by omega),hid y (by omega)] at he
   have : x = y:=by omega
   subst this
   exact hirr x row hr hyr
 clear hto hid
 refine (AiI hlen).bind fun mv hmv=>?_
 obtain ⟨hmvl,hmv⟩:=hmv
 refine Hs.loop (fun s=>∃ i : Nat,s.2 = (i : Int) ∧ i ≤ mv.length ∧ Wa f g s.1) (fun s=>mv.length - s.2.toNat) ⟨0,rfl,Nat.zero_le _,hc0⟩ ?_
 clear hc0 htl hge
 rintro ⟨to,_⟩ ⟨i,rfl,hi,hc⟩
 replace hc : Wa f g to:=hc
 have htl:=hc.ok.1
 unfold SD
 refine .dec (fun hlt=>?_) fun _=>.lft (.pure hc)
 have hlt : i < mv.length:=by simp only at hlt; omega
 have hgp : mv[i]? = some mv[i]:=List.getElem?_eq_getElem _
 have hpm:=List.getElem_mem hlt
 generalize mv[i] = p at hgp hpm
 obtain ⟨x,hx,hop,rfl⟩:=hmv p hpm
 obtain ⟨a0,a1,b0,b1,hsz⟩:=hml x hx hop
 have hA:=SJ (to:=to) (s:=x.A) a0 (by omega)
 have hB:=SJ (to:=to) (s:=x.B) b0 (by omega)
 simp only [Int.toNat_natCast,hgp,Option.bind_some,hA,hB]
 have skip : Hs (NZ (i : Int) to) (Rnd (fun s : List Int × Int=>∃ i : Nat,s.2 = (i : Int) ∧ i ≤ mv.length ∧ Wa f g s.1) (fun s=>mv.length - s.2.toNat) (to,(i : Int)) fun to=>Wa f g to):=by
  unfold NZ
  rw [Mx (by omega)]
  exact .cnt ⟨⟨i + 1,rfl,hlt,hc⟩,by simp only; omega⟩
 refine .chk (by omega) (.chk (by omega) (.chk (by omega) (.chk (by omega) (.beq (fun _=>skip) fun hne=>?_))))
 refine (AgC hg htl hsl (Mr to x.A) (Mr to x.B)).bind fun r hr=>.cond (fun _=>skip) fun hrt=>?_
 have hap:=hr (by simpa using hrt)
 have nat : ∀ {s : Int},0 ≤ s → s < to.length → 0 ≤ Mr to s ∧ Mr to s < to.length ∧ Pb f (Mr to s) = Pb f s ∧ Mr to (Mr to s) = Mr to s:=by
  intro s h0 h1
  obtain ⟨j,rfl⟩ : ∃ j : Nat,s = (j : Int):=⟨s.toNat,by omega⟩
  exact hc.ok.2 j (by omega)
 obtain ⟨qa1,qa2,qa3,qa4⟩:=nat a0 (by omega)
 obtain ⟨qb1,qb2,qb3,qb4⟩:=nat b0 (by omega)
 generalize Mr to x.A = a at *
 generalize Mr to x.B = b at *
 unfold SF
 refine Hs.loop (fun s=>∃ k : Nat,s.2 = (k : Int) ∧ k ≤ to.length ∧ s.1.length = to.length ∧ ∀ j : Nat,j < to.length → Mr s.1 j = if j < k then NH a b (Mr to j) else Mr to j) (fun s=>to.length - s.2.toNat) ⟨0,rfl,Nat.zero_le _,rfl,fun j _=>(by simp)⟩ ?_
 rintro ⟨t2,_⟩ ⟨k,rfl,hk,h2l,h2⟩
 replace h2l : t2.length = to.length:=h2l
 replace h2 : ∀ j : Nat,j < to.length → Mr t2 j = if j < k then NH a b (Mr to j) else Mr to j:=h2
 unfold SE
 refine .dec (fun hlt2=>?_) fun hge2=>.lft ?_
 ·have hlt2 : k < to.length:=by simp only at hlt2; omega
  have hgk:=SJ (to:=t2) (s:=(k : Int)) (by omega) (by omega)
  rw [h2 k hlt2,if_neg (Nat.lt_irrefl _)] at hgk
  refine .chk (by omega) ?_
  rw [hgk,Option.bind_some]
  have fin : ∀ q : Bool,(q = true ↔ Mr to k = a ∨ Mr to k = b) → Hs (Pv (k : Int) t2 a b q) (Rnd (fun s : List Int × Int=>∃ k : Nat,s.2 = (k : Int) ∧ k ≤ to.length ∧ s.1.length = to.length ∧ ∀ j : Nat,j < to.length → Mr s.1 j = if j < k then NH a b (Mr to j) else Mr to j) (fun s=>to.length - s.2.toNat) (t2,(k : Int)) (Rnd (fun s : List Int × Int=>∃ i : Nat,s.2 = (i : Int) ∧ i ≤ mv.length ∧ Wa f g s.1) (fun s=>mv.length - s.2.toNat) (to,(i : Int)) fun to=>Wa f g to)):=by
   intro q hq
   unfold Pv
   rw [Mx (by omega)]
   refine .cond (fun h=>.chk (by omega) ?_) fun h=>.cnt ⟨⟨k + 1,rfl,hlt2,h2l,fun j hj=>?_⟩,by simp only; omega⟩
   ·rw [hgk,Option.bind_some]
    refine .cnt ⟨⟨k + 1,rfl,hlt2,by simp [h2l],fun j hj=>?_⟩,by simp only; omega⟩
    show Mr (t2.set ((k : Nat) : Int).toNat (On a b)) j = _
    by_cases e : j = k
    ·subst e
     rw [if_pos (Nat.lt_succ_self _)]
     simp only [Mr,Int.toNat_natCast]
     rw [List.getElem?_set_self (by omega)]
     have:=hq.1 h
     simp only [Mr,Int.toNat_natCast] at this
     simp only [NH,if_pos this,Option.getD_some]
    ·have:=h2 j hj
     simp only [Mr,Int.toNat_natCast] at this ⊢
     rw [List.getElem?_set_ne (by omega),this]
     by_cases h' : j < k
     ·rw [if_pos h',if_pos (by omega)]
     ·rw [if_neg h',if_neg (by omega)]
   ·show Mr t2 j = _
    rw [h2 j hj]
    by_cases e : j = k
    ·subst e
     have : ¬ (Mr to j = a ∨ Mr to j = b):=fun h'=>by rw [hq.2 h'] at h; cases h
     rw [if_neg (Nat.lt_irrefl _),if_pos (Nat.lt_succ_self _),NH,if_neg this]
    ·by_cases h' : j < k
     ·rw [if_pos h',if_pos (by omega)]
     ·rw [if_neg h',if_neg (by omega)]
  refine .beq (fun h=>fin true ⟨fun _=>.inl h,fun _=>rfl⟩) fun h=>.chk (by omega) ?_
  rw [Option.bind_some]
  exact fin _ ⟨fun h'=>.inr (by simpa using h'),fun h'=>by simpa using h'.resolve_left h⟩
 ·have hkk : k = to.length:=by simp only at hge2; omega
  subst hkk
  unfold NZ
  rw [Mx (by omega)]
  refine .cnt ⟨⟨i + 1,rfl,hlt,?_⟩,by simp only; omega⟩
  refine hc.join hg hsym (a:=a) (b:=b) ⟨qa1,by omega⟩ ⟨qb1,by omega⟩ qa4 qb4 (by rw [qa3,qb3,hsz]) hap h2l fun j hj=>?_
  rw [h2 j hj,if_pos hj]
def XW (f : LY) (l : List (List Int)) (k : Nat) : Prop:=((Ma f k).Op = 16 ∨ (Ma f k).Op = 17) ∧ (Ma f k).A ∉ Mn l k
theorem AiB {f : LY} (hf : MN f) {l : Mf} (hl : Od f l.Out) {k : Nat} (hk : k < f.Code.length) : Hs (UE f l (k : Int)) fun b=>b = true ↔ XW f l.Out k:=by
 have hx:=hf.at (j:=(k : Int)) (by omega) (by omega)
 have hrow:=hl.at (j:=(k : Int)) (by omega) (by omega)
 rw [Int.toNat_natCast] at hx hrow
 have hlo:=hrow.2.1.length_le
 unfold UE
 simp only [Of,hx.1,Option.bind_some,AfJ,Aea]
 by_cases hd : (Ma f k).Op = 16 ∨ (Ma f k).Op = 17
 ·rw [if_pos hd]
  simp only [cond_true,hrow.1,Option.bind_some]
  rw [AdM _ _ (by omega),Option.bind_some]
  exact .pure ⟨fun h=>⟨hd,by simpa using h⟩,fun h=>by simpa using h.2⟩
 ·rw [if_neg hd]
  exact .pure ⟨fun h=>(by cases h),fun h=>(hd h.1).elim⟩
theorem AiC {f : LY} (hf : MN f) {l : Mf} (hl : Od f l.Out) {to : List Int} (hml : AeO f) (htl : to.length = f.Slots.length) : Hs (UC f l to) fun Az=>Az.length = f.Code.length ∧ ∀ k : Nat,k < f.Code.length → (NA Az k = true ↔ ¬ XW f l.Out k ∧ ¬ ((Ma f k).Op = 17 ∧ Mr to (Ma f k).A = Mr to (Ma f k).B)):=by
 have hlen:=hf.len'
 unfold UC
 refine Hs.loop (fun s=>∃ k : Nat,s.2 = (k : Int) ∧ k ≤ f.Code.length ∧ s.1.length = k ∧ ∀ j : Nat,j < k → (NA s.1 j = true ↔ ¬ XW f l.Out j ∧ ¬ ((Ma f j).Op = 17 ∧ Mr to (Ma f j).A = Mr to (Ma f j).B))) (fun s=>f.Code.length - s.2.toNat) ⟨0,rfl,Nat.zero_le _,rfl,fun j hj=>absurd hj (Nat.not_lt_zero _)⟩ ?_
 rintro ⟨Az,_⟩ ⟨k,rfl,hk,hkl,hkp⟩
 replace hkl : Az.length = k:=hkl
 replace hkp : ∀ j : Nat,j < k → (NA Az j = true ↔ ¬ XW f l.Out j ∧ ¬ ((Ma f j).Op = 17 ∧ Mr to (Ma f j).A = Mr to (Ma f j).B)):=hkp
 unfold Vs
 refine .dec (fun hlt=>?_) fun hge=>.lft (.pure ?_)
 ·have hlt : k < f.Code.length:=by simp only at hlt; omega
  have hx:=hf.at (j:=(k : Int)) (by omega) (by omega)
  rw [Int.toNat_natCast] at hx
  simp only [Of,hx.1,Option.bind_some]
  rw [Mx (by omega)]
  have fin : ∀ q : Bool,(q = true ↔ ¬ XW f l.Out k ∧ ¬ ((Ma f k).Op = 17 ∧ Mr to (Ma f k).A = Mr to (Ma f k).B)) → Hs (chk (Az.length + ([q] : List Bool).length ≤ 16777216) (cnt (Az ++ ([q] : List Bool),((k + 1 : Nat) : Int)) : Option ((List Bool × Int) ⊕ List Bool))) (Rnd (fun s : List Bool × Int=>∃ k : Nat,s.2 = (k : Int) ∧ k ≤ f.Code.length ∧ s.1.length = k ∧ ∀ j : Nat,j < k → (NA s.1 j = true ↔ ¬ XW f l.Out j ∧ ¬ ((Ma f j).Op = 17 ∧ Mr to (Ma f j).A = Mr to (Ma f j).B))) (fun s=>f.Code.length - s.2.toNat) (Az,(k : Int)) fun Az=>Az.length = f.Code.length ∧ ∀ k : Nat,k < f.Code.length → (NA Az k = true ↔ ¬ XW f l.Out k ∧ ¬ ((Ma f k).Op = 17 ∧ Mr to (Ma f k).A = Mr to (Ma f k).B))):=by
   intro q hq
   refine .chk (by simp; omega) (.cnt ⟨⟨k + 1,rfl,hlt,by simp [hkl],fun j hj=>?_⟩,by simp only; omega⟩)
   show NA (Az ++ [q]) j = true ↔ _
   by_cases e : j = k
   ·subst e
    have : NA (Az ++ [q]) j = q:=by
     unfold NA
     rw [← hkl,List.getElem?_concat_length]; rfl
    rw [this]; exact hq
   ·have : NA (Az ++ [q]) j = NA Az j:=by
     unfold NA
     rw [List.getElem?_append_left (by omega)]
    rw [this]; exact hkp j (by omega)
  refine (AiB hf hl hlt).bind fun r hr=>.cond (fun h=>?_) fun h=>fin false ⟨fun h=>(by cases h),fun h'=>(h'.1 (hr.1 (by simpa using h))).elim⟩
  have hnd : ¬ XW f l.Out k:=fun h'=>by rw [hr.2 h'] at h; cases h
  refine .beq (fun h17=>?_) fun h17=>fin true ⟨fun _=>⟨hnd,fun h=>h17 h.1⟩,fun _=>rfl⟩
  obtain ⟨a0,a1,b0,b1,_⟩:=hml _ hx.2 h17
  rw [SU _ a0,SJ a0 (by omega),Option.bind_some,SU _ b0,SJ b0 (by omega),Option.bind_some]
  exact fin _ ⟨fun h=>⟨hnd,fun h'=>by simp [h'.2] at h⟩,fun h=>by simpa using fun h'=>h.2 ⟨h17,h'⟩⟩
 ·have hkk : k = f.Code.length:=by simp only at hge; omega
  subst hkk
  exact ⟨hkl,hkp⟩
theorem TV (codes : List Int) (hc : qL (Pl .u8) codes) : Hs (MQ codes) fun b=>b = true:=by
 unfold MQ
 rw [Aiy]
 simp only [Option.bind_some,Bool.not_true,cond_false]
 obtain ⟨c,e1,hcok⟩:=AlJ codes 300 hc (by omega) (by omega)
 rw [e1,Option.bind_some]
 refine (AfW hcok (by omega) (by omega) (by omega) (by omega)).bind fun p hp=>?_
 obtain ⟨ps,hps,hz,hp1,hp2,hfl,hall⟩:=hp.2
 refine (MI hp.1 (by omega) (by omega)).bind fun k hk=>?_
 refine (Hs.ix hk.2.1 hk.2.2 fun f hf=>hall _ f hf).bind fun f hfo=>?_
 have hf:=hfo.Amj (by omega)
 have hd:=hfo.defs
 have hml:=hfo.AlI
 have hlen:=hf.len'
 have hsl:=hf.slots
 clear hall hfl hp1 hp2 hz hps
 refine (Aif hk.1 hf).bind fun q ⟨_,hacc⟩=>?_
 obtain ⟨l,c2⟩:=q
 replace hacc : Acc f l.Out:=hacc
 refine Hs.bind (P:=AaS RX f l.Out) ?_ fun g hg=>?_
 ·unfold Vi
  exact (Agt hf hd (hacc.1.len hf) false).bind fun r hr=>.pure hr
 rcases hg with ⟨g0,_,hg⟩ | ⟨_,hn,_⟩
 rotate_left
 ·exact (hn hacc).elim
 obtain ⟨g,ge⟩:=g
 replace hg : NB f.Slots.length g fun a v=>Ed RX f l.Out a v ∨ Ed RX f l.Out v a:=hg
 replace g0 : ge = 0:=g0
 subst g0
 refine (AfT hlen hsl hml hg (fun x y r s hr hs hy=>((hg.2 y s hs).2 _).2 (((hg.2 x r hr).2 _).1 hy).symm) fun x r hr hx=>?_).bind fun to hto=>.beq (fun _=>?_) fun h=>(h rfl).elim
 ·rcases ((hg.2 x r hr).2 _).1 hx with ⟨_,_,_,_,_,_,h',_⟩ | ⟨_,_,_,_,_,_,h',_⟩ <;> exact h' rfl
 refine (AiC hf hacc.1 hml hto.ok.1).bind fun Az ⟨hkl,hkp⟩=>?_
 refine (AcR hf hd (hacc.1.len hf) ⟨to,Az⟩).bind fun e he=>.pure ?_
 show (e == 0) = true
 rcases he with ⟨h,_⟩ | ⟨_,h | ⟨k,y,hk,h⟩,_⟩ | ⟨_,_,_,h⟩
 ·exact (h hacc).elim
 ·refine (h ⟨hto.ok,hkl,fun k hk h=>?_⟩).elim
  by_cases h1 : XW f l.Out k
  ·exact h1.1
  ·by_cases h2 : (Ma f k).Op = 17 ∧ Mr to (Ma f k).A = Mr to (Ma f k).B
   ·exact .inr h2.1
   ·rw [(hkp k hk).2 ⟨h1,h2⟩] at h; cases h
 ·obtain ⟨h1,h2,h3,h4,h5⟩:=h
  have h2 : ¬ ((Ma f k).Op = 17 ∧ Mr to (Ma f k).A = Mr to (Ma f k).B):=h2
  have h4 : NA Az k = true ↔ y ≠ (Ma f k).A:=h4
  have h5 : Mr to y = Mr to (Ma f k).A:=h5
  have hx:=hf.at (j:=(k : Int)) (by omega) (by omega)
  have hrow:=hacc.1.at (j:=(k : Int)) (by omega) (by omega)
  rw [Int.toNat_natCast] at hx hrow
  have hA:=hd _ hx.2 h1
  have hy0:=(hrow.2.1.2 y h3).1
  have hyn:=hrow.2.2 y h3
  have htl:=hto.ok.1
  by_cases hdk : XW f l.Out k
  ·have hkf : ¬ NA Az k = true:=fun h=>((hkp k hk).1 h).1 hdk
   have hyA : y = (Ma f k).A:=Classical.byContradiction fun h=>hkf (h4.2 h)
   exact (hdk.2 (hyA ▸ h3)).elim
  ·have hyA:=h4.1 ((hkp k hk).2 ⟨hdk,h2⟩)
   have hed : Ed RX f l.Out (Ma f k).A y:=by
    refine ⟨k,hk,rfl,h1,fun h=>h2 ⟨h.1,by rw [h.2]⟩,h3,hyA,?_⟩
    by_cases e17 : (Ma f k).Op = 17
    ·have : (Ma f k).B ≠ y:=fun h=>h2 ⟨e17,by rw [h,h5]⟩
     simp [RX,this]
    ·simp [RX,e17]
   obtain ⟨i,hi⟩ : ∃ i : Nat,(Ma f k).A = (i : Int):=⟨(Ma f k).A.toNat,by omega⟩
   obtain ⟨j,rfl⟩ : ∃ j : Nat,y = (j : Int):=⟨y.toNat,by omega⟩
   have hgl:=hg.1
   have hgr : g[i]? = some (g[i]'(by omega)):=List.getElem?_eq_getElem _
   refine (hto.apart i j _ (by omega) (by omega) (by rw [← hi,h5]) hgr (((hg.2 i _ hgr).2 _).2 (.inl ?_))).elim
   rw [← hi]; exact hed
 ·rw [h]; rfl
theorem Tu (codes : List Int) (hc : qL (Pl .u8) codes) : MQ codes = some true:=by
 obtain ⟨r,h,rfl⟩:=TV codes hc
 exact h
end Go.Proofs.YtfpgidpffhmadaaGreatDoor
