/-
  Plain laws about the typed programs.
-/
import Derived.Test.YtcelninhkmhjkaaDoorDc
import Derived.Test.YtcelninhkmhjkaaDoorDxP
namespace Go.Dw
section
variable {ι R α : Type} {body : ι → Option (ι ⊕ R)} {v : R}
theorem Nc {α β : Type} (s : List α) (mk : β → Int → ι) (I : β → Nat → Prop) (F : β → List α → Option R)
  (hnil : ∀ acc,I acc s.length → ∃ v,body (mk acc s.length) = some (.inr v) ∧ F acc [] = some v)
  (hcons : ∀ acc (i : Nat) x r,I acc i → s.drop i = x :: r → i < s.length → s[i]? = some x →
   (∃ acc',I acc' (i + 1) ∧ body (mk acc i) = some (.inl (mk acc' ((i + 1 : Nat) : Int))) ∧ F acc (x :: r) = F acc' r) ∨ (∃ v,body (mk acc i) = some (.inr v) ∧ F acc (x :: r) = some v))
  (acc : β) (h0 : I acc 0) : Kv body (mk acc 0) = F acc s:=by
 have : ∀ k i acc,i + k = s.length → I acc i → Kv body (mk acc (i : Nat)) = F acc (s.drop i):=by
  intro k
  induction k with
  | zero =>
   intro i acc hi hI
   simp only [Nat.add_zero] at hi
   subst hi
   obtain ⟨v,h1,h2⟩:=hnil acc hI
   rw [YI,h1,List.drop_length,h2]
  | succ k ih =>
   intro i acc hi hI
   have hl : i < s.length:=by omega
   have hd:=List.drop_eq_getElem_cons hl
   rw [hd]
   rcases hcons acc i _ _ hI hd hl (List.getElem?_eq_getElem hl) with ⟨acc',h1,h2,h3⟩ | ⟨v,h1,h2⟩
   ·rw [YI,h2,h3]
    exact ih (i + 1) acc' (by omega) h1
   ·rw [YI,h1,h2]
 have:=this s.length 0 acc (by omega) h0
 simpa using this
@[simp] theorem RY (l : List α) (i : Nat) : ixO l (i : Int) = l[i]?:=by
 unfold ixO
 rw [if_neg (by omega)]
 simp
theorem TI (l : List α) {i : Int} (h : 0 ≤ i) : ixO l i = l[i.toNat]?:=by
 unfold ixO
 rw [if_neg (by omega)]
@[simp] theorem Aiu (l : List α) (i : Nat) : ixO l ((i : Int) + 1) = l[i + 1]?:=by
 have:=RY l (i + 1)
 simpa using this
@[simp] theorem AeJ (l : List α) : ixO l 0 = l[0]?:=TI l (Int.le_refl 0)
theorem wrap64 {n : Int} (h0 : -9223372036854775808 ≤ n) (h1 : n ≤ 9223372036854775807) : IntKind.i64.wrap n = n:=AfZ h0 h1
@[simp] theorem AiE : IntKind.i64.wrap 0 = 0:=by decide
@[simp] theorem AiF : IntKind.i64.wrap 1 = 1:=by decide
@[simp] theorem AiG : IntKind.i64.wrap 2 = 2:=by decide
@[simp] theorem AiH : IntKind.i64.wrap 3 = 3:=by decide
theorem Kt {i : Nat} (h : i < 9223372036854775807) : IntKind.i64.wrap ((i : Int) + 1) = ((i + 1 : Nat) : Int):=by
 rw [wrap64 (by omega) (by omega)]; rfl
@[simp] theorem Aiw (r : R) : (lft (some r) : Option (ι ⊕ R)) = some (.inr r):=rfl
@[simp] theorem Aiv : (lft none : Option (ι ⊕ R)) = none:=rfl
@[simp] theorem AiC (s : ι) : (cnt s : Option (ι ⊕ R)) = some (.inl s):=rfl
theorem AfO (a b : Int) : Uj a b = min a b:=by unfold Uj; split <;> omega
end
end Go.Dw
namespace Go.Dw
open Go
def Hs {α : Type} (m : Option α) (P : α → Prop) : Prop:=∃ r,m = some r ∧ P r
section
variable {α β ι R : Type}
theorem Hs.pure {a : α} {P : α → Prop} (h : P a) : Hs (some a) P:=⟨a,rfl,h⟩
theorem Hs.bind {m : Option α} {f : α → Option β} {P : α → Prop} {Q : β → Prop} (h : Hs m P) (hf : ∀ r,P r → Hs (f r) Q) : Hs (m.bind f) Q:=by
 obtain ⟨r,rfl,hr⟩:=h
 exact hf r hr
theorem Hs.mono {m : Option α} {P Q : α → Prop} (h : Hs m P) (hf : ∀ r,P r → Q r) : Hs m Q:=by
 obtain ⟨r,h1,hr⟩:=h
 exact ⟨r,h1,hf r hr⟩
theorem Hs.chk {p : Prop} [Decidable p] {m : Option α} {P : α → Prop} (hp : p) (h : Hs m P) : Hs (chk p m) P:=by
 rw [Lb hp]; exact h
theorem Hs.cond {b : Bool} {x y : Option α} {P : α → Prop} (h1 : b = true → Hs x P) (h2 : b = false → Hs y P) : Hs (bif b then x else y) P:=by
 cases b
 ·exact h2 rfl
 ·exact h1 rfl
theorem Hs.dec {p : Prop} [Decidable p] {x y : Option α} {P : α → Prop} (h1 : p → Hs x P) (h2 : ¬ p → Hs y P) : Hs (bif decide p then x else y) P :=
 Hs.cond (fun h=>h1 (of_decide_eq_true h)) (fun h=>h2 (of_decide_eq_false h))
theorem Hs.beq {a b : Int} {x y : Option α} {P : α → Prop} (h1 : a = b → Hs x P) (h2 : a ≠ b → Hs y P) : Hs (bif a == b then x else y) P :=
 Hs.cond (fun h=>h1 (by simpa using h)) (fun h=>h2 (by simpa using h))
theorem Hs.bne {a b : Int} {x y : Option α} {P : α → Prop} (h1 : a ≠ b → Hs x P) (h2 : a = b → Hs y P) : Hs (bif a != b then x else y) P :=
 Hs.cond (fun h=>h1 (by simpa using h)) (fun h=>h2 (by simpa using h))
theorem Hs.cnt {s : ι} {P : ι ⊕ R → Prop} (h : P (.inl s)) : Hs (Go.Dw.cnt s) P:=⟨_,rfl,h⟩
theorem Hs.lft {m : Option R} {P : ι ⊕ R → Prop} (h : Hs m fun r=>P (.inr r)) : Hs (Go.Dw.lft m) P:=by
 obtain ⟨r,rfl,h⟩:=h
 exact ⟨_,rfl,h⟩
def Rnd (I : ι → Prop) (μ : ι → Nat) (s : ι) (Q : R → Prop) : ι ⊕ R → Prop
 | .inl s'=>I s' ∧ μ s' < μ s
 | .inr r=>Q r
theorem Hs.loop {body : ι → Option (ι ⊕ R)} {s : ι} {Q : R → Prop} (I : ι → Prop) (μ : ι → Nat) (h0 : I s) (hb : ∀ s,I s → Hs (body s) (Rnd I μ s Q)) : Hs (Kv body s) Q:=by
 refine AcY I Q μ h0 fun s hs=>?_
 obtain ⟨z,hz,hq⟩:=hb s hs
 cases z with
 | inl s'=>exact .inl ⟨s',hz,hq⟩
 | inr r=>exact .inr ⟨r,hz,hq⟩
theorem Hs.get {l : List α} {i : Int} {P : α → Prop} (h0 : 0 ≤ i) (h1 : i < l.length) (h : ∀ x,l[i.toNat]? = some x → P x) : Hs (l[i.toNat]?) P:=by
 have : l[i.toNat]? = some (l[i.toNat]'(by omega)):=List.getElem?_eq_getElem _
 exact ⟨_,this,h _ this⟩
theorem Hs.ix {l : List α} {i : Int} {P : α → Prop} (h0 : 0 ≤ i) (h1 : i < l.length) (h : ∀ x,l[i.toNat]? = some x → P x) : Hs (ixO l i) P:=by
 rw [TI _ h0]; exact Hs.get h0 h1 h
end
theorem Aab (n : Int) : 0 ≤ IntKind.u64.wrap n ∧ IntKind.u64.wrap n < 18446744073709551616:=by
 simp [IntKind.wrap,IntKind.signed,IntKind.bits]; omega
end Go.Dw
namespace Go.Proofs.YtcelninhkmhjkaaDoor
open Go Go.Dw Go.Proofs
attribute [local simp] Lb Bool.cond_eq_ite
theorem AaW (n : Int) : Om n = some (decide (0 ≤ n ∧ n < 512)):=by
 unfold Om
 by_cases h : 0 ≤ n <;> simp [h]
theorem ZC {n : Int} (h : 0 ≤ n ∧ n < 512) : Om n = some true:=by rw [AaW,decide_eq_true h]
theorem AcQ {n : Int} (h : ¬ (0 ≤ n ∧ n < 512)) : Om n = some false:=by rw [AaW,decide_eq_false h]
theorem Adj (s : List Int) (n : Int) (hs : s.length ≤ 9223372036854775807) : TM s n = some (decide (n ∈ s)):=by
 unfold TM
 refine Nc s (fun (_ : Unit) i=>i) (fun _ _=>True) (fun _ l=>some (decide (n ∈ l))) (fun _ _=>⟨_,by simp [PX],rfl⟩) (fun _ i x r _ hd hi hx=>?_) () trivial
 have w:=Kt (show i < 9223372036854775807 by omega)
 by_cases h : x = n
 ·exact .inr ⟨true,by simp [PX,hi,(List.getElem?_eq_some_iff.1 hx).2,h],by simp [h]⟩
 ·refine .inl ⟨(),trivial,?_,?_⟩
  ·obtain ⟨_,rfl⟩:=List.getElem?_eq_some_iff.1 hx
   simp [PX,hi,h,w]
  ·have : n ≠ x:=fun e=>h e.symm
   simp [this]
def OO (n : Int) : List Int → List Int
 | []=>[n]
 | x :: r=>if x < n then x :: OO n r else if x = n then x :: r else n :: x :: r
theorem Aas (n : Int) : ∀ s,(OO n s).length ≤ s.length + 1
 | []=>by simp [OO]
 | x :: r=>by
  have:=Aas n r
  simp only [OO]
  split
  ·simp; omega
  ·split <;> simp
def QN (n : Int) (s : List Int) : List Int:=if 0 ≤ n ∧ n < 512 then OO n s else s
theorem add_eq (s : List Int) (n : Int) (hs : s.length ≤ 1000000) : Pq s n = some (QN n s):=by
 unfold Pq QN
 rw [AaW]
 simp only [Option.bind_some]
 have key : ∀ d : Bool,Kv (fun s_1 : List Int × Bool × Int=>LY s n s_1.1 s_1.2.1 s_1.2.2) ([],d,0) = some (if d then s else OO n s):=by
  intro d
  have:=Nc (body:=fun s_1 : List Int × Bool × Int=>LY s n s_1.1 s_1.2.1 s_1.2.2) s (fun (p : List Int × Bool) i=>(p.1,p.2,i)) (fun p i=>p.1.length ≤ i + (if p.2 then 1 else 0)) (fun p l=>some (p.1 ++ (if p.2 then l else OO n l)))
   (fun p hp=>by
    obtain ⟨out,done⟩:=p
    cases done <;> simp only [if_true,Bool.false_eq_true,if_false] at hp
    ·exact ⟨out ++ [n],by simp [LY,show out.length ≤ 16777215 by omega],by simp [OO]⟩
    ·exact ⟨out,by simp [LY],by simp⟩)
   (fun p i x r hp hd hi hx=>by
    obtain ⟨out,done⟩:=p
    have w:=Kt (show i < 9223372036854775807 by omega)
    obtain ⟨_,rfl⟩:=List.getElem?_eq_some_iff.1 hx
    left
    cases done <;> simp only [if_true,Bool.false_eq_true,if_false] at hp
    ·by_cases h1 : n ≤ s[i]
     ·by_cases h2 : n < s[i]
      ·refine ⟨(out ++ [n] ++ [s[i]],true),by simp; omega,?_,?_⟩
       ·simp [LY,NL,MV,hi,h1,h2,w,show out.length ≤ 16777215 by omega,show out.length ≤ 16777214 by omega]
       ·simp [OO,show ¬ s[i] < n by omega,show ¬ s[i] = n by omega]
      ·refine ⟨(out ++ [s[i]],true),by simp; omega,?_,?_⟩
       ·simp [LY,NL,MV,hi,h1,h2,w,show out.length ≤ 16777215 by omega]
       ·simp [OO,show ¬ s[i] < n by omega,show s[i] = n by omega]
     ·refine ⟨(out ++ [s[i]],false),by simp; omega,?_,?_⟩
      ·simp [LY,NL,MV,hi,h1,w,show out.length ≤ 16777215 by omega]
      ·simp [OO,show s[i] < n by omega]
    ·refine ⟨(out ++ [s[i]],true),by simp; omega,?_,?_⟩
     ·simp [LY,NL,MV,hi,w,show out.length ≤ 16777215 by omega]
     ·simp)
   ([],d) (by simp)
  simpa using this
 rw [key]
 by_cases h : 0 ≤ n ∧ n < 512 <;> simp [h]
def Ox : Option Int → List Int → Bool
 | _,[]=>true
 | p,x :: r=>decide (0 ≤ x ∧ x < 512) && (match p with | none=>true | some y=>decide (y < x)) && Ox (some x) r
theorem AdD (s : List Int) (hs : s.length ≤ 9223372036854775807) : QI s = some (Ox none s):=by
 unfold QI
 refine Nc s (fun (_ : Option Int) i=>i) (fun p i=>match i with | 0=>p = none | k + 1=>s[k]? = p ∧ p ≠ none) (fun p l=>some (Ox p l)) (fun _ _=>⟨true,by simp [MF],by simp [Ox]⟩) (fun p i x r hp hd hi hx=>?_) none rfl
 have w:=Kt (show i < 9223372036854775807 by omega)
 obtain ⟨_,rfl⟩:=List.getElem?_eq_some_iff.1 hx
 by_cases hg : 0 ≤ s[i] ∧ s[i] < 512
 ·cases i with
  | zero =>
   simp only at hp
   subst hp
   exact .inl ⟨some s[0],⟨hx,by simp⟩,by simp [MF,hi,ZC hg],by simp [Ox,hg]⟩
  | succ k =>
   obtain ⟨hp,hpn⟩:=hp
   have hk : k < s.length:=by omega
   rw [List.getElem?_eq_getElem hk] at hp
   subst hp
   have w : IntKind.i64.wrap ((k : Int) + 1 + 1) = (k : Int) + 1 + 1:=wrap64 (by omega) (by omega)
   have wp : IntKind.i64.wrap (k : Int) = k:=wrap64 (by omega) (by omega)
   have e0 : (k : Int) + 1 - 1 = k:=by omega
   by_cases hlt : s[k] < s[k + 1]
   ·exact .inl ⟨some s[k + 1],⟨hx,by simp⟩,by simp [MF,hi,ZC hg,w,wp,e0,hk,show ¬ s[k + 1] ≤ s[k] by omega,show (0 : Int) < k + 1 by omega,show (k : Int) + 1 < s.length by omega],by simp [Ox,hg,hlt]⟩
   ·exact .inr ⟨false,by simp [MF,hi,ZC hg,w,wp,e0,hk,show s[k + 1] ≤ s[k] by omega,show (0 : Int) < k + 1 by omega,show (k : Int) + 1 < s.length by omega],by simp [Ox,hlt]⟩
 ·exact .inr ⟨false,by simp [MF,hi,AcQ hg],by simp [Ox,hg]⟩
def KA (s : List Int) : Prop:=s.Pairwise (· < ·) ∧ ∀ x ∈ s,0 ≤ x ∧ x < 512
theorem AbD : ∀ (p : Option Int) (s : List Int),Ox p s = true ↔ KA s ∧ ∀ y,p = some y → ∀ x ∈ s,y < x
 | p,[]=>by simp [Ox,KA]
 | p,x :: r=>by
  simp only [Ox,Bool.and_eq_true,AbD (some x) r,decide_eq_true_eq,KA,List.pairwise_cons,List.mem_cons,forall_eq_or_imp,Option.some.injEq]
  constructor
  ·rintro ⟨⟨h1,h2⟩,⟨h3,h4⟩,h5⟩
   have h5':=h5 x rfl
   refine ⟨⟨⟨h5',h3⟩,h1,h4⟩,fun y hy=>?_⟩
   subst hy
   simp only [decide_eq_true_eq] at h2
   exact ⟨h2,fun z hz=>Int.lt_trans h2 (h5' z hz)⟩
  ·rintro ⟨⟨⟨h1,h2⟩,h3,h4⟩,h5⟩
   refine ⟨⟨h3,?_⟩,⟨h2,h4⟩,fun y hy z hz=>by subst hy; exact h1 z hz⟩
   cases p with
   | none=>rfl
   | some y=>simpa using (h5 y rfl).1
theorem ZY (s : List Int) : Ox none s = true ↔ KA s:=by
 rw [AbD]; simp
theorem KA.length_le {s : List Int} (h : KA s) : s.length ≤ 512:=by
 have : ∀ (s : List Int) (a : Int),s.Pairwise (· < ·) → (∀ x ∈ s,a ≤ x ∧ x < 512) → a ≤ 512 → (s.length : Int) ≤ 512 - a:=by
  intro s
  induction s with
  | nil=>intro a _ _ ha; simp; omega
  | cons x r ih =>
   intro a hp hb ha
   rw [List.pairwise_cons] at hp
   have hx:=hb x (by simp)
   have:=ih (x + 1) hp.2 (fun y hy=>⟨by have:=hp.1 y hy; omega,(hb y (by simp [hy])).2⟩) (by omega)
   simp only [List.length_cons]
   omega
 have:=this s 0 h.1 h.2 (by omega)
 omega
theorem UR (n m : Int) : ∀ s,m ∈ OO n s ↔ m = n ∨ m ∈ s
 | []=>by simp [OO]
 | x :: r=>by
  simp only [OO]
  split
  ·simp only [List.mem_cons,UR n m r]
   constructor
   ·rintro (h | h | h) <;> simp [h]
   ·rintro (h | h | h) <;> simp [h]
  ·split
   ·rename_i h; subst h; simp
   ·simp
theorem KA.OO {n : Int} {s : List Int} (h : KA s) (hn : 0 ≤ n ∧ n < 512) : KA (Proofs.YtcelninhkmhjkaaDoor.OO n s):=by
 refine ⟨?_,fun x hx=>?_⟩
 ·replace h:=h.1
  clear hn
  induction s with
  | nil=>simp [Proofs.YtcelninhkmhjkaaDoor.OO]
  | cons x r ih =>
   rw [List.pairwise_cons] at h
   simp only [Proofs.YtcelninhkmhjkaaDoor.OO]
   split
   ·rw [List.pairwise_cons]
    refine ⟨fun y hy=>?_,ih h.2⟩
    rw [UR] at hy
    rcases hy with rfl | hy
    ·assumption
    ·exact h.1 y hy
   ·split
    ·rw [List.pairwise_cons]; exact h
    ·rw [List.pairwise_cons,List.pairwise_cons]
     refine ⟨fun y hy=>?_,h⟩
     rcases List.mem_cons.1 hy with rfl | hy
     ·omega
     ·have:=h.1 y hy; omega
 ·rw [UR] at hx
  rcases hx with rfl | hx
  ·exact hn
  ·exact h.2 x hx
theorem KA.nil : KA []:=⟨List.Pairwise.nil,fun x hx=>by cases hx⟩
end Go.Proofs.YtcelninhkmhjkaaDoor
namespace Go.Proofs.YtcelninhkmhjkaaDoor
open Go Go.Dw Go.Proofs
attribute [local simp] Lb Bool.cond_eq_ite
theorem XX (n : Int) : Lc n = some (decide (0 ≤ n ∧ n < 512)):=by
 unfold Lc
 by_cases h : 0 ≤ n <;> simp [h]
theorem Yi {n : Int} (h : 0 ≤ n ∧ n < 512) : Lc n = some true:=by rw [XX,decide_eq_true h]
theorem Acg {n : Int} (h : ¬ (0 ≤ n ∧ n < 512)) : Lc n = some false:=by rw [XX,decide_eq_false h]
theorem AcZ (s : List Int) (hs : s.length ≤ 9223372036854775807) : PK s = some (Ox none s):=by
 unfold PK
 refine Nc s (fun (_ : Option Int) i=>i) (fun p i=>match i with | 0=>p = none | k + 1=>s[k]? = p ∧ p ≠ none) (fun p l=>some (Ox p l)) (fun _ _=>⟨true,by simp [Mh],by simp [Ox]⟩) (fun p i x r hp hd hi hx=>?_) none rfl
 have w:=Kt (show i < 9223372036854775807 by omega)
 obtain ⟨_,rfl⟩:=List.getElem?_eq_some_iff.1 hx
 by_cases hg : 0 ≤ s[i] ∧ s[i] < 512
 ·cases i with
  | zero =>
   simp only at hp
   subst hp
   exact .inl ⟨some s[0],⟨hx,by simp⟩,by simp [Mh,hi,Yi hg],by simp [Ox,hg]⟩
  | succ k =>
   obtain ⟨hp,hpn⟩:=hp
   have hk : k < s.length:=by omega
   rw [List.getElem?_eq_getElem hk] at hp
   subst hp
   have w : IntKind.i64.wrap ((k : Int) + 1 + 1) = (k : Int) + 1 + 1:=wrap64 (by omega) (by omega)
   have wp : IntKind.i64.wrap (k : Int) = k:=wrap64 (by omega) (by omega)
   have e0 : (k : Int) + 1 - 1 = k:=by omega
   by_cases hlt : s[k] < s[k + 1]
   ·exact .inl ⟨some s[k + 1],⟨hx,by simp⟩,by simp [Mh,hi,Yi hg,w,wp,e0,hk,show ¬ s[k + 1] ≤ s[k] by omega,show (0 : Int) < k + 1 by omega,show (k : Int) + 1 < s.length by omega],by simp [Ox,hg,hlt]⟩
   ·exact .inr ⟨false,by simp [Mh,hi,Yi hg,w,wp,e0,hk,show s[k + 1] ≤ s[k] by omega,show (0 : Int) < k + 1 by omega,show (k : Int) + 1 < s.length by omega],by simp [Ox,hlt]⟩
 ·exact .inr ⟨false,by simp [Mh,hi,Acg hg],by simp [Ox,hg]⟩
end Go.Proofs.YtcelninhkmhjkaaDoor
namespace Go.Proofs.YtcelninhkmhjkaaDoor
open Go Go.Dw Go.Proofs
attribute [local simp] Lb Bool.cond_eq_ite
theorem AfS (a b : List Int) (h : a.length ≤ 9223372036854775807) : RZ a b = some (decide (a = b)):=by
 unfold RZ
 by_cases hl : a.length = b.length
 ·have:=Nc (body:=fun i : Int=>Oa a b i) a (fun (_ : List Int) i=>i) (fun acc i=>b.drop i = acc) (fun acc l=>some (decide (l = acc)))
   (fun acc hacc=>⟨true,by simp [Oa],by rw [hl] at hacc; simp at hacc; simp [← hacc]⟩) (fun acc i x r hacc hd hi hx=>by
    have w:=Kt (show i < 9223372036854775807 by omega)
    obtain ⟨_,rfl⟩:=List.getElem?_eq_some_iff.1 hx
    have hib : i < b.length:=by omega
    have hdb:=List.drop_eq_getElem_cons hib
    by_cases e : a[i] = b[i]
    ·exact .inl ⟨b.drop (i + 1),rfl,by simp [Oa,hi,hib,e,w],by rw [← hacc,hdb]; simp only [List.cons.injEq,e,true_and]⟩
    ·exact .inr ⟨false,by simp [Oa,hi,hib,e],by rw [← hacc,hdb]; simp only [List.cons.injEq,e,false_and,decide_false]⟩)
   b (by simp)
  simpa [hl] using this
 ·have : ¬ a = b:=fun e=>hl (by rw [e])
  simp [this,show ¬ (a.length : Int) = b.length by omega]
end Go.Proofs.YtcelninhkmhjkaaDoor
namespace Go.Proofs.YtcelninhkmhjkaaDoor
open Go Go.Dw Go.Proofs
attribute [local simp] Lb Bool.cond_eq_ite
theorem AcW (a b : List (List Int)) (h : a.length ≤ 9223372036854775807) (hr : ∀ s ∈ a,s.length ≤ 9223372036854775807) : OU a b = some (decide (a = b)):=by
 unfold OU
 by_cases hl : a.length = b.length
 ·have:=Nc (body:=fun i : Int=>Mv a b i) a (fun (_ : List (List Int)) i=>i) (fun acc i=>b.drop i = acc) (fun acc l=>some (decide (l = acc)))
   (fun acc hacc=>⟨true,by simp [Mv],by rw [hl] at hacc; simp at hacc; simp [← hacc]⟩) (fun acc i x r hacc hd hi hx=>by
    have w:=Kt (show i < 9223372036854775807 by omega)
    obtain ⟨_,rfl⟩:=List.getElem?_eq_some_iff.1 hx
    have hib : i < b.length:=by omega
    have hdb:=List.drop_eq_getElem_cons hib
    have hs:=AfS a[i] b[i] (hr _ (List.getElem_mem _))
    by_cases e : a[i] = b[i]
    ·refine .inl ⟨b.drop (i + 1),rfl,?_,by rw [← hacc,hdb]; simp only [List.cons.injEq,e,true_and]⟩
     rw [decide_eq_true e] at hs
     simp [Mv,hi,hib,hs,w]
    ·refine .inr ⟨false,?_,by rw [← hacc,hdb]; simp only [List.cons.injEq,e,false_and,decide_false]⟩
     rw [decide_eq_false e] at hs
     simp [Mv,hi,hib,hs])
   b (by simp)
  simpa [hl] using this
 ·have : ¬ a = b:=fun e=>hl (by rw [e])
  simp [this,show ¬ (a.length : Int) = b.length by omega]
end Go.Proofs.YtcelninhkmhjkaaDoor
namespace Go.Proofs.YtcelninhkmhjkaaDoor
open Go Go.Dw Go.Proofs
attribute [local simp] Lb Bool.cond_eq_ite
theorem ZU (s : List Int) (n : Int) (hs : s.length ≤ 16777215) : NM s n = some (s.filter (· != n)):=by
 unfold NM
 have:=Nc (body:=fun p : List Int × Int=>MW s n p.1 p.2) s (fun (out : List Int) i=>(out,i)) (fun out i=>out.length ≤ i) (fun out l=>some (out ++ l.filter (· != n)))
  (fun out _=>⟨out,by simp [MW],by simp⟩) (fun out i x r ho hd hi hx=>by
   have w:=Kt (show i < 9223372036854775807 by omega)
   obtain ⟨_,rfl⟩:=List.getElem?_eq_some_iff.1 hx
   left
   by_cases h : s[i] = n
   ·exact ⟨out,by omega,by simp [MW,hi,h,w],by simp [h]⟩
   ·exact ⟨out ++ [s[i]],by simp; omega,by simp [MW,hi,h,w,show out.length ≤ 16777215 by omega],by simp [h]⟩)
  [] (by simp)
 simpa using this
def LL (a b : List Int) : List Int:=b.foldl (fun o x=>QN x o) a
theorem Aci (n : Int) (s : List Int) : (QN n s).length ≤ s.length + 1:=by
 unfold QN
 split
 ·exact Aas n s
 ·omega
theorem union_eq (a b : List Int) (h : a.length + b.length ≤ 1000000) : NC a b = some (LL a b):=by
 unfold NC LL
 rw [Lb (by simp; omega)]
 have:=Nc (body:=fun p : List Int × Int=>Ou b p.1 p.2) b (fun (out : List Int) i=>(out,i)) (fun out i=>out.length ≤ a.length + i) (fun out l=>some (l.foldl (fun o x=>QN x o) out))
  (fun out _=>⟨out,by simp [Ou],by simp⟩) (fun out i x r ho hd hi hx=>by
   have w:=Kt (show i < 9223372036854775807 by omega)
   obtain ⟨_,rfl⟩:=List.getElem?_eq_some_iff.1 hx
   have hl:=Aci b[i] out
   left
   exact ⟨QN b[i] out,by omega,by simp [Ou,hi,add_eq out b[i] (by omega),w],by simp⟩)
  a (by simp)
 simpa using this
theorem AaT : ∀ {a b : List Int},a.Pairwise (· < ·) → b.Pairwise (· < ·) → (∀ v ∈ a,v ∈ b) → a.Sublist b
 | [],_,_,_,_=>List.nil_sublist _
 | x :: a,[],_,_,h=>by have:=h x (List.mem_cons_self ..); cases this
 | x :: a,y :: b,ha,hb,h=>by
  rw [List.pairwise_cons] at ha hb
  by_cases e : x = y
  ·subst e
   refine (AaT ha.2 hb.2 fun v hv=>?_).cons_cons x
   rcases List.mem_cons.1 (h v (List.mem_cons_of_mem _ hv)) with h1 | h1
   ·have:=ha.1 v hv; omega
   ·exact h1
  ·have hx : x ∈ b:=by
    rcases List.mem_cons.1 (h x (List.mem_cons_self ..)) with h1 | h1
    ·exact (e h1).elim
    ·exact h1
   have hyx:=hb.1 x hx
   refine (AaT (List.pairwise_cons.2 ha) hb.2 fun v hv=>?_).cons y
   rcases List.mem_cons.1 (h v hv) with h1 | h1
   ·subst h1
    rcases List.mem_cons.1 hv with h2 | h2
    ·omega
    ·have:=ha.1 v h2; omega
   ·exact h1
theorem KA.sub {a b : List Int} (ha : KA a) (hb : KA b) (h : ∀ v ∈ a,v ∈ b) : a.Sublist b:=AaT ha.1 hb.1 h
theorem KA.ext {a b : List Int} (ha : KA a) (hb : KA b) (h : ∀ v,v ∈ a ↔ v ∈ b) : a = b :=
 (ha.sub hb fun v hv=>(h v).1 hv).eq_of_length_le (hb.sub ha fun v hv=>(h v).2 hv).length_le
theorem KA.filter {a : List Int} (ha : KA a) (p : Int → Bool) : KA (a.filter p) :=
 ⟨ha.1.sublist List.filter_sublist,fun x hx=>ha.2 x ((List.mem_filter.1 hx).1)⟩
theorem Ky.Ait {n m : Int} {s : List Int} (h : KA s ∧ ∀ x ∈ s,x < n) (hm : 0 ≤ m ∧ m < n) (hn : n ≤ 512) : KA (QN m s) ∧ (∀ x ∈ QN m s,x < n) ∧ ∀ v,v ∈ QN m s ↔ v = m ∨ v ∈ s:=by
 unfold QN
 rw [if_pos (by omega)]
 refine ⟨h.1.OO (by omega),fun x hx=>?_,fun v=>UR _ _ _⟩
 rw [UR] at hx
 rcases hx with rfl | hx
 ·exact hm.2
 ·exact h.2 x hx
theorem Qx {n : Int} (hn : n ≤ 512) : ∀ {b a : List Int},(KA a ∧ ∀ x ∈ a,x < n) → (∀ x ∈ b,0 ≤ x ∧ x < n) → (KA (LL a b) ∧ ∀ x ∈ LL a b,x < n) ∧ ∀ v,v ∈ LL a b ↔ v ∈ a ∨ v ∈ b
 | [],a,ha,_=>⟨ha,fun v=>by simp [LL]⟩
 | x :: b,a,ha,hb=>by
  obtain ⟨h1,h2,h3⟩:=Ky.Ait ha (hb x (List.mem_cons_self ..)) hn
  obtain ⟨h4,h5⟩:=Qx hn ⟨h1,h2⟩ fun y hy=>hb y (List.mem_cons_of_mem _ hy)
  refine ⟨h4,fun v=>?_⟩
  show v ∈ LL (QN x a) b ↔ _
  rw [h5,h3,List.mem_cons]
  constructor
  ·rintro ((h | h) | h)
   ·exact .inr (.inl h)
   ·exact .inl h
   ·exact .inr (.inr h)
  ·rintro (h | h | h)
   ·exact .inl (.inr h)
   ·exact .inl (.inl h)
   ·exact .inr h
end Go.Proofs.YtcelninhkmhjkaaDoor
namespace Go.Proofs.YtcelninhkmhjkaaDoor
open Go Go.Dw Go.Proofs
attribute [local simp] Lb Bool.cond_eq_ite
def Of (l : List Int) (p : Int → Prop) : Prop:=KA l ∧ ∀ v,v ∈ l ↔ (0 ≤ v ∧ v < 512) ∧ p v
theorem Of.eq {l m : List Int} {p q : Int → Prop} (h : Of l p) (k : Of m q) (e : ∀ v,0 ≤ v → v < 512 → (p v ↔ q v)) : l = m :=
 h.1.ext k.1 fun v=>by
  rw [h.2,k.2]
  exact ⟨fun ⟨a,b⟩=>⟨a,(e v a.1 a.2).1 b⟩,fun ⟨a,b⟩=>⟨a,(e v a.1 a.2).2 b⟩⟩
theorem Of.AaL {l : List Int} (h : KA l) : Of l (· ∈ l):=⟨h,fun v=>⟨fun k=>⟨h.2 v k,k⟩,fun k=>k.2⟩⟩
theorem Of.mono {l : List Int} {p q : Int → Prop} (h : Of l p) (e : ∀ v,0 ≤ v → v < 512 → (p v ↔ q v)) : Of l q :=
 ⟨h.1,fun v=>by rw [h.2]; exact ⟨fun ⟨a,b⟩=>⟨a,(e v a.1 a.2).1 b⟩,fun ⟨a,b⟩=>⟨a,(e v a.1 a.2).2 b⟩⟩⟩
abbrev BS:=JL
def Mg (t : BS) : Prop:=∀ w ∈ t.toList,WW w
theorem BS.len (t : BS) : t.toList.length = 8:=rfl
def MH (t : BS) (i : Nat) : Int:=(t.toList[i]?).getD 0
def hasB (t : BS) (v : Int) : Bool:=TR (MH t (v.toNat / 64)) (v.toNat % 64)
theorem RX {t : BS} {i : Nat} (h : i < 8) : t.toList[i]? = some (MH t i):=by
 have : t.toList[i]? = some (t.toList[i]'(show i < 8 from h)):=List.getElem?_eq_getElem _
 simp [MH,this]
theorem Mg.word {t : BS} (h : Mg t) {i : Nat} (hi : i < 8) : WW (MH t i):=h _ (List.mem_of_getElem? (RX hi))
theorem Abp {t : BS} {i j : Nat} {w : Int} (hi : i < 8) : MH (t.set i w) j = if i = j then w else MH t j:=by
 unfold MH
 rw [Ma,List.getElem?_set]
 by_cases h : i = j
 ·subst h
  simp [show i < (JL.toList t).length from hi]
 ·simp [h]
theorem Mg.set {t : BS} (h : Mg t) {i : Nat} {w : Int} (hw : WW w) : Mg (t.set i w):=by
 intro x hx
 rw [Ma] at hx
 rcases List.mem_or_eq_of_mem_set hx with h1 | rfl
 ·exact h x h1
 ·exact hw
theorem Mg.zero : Mg ⟨0,0,0,0,0,0,0,0⟩:=by
 intro w hw
 simp [JL.toList] at hw
 subst hw
 exact ⟨by omega,by omega⟩
theorem Adi (v : Int) : hasB ⟨0,0,0,0,0,0,0,0⟩ v = false:=by
 have : MH ⟨0,0,0,0,0,0,0,0⟩ (v.toNat / 64) = 0:=by
  unfold MH
  have hl : ∀ i : Nat,(([0,0,0,0,0,0,0,0] : List Int)[i]?).getD 0 = 0:=by
   intro i
   match i with
   | 0 | 1 | 2 | 3 | 4 | 5 | 6 | 7=>rfl
   | n + 8=>rfl
  exact hl _
 unfold hasB
 rw [this]
 simp [TR]
theorem AbA (n : Int) : 0 ≤ (IntKind.u64.wrap n).tmod 64 ∧ (0 ≤ n → n < 512 → ((IntKind.u64.wrap n).tmod 64).toNat = n.toNat % 64):=by
 obtain ⟨h0,h1⟩:=Aab n
 rw [Int.tmod_eq_emod_of_nonneg h0]
 refine ⟨by omega,fun ha hb=>?_⟩
 rw [Adw ⟨ha,by omega⟩]
 omega
theorem AcU {n : Int} (h0 : 0 ≤ n) (h1 : n < 512) : IntKind.i64.wrap (n.tdiv 64) = ((n.toNat / 64 : Nat) : Int):=by
 rw [Int.tdiv_eq_ediv_of_nonneg h0,wrap64 (by omega) (by omega)]
 omega
theorem Agf {n : Int} (h0 : 0 ≤ n) (h1 : n < 512) : IntKind.u64.wrap (1 * 2 ^ (Nat.min ((IntKind.u64.wrap n).tmod 64).toNat IntKind.u64.bits)) = ((2 ^ (n.toNat % 64) : Nat) : Int):=by
 rw [(AbA n).2 h0 h1]
 have e : Nat.min (n.toNat % 64) IntKind.u64.bits = n.toNat % 64:=Nat.min_eq_left (by show n.toNat % 64 ≤ 64; omega)
 rw [e,Int.one_mul]
 have hp : 2 ^ (n.toNat % 64) < 18446744073709551616:=by
  have:=Nat.pow_lt_pow_right (a:=2) (by decide) (show n.toNat % 64 < 64 by omega)
  simpa using this
 have:=WE hp
 rw [Int.natCast_pow] at this ⊢
 exact this
theorem AbV (j : Nat) (h : j < 64) : 2 ^ j < 18446744073709551616:=by
 have:=Nat.pow_lt_pow_right (a:=2) (by decide) h
 simpa using this
theorem Aik {n v : Int} (h0 : 0 ≤ n) (h0' : 0 ≤ v) (hne : v ≠ n) (h : n.toNat / 64 = v.toNat / 64) : v.toNat % 64 ≠ n.toNat % 64:=by omega
theorem Adq {t : BS} (ht : Mg t) (n : Int) (b : Bool) : Hs (LW t n b) fun r=>Mg r ∧ ∀ v,0 ≤ v → v < 512 → hasB r v = if v = n then b else hasB t v:=by
 unfold LW
 refine .chk (AbA n).1 ?_
 rw [XX,Option.bind_some]
 by_cases h : 0 ≤ n ∧ n < 512
 ·rw [decide_eq_true h]
  obtain ⟨h0,h1⟩:=h
  have hi : n.toNat / 64 < 8:=by omega
  have hb:=Agf h0 h1
  have hw:=ht.word hi
  have hp : WW ((2 ^ (n.toNat % 64) : Nat) : Int):=WW.nat (AbV _ (by omega))
  have fin : ∀ (x : Nat),x < 18446744073709551616 → (∀ j,j < 64 → x.testBit j = if j = n.toNat % 64 then b else (MH t (n.toNat / 64)).toNat.testBit j) →
    Mg (t.set (n.toNat / 64) (x : Int)) ∧ ∀ v,0 ≤ v → v < 512 → hasB (t.set (n.toNat / 64) (x : Int)) v = if v = n then b else hasB t v:=by
   intro x hx hbit
   refine ⟨ht.set (WW.nat hx),fun v hv0 hv1=>?_⟩
   unfold hasB
   rw [Abp hi]
   by_cases he : v = n
   ·subst he
    rw [if_pos rfl,if_pos rfl]
    show (x : Int).toNat.testBit _ = b
    rw [Int.toNat_natCast,hbit _ (by omega),if_pos rfl]
   ·rw [if_neg he]
    by_cases hq : n.toNat / 64 = v.toNat / 64
    ·rw [if_pos hq]
     show (x : Int).toNat.testBit _ = _
     rw [Int.toNat_natCast,hbit _ (by omega),if_neg (Aik h0 hv0 he hq),hq]
     rfl
    ·rw [if_neg hq]
  cases b with
  | true =>
   simp only [Bool.not_true,cond_false,cond_true]
   rw [AcU h0 h1]
   refine .chk (by omega) ?_
   rw [Int.toNat_natCast,RX hi,Option.bind_some]
   refine .chk (by omega) ?_
   rw [Option.bind_some]
   refine .pure ?_
   rw [hb,Aim hw hp,Int.toNat_natCast]
   refine fin _ (Ado hw.toNat_lt (AbV _ (by omega))) fun j hj=>?_
   rw [Nat.testBit_or,Nat.testBit_two_pow]
   by_cases e : j = n.toNat % 64
   ·simp [e]
   ·rw [if_neg e]
    simp [show ¬ n.toNat % 64 = j from fun h=>e h.symm]
  | false =>
   simp only [Bool.not_true,cond_false]
   rw [AcU h0 h1]
   refine .chk (by omega) ?_
   rw [Int.toNat_natCast,RX hi,Option.bind_some]
   refine .chk (by omega) ?_
   rw [Option.bind_some]
   refine .pure ?_
   rw [hb,AbC hw hp,Int.toNat_natCast]
   refine fin _ (AaS hw.toNat_lt) fun j hj=>?_
   rw [AbJ hw.toNat_lt (AbV _ (by omega)),Nat.testBit_two_pow]
   by_cases e : j = n.toNat % 64
   ·simp [e]
   ·rw [if_neg e]
    simp [show ¬ n.toNat % 64 = j from fun h=>e h.symm]
 ·rw [decide_eq_false h]
  simp only [Bool.not_false,cond_true]
  exact .pure ⟨ht,fun v h0 h1=>by rw [if_neg (fun e=>h (by omega))]⟩
theorem YP (l : List Int) (hl : l.length ≤ 9000000000000000000) : Hs (Lt l) fun r=>Mg r ∧ ∀ v,0 ≤ v → v < 512 → hasB r v = decide (v ∈ l):=by
 unfold Lt
 refine Hs.loop (fun s=>Mg s.1 ∧ ∃ k : Nat,s.2 = (k : Int) ∧ k ≤ l.length ∧ ∀ v,0 ≤ v → v < 512 → hasB s.1 v = decide (v ∈ l.take k)) (fun s=>l.length - s.2.toNat) ⟨Mg.zero,0,rfl,Nat.zero_le _,fun v _ _=>by simp [Adi]⟩ ?_
 rintro ⟨t,k'⟩ ⟨ht,k,hk',hk,hall⟩
 simp only at ht hk' hall
 subst hk'
 unfold Ql
 refine .dec (fun hlt=>?_) fun hge=>?_
 ·have hlt : k < l.length:=by omega
  refine Hs.bind (P:=fun x=>l[k]? = some x) ⟨l[k],by simp [hlt],by simp [hlt]⟩ fun x hx=>(Adq ht x true).bind fun r hr=>.cnt ?_
  rw [Kt (by omega)]
  refine ⟨⟨hr.1,k + 1,rfl,hlt,fun v h0 h1=>?_⟩,by simp only; omega⟩
  simp only
  rw [hr.2 v h0 h1,hall v h0 h1,List.take_add_one,hx]
  by_cases e : v = x
  ·simp [e]
  ·simp [e]
 ·have : k = l.length:=by omega
  subst this
  exact .lft (.pure ⟨ht,fun v h0 h1=>by rw [hall v h0 h1,List.take_length]⟩)
theorem KA.snoc {l : List Int} (h : KA l) {z : Int} (h0 : 0 ≤ z ∧ z < 512) (hz : ∀ x ∈ l,x < z) : KA (l ++ [z]):=by
 refine ⟨List.pairwise_append.2 ⟨h.1,List.pairwise_singleton _ _,fun a ha b hb=>?_⟩,fun x hx=>?_⟩
 ·simp only [List.mem_singleton] at hb; subst hb; exact hz a ha
 ·simp only [List.mem_append,List.mem_singleton] at hx
  rcases hx with h1 | rfl
  ·exact h.2 x h1
  ·exact h0
theorem Wz {t : BS} (ht : Mg t) : Hs (KW t) fun r=>r.2 = t ∧ Of r.1 (fun v=>hasB t v = true):=by
 unfold KW
 refine Hs.loop (fun s=>∃ i : Nat,s.2 = (i : Int) ∧ i ≤ 8 ∧ Of s.1 (fun v=>v < 64 * i ∧ hasB t v = true)) (fun s=>8 - s.2.toNat) ⟨0,rfl,by omega,⟨KA.nil,fun v=>by simp; omega⟩⟩ ?_
 rintro ⟨l,i'⟩ ⟨i,hi',hi,hs⟩
 simp only at hi' hs
 subst hi'
 unfold Nx
 refine .dec (fun hlt=>?_) fun hge=>?_
 ·have hlt : i < 8:=by omega
  refine .chk (by omega) ?_
  rw [Int.toNat_natCast,RX hlt,Option.bind_some]
  have hw:=ht.word hlt
  refine Hs.loop (fun s=>WW s.2 ∧ ∃ c : Nat,c ≤ 64 ∧ Of s.1 (fun v=>v < 64 * i + c ∧ hasB t v = true) ∧ ∀ j,j < 64 → TR s.2 j = (decide (c ≤ j) && TR (MH t i) j)) (fun s=>s.2.toNat) ⟨hw,0,by omega,by simpa using hs,fun j _=>by simp⟩ ?_
  rintro ⟨m,x⟩ ⟨hx,c,hc,hm,hb⟩
  simp only at hx hm hb
  unfold Ny
  refine .bne (fun hne=>?_) fun he=>?_
  ·have hx0 : 0 < x.toNat:=by have:=hx.1; omega
   obtain ⟨k1,k2,k3,k4⟩:=AeL hx0 hx.toNat_lt
   generalize hk : Lib.ctz 64 x.toNat = k at k1 k2 k3 k4
   have ek : YR x = some (k : Int):=by
    unfold YR
    rw [Lb (show 0 ≤ x ∧ x < 18446744073709551616 from hx),hk]
   rw [ek,Option.bind_some]
   have hck : c ≤ k:=by
    have:=hb k k1
    unfold TR at this
    rw [k2] at this
    simp at this
    exact this.1
   have hwk : TR (MH t i) k = true:=by
    have:=hb k k1
    unfold TR at this
    rw [k2] at this
    simp at this
    exact this.2
   have e1 : IntKind.i64.wrap (IntKind.i64.wrap (64 * (i : Int)) + (k : Int)) = ((64 * i + k : Nat) : Int):=by
    rw [wrap64 (n:=64 * (i : Int)) (by omega) (by omega),wrap64 (by omega) (by omega)]; omega
   have e2 : IntKind.u64.wrap (x - 1) = x - 1:=Adw ⟨by omega,by have:=hx.2; omega⟩
   have e3 : (x - 1).toNat = x.toNat - 1:=by omega
   have hz : ∀ v ∈ m,v < ((64 * i + k : Nat) : Int):=fun v hv=>by
    have:=((hm.2 v).1 hv).2.1
    omega
   have hlen:=hm.1.length_le
   refine .chk (by simp; omega) (.cnt ?_)
   rw [e1,e2,AeU hx ⟨by omega,by have:=hx.2; omega⟩,e3]
   refine ⟨⟨WW.nat (AaS hx.toNat_lt),k + 1,by omega,⟨hm.1.snoc (by omega) hz,fun v=>?_⟩,fun j hj=>?_⟩,?_⟩
   ·simp only [List.mem_append,List.mem_singleton,hm.2]
    constructor
    ·rintro (⟨a,b,d⟩ | rfl)
     ·exact ⟨a,by omega,d⟩
     ·refine ⟨by omega,by omega,?_⟩
      unfold hasB
      have q1 : (((64 * i + k : Nat) : Int).toNat) / 64 = i:=by omega
      have q2 : (((64 * i + k : Nat) : Int).toNat) % 64 = k:=by omega
      rw [q1,q2]
      exact hwk
    ·rintro ⟨a,b,d⟩
     by_cases e : v = ((64 * i + k : Nat) : Int)
     ·exact .inr e
     ·refine .inl ⟨a,?_,d⟩
      refine Int.not_le.1 fun hle=>?_
      have q1 : v.toNat / 64 = i:=by omega
      have q3 : v.toNat % 64 < k:=by omega
      have q4 : c ≤ v.toNat % 64:=by omega
      have q5:=hb (v.toNat % 64) (by omega)
      unfold TR at q5
      rw [k3 _ q3] at q5
      unfold hasB at d
      rw [q1] at d
      unfold TR at d
      rw [d] at q5
      simp [q4] at q5
   ·simp only
    unfold TR
    rw [Int.toNat_natCast,k4]
    have q:=hb j hj
    unfold TR at q
    by_cases h1 : j < k
    ·rw [k3 _ h1]
     simp [show ¬ k + 1 ≤ j by omega]
    ·by_cases h2 : j = k
     ·subst h2
      simp [show ¬ j + 1 ≤ j by omega]
     ·rw [q]
      simp [h2,show c ≤ j by omega,show k + 1 ≤ j by omega]
   ·simp only [Int.toNat_natCast]
    have : x.toNat &&& (x.toNat - 1) ≤ x.toNat - 1:=Nat.and_le_right
    omega
  ·have he : x = 0:=he
   subst he
   refine .lft (.cnt ?_)
   rw [Kt (by omega)]
   refine ⟨⟨i + 1,rfl,hlt,hm.mono fun v h0 h1=>⟨fun ⟨a,b⟩=>⟨by omega,b⟩,fun ⟨a,b⟩=>⟨?_,b⟩⟩⟩,by simp only; omega⟩
   refine Int.not_le.1 fun hle=>?_
   have q1 : v.toNat / 64 = i:=by omega
   have q4 : c ≤ v.toNat % 64:=by omega
   have q5:=hb (v.toNat % 64) (by omega)
   unfold hasB at b
   rw [q1] at b
   rw [b] at q5
   simp [q4,TR] at q5
 ·have : i = 8:=by omega
  subst this
  exact .lft (.pure ⟨rfl,hs.mono fun v h0 h1=>⟨fun h=>h.2,fun h=>⟨by omega,h⟩⟩⟩)
theorem Ady {x y : Int} (hx : WW x) (hy : WW y) : Oq x y = some ((x.toNat ||| y.toNat : Nat) : Int):=by
 unfold Oq; rw [Aim hx hy]
theorem Adn {x y : Int} (hx : WW x) (hy : WW y) : Oo x y = some ((AbI x.toNat y.toNat : Nat) : Int):=by
 unfold Oo; rw [AbC hx hy]
theorem Acv {s t : BS} (hs : Mg s) (ht : Mg t) (g : Nat → Nat → Nat) (hg : ∀ x y,x < 18446744073709551616 → y < 18446744073709551616 → g x y < 18446744073709551616) (p : Bool → Bool → Bool)
  (hp : ∀ x y j,x < 18446744073709551616 → y < 18446744073709551616 → j < 64 → (g x y).testBit j = p (x.testBit j) (y.testBit j))
  {body : BS × Int → Option ((BS × Int) ⊕ (BS × BS × BS))} (hend : ∀ x,body (x,8) = some (.inr (x,s,t)))
  (hstep : ∀ x (i : Nat),i < 8 → body (x,(i : Int)) = some (.inl (x.set i ((g (MH s i).toNat (MH t i).toNat : Nat) : Int),((i + 1 : Nat) : Int)))) :
  Hs (Kv body (⟨0,0,0,0,0,0,0,0⟩,0)) fun r=>Mg r.1 ∧ ∀ v,0 ≤ v → v < 512 → hasB r.1 v = p (hasB s v) (hasB t v):=by
 refine Hs.loop (fun q=>Mg q.1 ∧ ∃ i : Nat,q.2 = (i : Int) ∧ i ≤ 8 ∧ ∀ j,j < i → MH q.1 j = ((g (MH s j).toNat (MH t j).toNat : Nat) : Int)) (fun q=>8 - q.2.toNat) ⟨Mg.zero,0,rfl,by omega,fun j hj=>by omega⟩ ?_
 rintro ⟨x,i'⟩ ⟨hx,i,hi',hi,hall⟩
 simp only at hx hi' hall
 subst hi'
 by_cases hlt : i < 8
 ·refine ⟨_,hstep x i hlt,⟨hx.set (WW.nat (hg _ _ (hs.word hlt).toNat_lt (ht.word hlt).toNat_lt)),i + 1,rfl,hlt,fun j hj=>?_⟩,by simp only; omega⟩
  simp only
  rw [Abp hlt]
  by_cases e : i = j
  ·subst e; rw [if_pos rfl]
  ·rw [if_neg e]; exact hall j (by omega)
 ·obtain rfl : i = 8:=by omega
  refine ⟨_,hend x,hx,fun v h0 h1=>?_⟩
  have hv : v.toNat / 64 < 8:=by omega
  unfold hasB
  simp only
  rw [hall _ hv]
  unfold TR
  rw [Int.toNat_natCast,hp _ _ _ (hs.word hv).toNat_lt (ht.word hv).toNat_lt (by omega)]
theorem Aby {s t : BS} (hs : Mg s) (ht : Mg t) : Hs (La s t) fun r=>Mg r.1 ∧ ∀ v,0 ≤ v → v < 512 → hasB r.1 v = (hasB s v || hasB t v):=by
 unfold La
 refine Acv hs ht (· ||| ·) (fun x y=>Ado) (· || ·) (fun x y j _ _ _=>Nat.testBit_or ..) (fun x=>by simp [Lk]) fun x i hi=>?_
 have w:=Kt (show i < 9223372036854775807 by omega)
 simp [Lk,RX hi,Ady (hs.word hi) (ht.word hi),w,show (i : Int) < 8 by omega]
theorem Abx {s t : BS} (hs : Mg s) (ht : Mg t) : Hs (KZ s t) fun r=>Mg r.1 ∧ ∀ v,0 ≤ v → v < 512 → hasB r.1 v = (hasB s v && !hasB t v):=by
 unfold KZ
 refine Acv hs ht AbI (fun x y hx _=>AaS hx) (fun a b=>a && !b) (fun x y j hx hy _=>AbJ hx hy) (fun x=>by simp [Lj]) fun x i hi=>?_
 have w:=Kt (show i < 9223372036854775807 by omega)
 simp [Lj,RX hi,Adn (hs.word hi) (ht.word hi),w,show (i : Int) < 8 by omega]
theorem AdC (l : List Int) (hl : l.length ≤ 9000000000000000000) : Hs (Qh l) fun r=>Of r (· ∈ l):=by
 unfold Qh
 exact (YP l hl).bind fun r hr=>(Wz hr.1).bind fun q hq=>.pure (hq.2.mono fun v h0 h1=>by rw [hr.2 v h0 h1]; simp)
theorem AbG (l : List Int) (n : Int) (hl : l.length ≤ 9000000000000000000) : Hs (Nb l n) fun r=>Of r (fun v=>v ∈ l ∧ v ≠ n):=by
 unfold Nb
 refine (YP l hl).bind fun r hr=>(Adq hr.1 n false).bind fun u hu=>(Wz hu.1).bind fun q hq=>.pure (hq.2.mono fun v h0 h1=>?_)
 rw [hu.2 v h0 h1,hr.2 v h0 h1]
 by_cases e : v = n <;> simp [e]
theorem Acl (a b : List Int) (ha : a.length ≤ 9000000000000000000) (hb : b.length ≤ 9000000000000000000) : Hs (MN a b) fun r=>Of r (fun v=>v ∈ a ∨ v ∈ b):=by
 unfold MN
 refine (YP a ha).bind fun r hr=>(YP b hb).bind fun u hu=>(Aby hr.1 hu.1).bind fun x hx=>(Wz hx.1).bind fun q hq=>.pure (hq.2.mono fun v h0 h1=>?_)
 rw [hx.2 v h0 h1,hr.2 v h0 h1,hu.2 v h0 h1]; simp
theorem Ack (a b : List Int) (ha : a.length ≤ 9000000000000000000) (hb : b.length ≤ 9000000000000000000) : Hs (Oy a b) fun r=>Of r (fun v=>v ∈ a ∧ v ∉ b):=by
 unfold Oy
 refine (YP a ha).bind fun r hr=>(YP b hb).bind fun u hu=>(Abx hr.1 hu.1).bind fun x hx=>(Wz hx.1).bind fun q hq=>.pure (hq.2.mono fun v h0 h1=>?_)
 rw [hx.2 v h0 h1,hr.2 v h0 h1,hu.2 v h0 h1]; simp
theorem Zu {s : List Int} (hs : KA s) (n : Int) : Nb s n = some (s.filter (· != n)):=by
 obtain ⟨r,h1,h2⟩:=AbG s n (by have:=hs.length_le; omega)
 rw [h1,h2.eq (Of.AaL (hs.filter (· != n))) fun v _ _=>by simp [List.mem_filter]]
theorem XZ {a b : List Int} (ha : KA a) (hb : ∀ x ∈ b,0 ≤ x ∧ x < 512) (hl : b.length ≤ 1000) : MN a b = some (LL a b):=by
 obtain ⟨r,h1,h2⟩:=Acl a b (by have:=ha.length_le; omega) (by omega)
 obtain ⟨h3,h4⟩:=Qx (n:=512) (by omega) (b:=b) ⟨ha,fun x hx=>(ha.2 x hx).2⟩ hb
 rw [h1,h2.eq (Of.AaL h3.1) fun v _ _=>by rw [h4]]
theorem AdB {b : List Int} (hb : ∀ x ∈ b,0 ≤ x ∧ x < 512) (hl : b.length ≤ 1000) : Qh b = some (LL [] b):=by
 obtain ⟨r,h1,h2⟩:=AdC b (by omega)
 obtain ⟨h3,h4⟩:=Qx (n:=512) (by omega) (b:=b) ⟨KA.nil,fun x hx=>by cases hx⟩ hb
 rw [h1,h2.eq (Of.AaL h3.1) fun v _ _=>by rw [h4]; simp]
end Go.Proofs.YtcelninhkmhjkaaDoor
namespace Go.Proofs.YtcelninhkmhjkaaDoor
open Go Go.Dw Go.Proofs
attribute [local simp] Lb Bool.cond_eq_ite
def okC (c : JJ) : Prop:=0 ≤ c.at_ ∧ c.at_ ≤ c.list.length ∧ c.list.length ≤ 1000 ∧ ∀ v ∈ c.list,0 ≤ v ∧ v ≤ 255
theorem Ail (l : List Int) (n : Int) (hl : qL (MU .u8) l) (h0 : 0 ≤ n) (h1 : n ≤ 1000) : ∃ c,UN l n = some c ∧ okC c:=by
 unfold UN
 have e : Uj (l.length : Int) n = min (l.length : Int) n:=AfO _ _
 rw [e]
 refine ⟨_,by rw [Lb (by omega)],by simp,?_,?_,?_⟩
 ·simp
 ·simp only [List.length_take]; omega
 ·intro v hv
  have:=hl.2 v (List.mem_of_mem_take hv)
  simpa [MU,IntKind.min,IntKind.max,IntKind.signed,IntKind.bits] using this
theorem AfR (c : JJ) (h : okC c) (n : Int) (h1 : n ≤ 1099511627776) : ∃ r c',JU c n = some (r,c') ∧ okC c' ∧ 0 ≤ r ∧ (r < n ∨ r = 0):=by
 obtain ⟨ha,hb,hc,hd⟩:=h
 unfold JU Pd
 by_cases hl : c.at_ < c.list.length
 ·by_cases hn : n < 1
  ·exact ⟨0,c,by simp [hl,hn],⟨ha,hb,hc,hd⟩,by omega,.inr rfl⟩
  ·have hx : c.list[c.at_.toNat]? = some (c.list[c.at_.toNat]'(by omega)):=List.getElem?_eq_getElem _
   have hv:=hd _ (List.getElem_mem (show c.at_.toNat < c.list.length by omega))
   generalize hq : c.list[c.at_.toNat]'(by omega) = v at hx hv
   have e1 : IntKind.i64.wrap v = v:=wrap64 (by omega) (by omega)
   have hm0 : 0 ≤ v * n:=Int.mul_nonneg hv.1 (by omega)
   have hm1 : v * n ≤ 255 * n:=Int.mul_le_mul_of_nonneg_right hv.2 (by omega)
   have e2 : IntKind.i64.wrap (v * n) = v * n:=wrap64 (by omega) (by omega)
   have e3 : (v * n).tdiv 256 = v * n / 256:=Int.tdiv_eq_ediv_of_nonneg hm0
   have e4 : IntKind.i64.wrap (v * n / 256) = v * n / 256:=wrap64 (by omega) (by omega)
   have e5 : IntKind.i64.wrap (c.at_ + 1) = c.at_ + 1:=wrap64 (by omega) (by omega)
   refine ⟨v * n / 256,⟨c.list,c.at_ + 1⟩,?_,⟨by simp only; omega,by simp only; omega,hc,hd⟩,by omega,.inl (by omega)⟩
   simp [hl,hn,Ph,TI _ ha,hx,e1,e2,e3,e4,e5]
 ·exact ⟨0,c,by simp [hl],⟨ha,hb,hc,hd⟩,by omega,.inr rfl⟩
end Go.Proofs.YtcelninhkmhjkaaDoor
namespace Go.Proofs.YtcelninhkmhjkaaDoor
open Go Go.Dw Go.Proofs
theorem AfP {c : JJ} (h : okC c) {n : Int} (h1 : n ≤ 1099511627776) : Hs (JU c n) fun p=>okC p.2 ∧ 0 ≤ p.1 ∧ (p.1 < n ∨ p.1 = 0):=by
 obtain ⟨r,c',e,h2,h3,h4⟩:=AfR c h n h1
 exact ⟨(r,c'),e,h2,h3,h4⟩
theorem Kk {c : JJ} (h : okC c) {n : Int} (h0 : 1 ≤ n) (h1 : n ≤ 1099511627776) : Hs (JU c n) fun p=>okC p.2 ∧ 0 ≤ p.1 ∧ p.1 < n :=
 (AfP h h1).mono fun r hr=>⟨hr.1,hr.2.1,by omega⟩
def Yj (s : Ko) : Prop:=s.Size ∈ ([8,4,8,1,2,16,8] : List Int) ∧ s.Align ∈ ([8,4,1,8,16,2,32,64] : List Int)
def W64 (w : Int) : Prop:=0 ≤ w ∧ w < 18446744073709551616
def Reg (a : Int) : Prop:=0 ≤ a ∧ a < 4
theorem AfT {c : JJ} (h : okC c) : Hs (NR c) fun p=>okC p.2 ∧ Yj p.1:=by
 unfold NR
 refine (Kk h (by omega) (by omega)).bind fun r hr=>.chk (by simp; omega) ?_
 refine (Hs.get hr.2.1 (by simp; omega) fun x hx=>List.mem_of_getElem? hx).bind fun x hx=>?_
 refine (Kk hr.1 (by omega) (by omega)).bind fun r' hr'=>.chk (by simp; omega) ?_
 refine (Hs.get hr'.2.1 (by simp; omega) fun x hx=>List.mem_of_getElem? hx).bind fun y hy=>?_
 exact .pure ⟨hr'.1,hx,hy⟩
theorem AeP {c : JJ} (h : okC c) {m : Int} (hm : 0 ≤ m) (hm' : m ≤ 1000) : Hs (Nr c m) fun p=>okC p.2 ∧ (p.1.length : Int) ≤ m ∧ ∀ s ∈ p.1,Yj s:=by
 unfold Nr
 have w : IntKind.i64.wrap (m + 1) = m + 1:=wrap64 (by omega) (by omega)
 rw [w]
 refine (Kk h (by omega) (by omega)).bind fun r hr=>?_
 refine Hs.loop (fun s=>okC ⟨s.1,s.2.1⟩ ∧ (s.2.2.1.length : Int) + s.2.2.2 ≤ m ∧ (∀ x ∈ s.2.2.1,Yj x) ∧ 0 ≤ s.2.2.2) (fun s=>s.2.2.2.toNat) ⟨hr.1,by simp; omega,by simp,hr.2.1⟩ ?_
 rintro ⟨l,a,sl,n⟩ ⟨hc,hl,hs,hn⟩
 simp only at hc hl hs hn
 unfold OG
 refine .dec (fun hlt=>?_) fun hlt=>?_
 ·have hlt : 0 < n:=hlt
  have w : IntKind.i64.wrap (n - 1) = n - 1:=wrap64 (by omega) (by omega)
  refine (AfT hc).bind fun x hx=>.chk (by simp; omega) (.cnt ⟨⟨hx.1,?_,?_,?_⟩,?_⟩)
  ·simp only [w,List.length_append,List.length_singleton]; omega
  ·intro y hy
   rcases List.mem_append.1 hy with h1 | h1
   ·exact hs y h1
   ·rw [List.mem_singleton] at h1; subst h1; exact hx.2
  ·simp only [w]; omega
  ·simp only [w]; omega
 ·exact .lft (.pure ⟨hc,by simp only; omega,hs⟩)
theorem Acw {c : JJ} (h : okC c) : Hs (MP c) fun p=>okC p.2 ∧ W64 p.1:=by
 unfold MP
 refine (Kk h (by omega) (by omega)).bind fun r hr=>.beq (fun _=>?_) fun _=>.beq (fun _=>?_) fun _=>.beq (fun _=>?_) fun _=>?_
 ·exact (Kk hr.1 (by omega) (by omega)).bind fun r' hr'=>.pure ⟨hr'.1,Aab _⟩
 ·exact (Kk hr.1 (by omega) (by omega)).bind fun r' hr'=>.chk hr'.2.1 (.pure ⟨hr'.1,Aab _⟩)
 ·exact .pure ⟨hr.1,by simp only; unfold W64; omega⟩
 ·exact (Kk hr.1 (by omega) (by omega)).bind fun r' hr'=>.pure ⟨hr'.1,Aab _⟩
def AdA (sl : List Ko) (a b : Int) : Prop:=0 ≤ a ∧ a < sl.length ∧ ∃ x y,sl[a.toNat]? = some x ∧ sl[b.toNat]? = some y ∧ x.Size = y.Size
theorem AfM {c : JJ} (h : okC c) {f : JN} {s : Int} (h0 : 0 ≤ s) (h1 : s < f.Slots.length) (hl : f.Slots.length ≤ 1000) : Hs (NT c f s) fun p=>okC p.2 ∧ AdA f.Slots p.1 s:=by
 unfold NT
 refine Hs.loop (fun st=>0 ≤ st.2 ∧ st.2 ≤ f.Slots.length ∧ (st.1.length : Int) ≤ st.2 ∧ (∀ v ∈ st.1,AdA f.Slots v s) ∧ (s < st.2 → 0 < st.1.length)) (fun st=>f.Slots.length - st.2.toNat) ⟨by simp,by simp,by simp,by simp,fun h=>by simp at h; omega⟩ ?_
 rintro ⟨l,k⟩ ⟨hk0,hk1,hll,hv,hne⟩
 simp only at hk0 hk1 hll hv hne
 unfold Pk
 refine .dec (fun hlt=>?_) fun hlt=>.lft ?_
 ·have w : IntKind.i64.wrap (k + 1) = k + 1:=wrap64 (by omega) (by omega)
  refine (Hs.ix hk0 hlt fun x hx=>hx).bind fun x hx=>(Hs.ix h0 h1 fun x hx=>hx).bind fun y hy=>.beq (fun he=>?_) fun he=>?_
  ·refine .chk (by simp; omega) (.cnt ⟨⟨by simp only [w]; omega,by simp only [w]; omega,by simp only [w,List.length_append,List.length_singleton]; omega,?_,by simp⟩,by simp only [w]; omega⟩)
   intro v hv'
   rcases List.mem_append.1 hv' with h2 | h2
   ·exact hv v h2
   ·rw [List.mem_singleton] at h2; subst h2
    exact ⟨hk0,hlt,x,y,hx,hy,he⟩
  ·refine .cnt ⟨⟨by simp only [w]; omega,by simp only [w]; omega,by simp only [w]; omega,hv,fun h3=>?_⟩,by simp only [w]; omega⟩
   simp only [w] at h3
   by_cases e : s = k
   ·subst e; rw [hx] at hy; cases hy; exact (he rfl).elim
   ·exact hne (by omega)
 ·have hlt : ¬ k < f.Slots.length:=hlt
  have hl1:=hne (by omega)
  refine (Kk h (n:=(l.length : Int)) (by omega) (by omega)).bind fun r hr=>.chk ⟨hr.2.1,hr.2.2⟩ ?_
  exact (Hs.get hr.2.1 hr.2.2 fun x hx=>hv x (List.mem_of_getElem? hx)).bind fun x hx=>.pure ⟨hr.1,hx⟩
inductive KV (sl : List Ko) (np i : Int) (ps : List Int) (T : Int → Prop) : JK → Prop
 | store (a b : Int) : 0 ≤ a → a < sl.length → Reg b → KV sl np i ps T ⟨16,a,b,0,0⟩
 | load (a b : Int) : Reg a → 0 ≤ b → b < sl.length → KV sl np i ps T ⟨15,a,b,0,0⟩
 | move (a b : Int) : AdA sl a b → 0 ≤ b → b < sl.length → KV sl np i ps T ⟨17,a,b,0,0⟩
 | const (a w : Int) : Reg a → W64 w → KV sl np i ps T ⟨0,a,0,0,w⟩
 | bin (op a b c : Int) : 2 ≤ op → op < 12 → Reg a → Reg b → 0 ≤ c → c < 8 → KV sl np i ps T ⟨op,a,b,c,0⟩
 | out (a : Int) : Reg a → KV sl np i ps T ⟨14,a,0,0,0⟩
 | un (op a : Int) : (op = 13 ∨ op = 12 ∨ op = 1) → Reg a → KV sl np i ps T ⟨op,a,0,0,0⟩
 | param (a b : Int) : Reg a → 0 ≤ b → b < np → KV sl np i ps T ⟨19,a,b,0,0⟩
 | arg (a b : Int) : 0 ≤ a → a < 4 → Reg b → KV sl np i ps T ⟨18,a,b,0,0⟩
 | call (j : Int) : i < j → j < ps.length → KV sl np i ps T ⟨22,j,0,0,0⟩
 | jump (t : Int) : T t → KV sl np i ps T ⟨20,t,0,0,0⟩
 | branch (a t : Int) : Reg a → T t → KV sl np i ps T ⟨21,a,t,0,0⟩
def Abz (ps : List Int) : Prop:=(∀ v ∈ ps,0 ≤ v ∧ v < 4) ∧ ps.length ≤ 1000
theorem AeZ {c : JJ} (h : okC c) {f : JN} {i : Int} {ps : List Int} (T : Int → Prop) (hf : f.Slots.length ≤ 1000) (hp : f.Params < 4) (hi : 0 ≤ i) (hi' : i < ps.length) (hps : Abz ps) :
  Hs (NS c f i ps) fun p=>okC p.2 ∧ p.1.length ≤ 4 ∧ ∀ x ∈ p.1,KV f.Slots f.Params i ps T x:=by
 unfold NS
 refine (Kk h (by omega) (by omega)).bind fun r hr=>(Kk hr.1 (by omega) (by omega)).bind fun k hk=>?_
 have hreg : Reg r.1:=hr.2
 have one : ∀ {x : JK} {c' : JJ},okC c' → KV f.Slots f.Params i ps T x → Hs (some (([x] : List JK),c')) fun p=>okC p.2 ∧ p.1.length ≤ 4 ∧ ∀ x ∈ p.1,KV f.Slots f.Params i ps T x:=fun hc hx=>.pure ⟨hc,by simp,by simpa using hx⟩
 have j6 : ∀ b,(b = true → i + 1 < ps.length) → Hs (MC k ps i r b) fun p=>okC p.2 ∧ p.1.length ≤ 4 ∧ ∀ x ∈ p.1,KV f.Slots f.Params i ps T x:=by
  intro b hb
  unfold MC
  refine .cond (fun hb'=>?_) fun _=>one hk.1 (.out _ hreg)
  have hil:=hb hb'
  have hlen:=hps.2
  have w1 : IntKind.i64.wrap ((ps.length : Int) - i) = (ps.length : Int) - i:=wrap64 (by omega) (by omega)
  have w2 : IntKind.i64.wrap ((ps.length : Int) - i - 1) = (ps.length : Int) - i - 1:=wrap64 (by omega) (by omega)
  have w3 : IntKind.i64.wrap (i + 1) = i + 1:=wrap64 (by omega) (by omega)
  rw [w1,w2]
  refine (Kk hk.1 (by omega) (by omega)).bind fun q hq=>?_
  have w4 : IntKind.i64.wrap (i + 1 + q.1) = i + 1 + q.1:=wrap64 (by omega) (by omega)
  refine Hs.loop (fun s=>okC ⟨s.1,s.2.1⟩ ∧ (s.2.2.1.length : Int) ≤ s.2.2.2 ∧ 0 ≤ s.2.2.2 ∧ s.2.2.2 ≤ 3 ∧ ∀ x ∈ s.2.2.1,KV f.Slots f.Params i ps T x) (fun s=>(3 - s.2.2.2).toNat) ⟨hq.1,by simp,by simp,by simp,by simp⟩ ?_
  rintro ⟨l,a,out,n⟩ ⟨hc,ho,hn0,hn3,hall⟩
  simp only at hc ho hn0 hn3 hall
  unfold Pj
  simp only [w3,w4]
  refine (Hs.ix (by omega) (by omega) fun x hx=>hps.1 x (List.mem_of_getElem? hx)).bind fun x hx=>.dec (fun hlt=>?_) fun hlt=>.lft ?_
  ·have w5 : IntKind.i64.wrap (n + 1) = n + 1:=wrap64 (by omega) (by omega)
   refine (Kk hc (by omega) (by omega)).bind fun u hu=>.dec (fun _=>?_) fun _=>?_
   ·refine (Kk hu.1 (by omega) (by omega)).bind fun v hv=>.chk (by simp; omega) (.cnt ⟨⟨hv.1,by simp only [w5,List.length_append,List.length_singleton]; omega,by simp only [w5]; omega,by simp only [w5]; omega,?_⟩,by simp only [w5]; omega⟩)
    intro y hy
    rcases List.mem_append.1 hy with h2 | h2
    ·exact hall y h2
    ·rw [List.mem_singleton] at h2; subst h2
     exact .arg _ _ hn0 (by omega) hv.2
   ·exact .cnt ⟨⟨hu.1,by simp only [w5]; omega,by simp only [w5]; omega,by simp only [w5]; omega,hall⟩,by simp only [w5]; omega⟩
  ·refine .chk (by simp; omega) (.pure ⟨hc,by simp only [List.length_append,List.length_singleton]; omega,?_⟩)
   intro y hy
   rcases List.mem_append.1 hy with h2 | h2
   ·exact hall y h2
   ·rw [List.mem_singleton] at h2; subst h2
    exact .call _ (by omega) (by omega)
 have j5 : ∀ b,(b = true → 0 < f.Params) → Hs (MB k f r ps i b) fun p=>okC p.2 ∧ p.1.length ≤ 4 ∧ ∀ x ∈ p.1,KV f.Slots f.Params i ps T x:=by
  intro b hb
  unfold MB
  refine .cond (fun hb'=>?_) fun _=>.dec (fun _=>j6 _ fun hd=>?_) fun _=>j6 _ fun hd=>(by cases hd)
  ·have:=hb hb'
   exact (Kk hk.1 (by omega) (by omega)).bind fun u hu=>one hu.1 (.param _ _ hreg hu.2.1 hu.2.2)
  ·have hlen:=hps.2
   have:=of_decide_eq_true hd
   rw [wrap64 (by omega) (by omega)] at this
   exact this
 have j4 : ∀ b,(b = true → 0 < f.Slots.length) → Hs (MA k f r ps i b) fun p=>okC p.2 ∧ p.1.length ≤ 4 ∧ ∀ x ∈ p.1,KV f.Slots f.Params i ps T x:=by
  intro b hb
  unfold MA
  refine .cond (fun hb'=>?_) fun _=>.dec (fun _=>?_) fun _=>.dec (fun _=>?_) fun _=>.dec (fun _=>one hk.1 (.out _ hreg)) fun _=>.beq (fun _=>?_) fun _=>.beq (fun _=>j5 _ fun hd=>of_decide_eq_true hd) fun _=>j5 _ fun hd=>(by cases hd)
  ·have:=hb hb'
   exact (Kk hk.1 (by omega) (by omega)).bind fun u hu=>(AfM hu.1 hu.2.1 hu.2.2 hf).bind fun v hv=>one hv.1 (.move _ _ hv.2 hu.2.1 hu.2.2)
  ·exact (Acw hk.1).bind fun u hu=>one hu.1 (.const _ _ hreg hu.2)
  ·refine (Kk hk.1 (by omega) (by omega)).bind fun u hu=>(Kk hu.1 (by omega) (by omega)).bind fun v hv=>(Kk hv.1 (by omega) (by omega)).bind fun z hz=>one hz.1 ?_
   rw [wrap64 (by omega) (by omega)]
   exact .bin _ _ _ _ (by omega) (by omega) hreg hv.2 hz.2.1 hz.2.2
  ·refine (Kk hk.1 (by omega) (by omega)).bind fun u hu=>.chk (by simp; omega) ?_
   refine (Hs.get hu.2.1 (by simp; omega) fun x hx=>List.mem_of_getElem? hx).bind fun x hx=>one hu.1 (.un _ _ (by simpa using hx) hreg)
 have j3 : ∀ b,(b = true → 0 < f.Slots.length) → Hs (Mz k f r ps i b) fun p=>okC p.2 ∧ p.1.length ≤ 4 ∧ ∀ x ∈ p.1,KV f.Slots f.Params i ps T x:=by
  intro b hb
  unfold Mz
  refine .cond (fun hb'=>?_) fun _=>.dec (fun _=>j4 _ fun hd=>by have:=of_decide_eq_true hd; omega) fun _=>j4 _ fun hd=>(by cases hd)
  have:=hb hb'
  exact (Kk hk.1 (by omega) (by omega)).bind fun u hu=>one hu.1 (.load _ _ hreg hu.2.1 hu.2.2)
 have j2 : ∀ b,(b = true → 0 < f.Slots.length) → Hs (My k f r ps i b) fun p=>okC p.2 ∧ p.1.length ≤ 4 ∧ ∀ x ∈ p.1,KV f.Slots f.Params i ps T x:=by
  intro b hb
  unfold My
  refine .cond (fun hb'=>?_) fun _=>.dec (fun _=>j3 _ fun hd=>by have:=of_decide_eq_true hd; omega) fun _=>j3 _ fun hd=>(by cases hd)
  have:=hb hb'
  exact (Kk hk.1 (by omega) (by omega)).bind fun u hu=>one hu.1 (.store _ _ hu.2.1 hu.2.2 hreg)
 exact .dec (fun _=>j2 _ fun hd=>by have:=of_decide_eq_true hd; omega) fun _=>j2 _ fun hd=>(by cases hd)
theorem KV.mono {sl : List Ko} {np i : Int} {ps : List Int} {T T' : Int → Prop} {x : JK} (h : KV sl np i ps T x) (hT : ∀ t,T t → T' t) : KV sl np i ps T' x:=by
 cases h with
 | store a b h1 h2 h3=>exact .store a b h1 h2 h3
 | load a b h1 h2 h3=>exact .load a b h1 h2 h3
 | move a b h1 h2 h3=>exact .move a b h1 h2 h3
 | const a w h1 h2=>exact .const a w h1 h2
 | bin op a b c h1 h2 h3 h4 h5 h6=>exact .bin op a b c h1 h2 h3 h4 h5 h6
 | out a h1=>exact .out a h1
 | un op a h1 h2=>exact .un op a h1 h2
 | param a b h1 h2 h3=>exact .param a b h1 h2 h3
 | arg a b h1 h2 h3=>exact .arg a b h1 h2 h3
 | call j h1 h2=>exact .call j h1 h2
 | jump t h1=>exact .jump t (hT t h1)
 | branch a t h1 h2=>exact .branch a t h1 (hT t h2)
def YG (x : JK) : Prop:=x = ⟨23,0,0,0,0⟩ ∨ ∃ w,W64 w ∧ x = ⟨24,0,0,0,w⟩
def UP (x : JK) (t : Int) : JK :=
 if x.Op = 20 ∧ x.A < 0 then ⟨x.Op,t,x.B,x.C,x.Imm⟩ else if x.Op = 21 ∧ x.B < 0 then ⟨x.Op,x.A,t,x.C,x.Imm⟩ else x
theorem YG.fix {x : JK} (h : YG x) (t : Int) : UP x t = x:=by
 rcases h with rfl | ⟨w,_,rfl⟩ <;> simp [UP]
theorem KV.fix {sl : List Ko} {np i : Int} {ps : List Int} {T : Int → Prop} {x : JK} (h : KV sl np i ps (· = -1) x) {t : Int} (ht : T t) : KV sl np i ps T (UP x t):=by
 cases h with
 | store a b h1 h2 h3=>exact .store a b h1 h2 h3
 | load a b h1 h2 h3=>exact .load a b h1 h2 h3
 | move a b h1 h2 h3=>exact .move a b h1 h2 h3
 | const a w h1 h2=>exact .const a w h1 h2
 | bin op a b c h1 h2 h3 h4 h5 h6 =>
  have : UP ⟨op,a,b,c,0⟩ t = ⟨op,a,b,c,0⟩:=by simp [UP,show op ≠ 20 by omega,show op ≠ 21 by omega]
  rw [this]
  exact .bin op a b c h1 h2 h3 h4 h5 h6
 | out a h1=>exact .out a h1
 | un op a h1 h2 =>
  have : UP ⟨op,a,0,0,0⟩ t = ⟨op,a,0,0,0⟩:=by simp [UP,show op ≠ 20 by omega,show op ≠ 21 by omega]
  rw [this]
  exact .un op a h1 h2
 | param a b h1 h2 h3=>exact .param a b h1 h2 h3
 | arg a b h1 h2 h3=>exact .arg a b h1 h2 h3
 | call j h1 h2=>exact .call j h1 h2
 | jump q h1=>subst h1; exact .jump t ht
 | branch a q h1 h2=>subst h2; exact .branch a t h1 ht
theorem Aip {code : List JK} {k : Nat} {x : JK} (h : code[k]? = some x) (r : Int × JJ) (t : Int) : KU (k : Int) code r t = some (.inl (r.2.list,r.2.at_,code.set k (UP x t),IntKind.i64.wrap ((k : Int) + 1))):=by
 obtain ⟨hl,hx⟩:=List.getElem?_eq_some_iff.1 h
 have hset : code.set k x = code:=by rw [← hx]; exact List.set_getElem_self hl
 obtain ⟨op,a,b,c,w⟩:=x
 unfold KU Mn
 by_cases h20 : op = 20
 ·subst h20
  by_cases ha : a < 0
  ·simp [Lb,hl,hx,UP,ha]
  ·simp [Lb,hl,hx,UP,ha,hset]
 ·by_cases h21 : op = 21
  ·subst h21
   by_cases hb : b < 0
   ·simp [Lb,hl,hx,UP,hb]
   ·simp [Lb,hl,hx,UP,hb,hset]
  ·have e20 : (op == 20) = false:=by simpa using h20
   have e21 : (op == 21) = false:=by simpa using h21
   simp [Lb,hl,hx,UP,e20,e21,h20,h21,hset]
structure TP (ps : List Int) (i most : Int) (f : JN) : Prop where
 par : ps[i.toNat]? = some f.Params
 slots : f.Slots.length ≤ 6
 slot : ∀ s ∈ f.Slots,Yj s
 len : 1 ≤ f.Code.length
 len' : (f.Code.length : Int) ≤ 7 + 5 * most
 body : ∀ (k : Nat) x,f.Code[k]? = some x → k + 1 < f.Code.length → KV f.Slots f.Params i ps (fun t=>0 ≤ t ∧ t < f.Code.length) x
 last : ∀ x,f.Code[f.Code.length - 1]? = some x → YG x
theorem Aii {l : List Int} {a : Int} (h : okC ⟨l,a⟩) {sl : List Ko} {np i : Int} {ps : List Int} {most : Int} {code : List JK} (hpar : ps[i.toNat]? = some np) (hsl : sl.length ≤ 6) (hsl' : ∀ s ∈ sl,Yj s)
  (hlen : 1 ≤ code.length) (hlen' : (code.length : Int) ≤ 7 + 5 * most) (hm : most ≤ 1000) (hb : ∀ (k : Nat) x,code[k]? = some x → k + 1 < code.length → KV sl np i ps (· = -1) x) (he : ∀ x,code[code.length - 1]? = some x → YG x) :
  Hs (Kv (fun s : List Int × Int × List JK × Int=>Mm np sl s.1 s.2.1 s.2.2.1 s.2.2.2) (l,a,code,0)) fun p=>okC p.2 ∧ TP ps i most p.1:=by
 refine Hs.loop (fun s=>okC ⟨s.1,s.2.1⟩ ∧ s.2.2.1.length = code.length ∧ ∃ k : Nat,s.2.2.2 = (k : Int) ∧ k ≤ code.length ∧ (∀ x,s.2.2.1[code.length - 1]? = some x → YG x) ∧
  ∀ (j : Nat) x,s.2.2.1[j]? = some x → j + 1 < code.length → KV sl np i ps (fun t=>if j < k then 0 ≤ t ∧ t < code.length else t = -1) x) (fun s=>code.length - s.2.2.2.toNat) ⟨h,rfl,0,rfl,Nat.zero_le _,he,fun j x hj hj'=>(hb j x hj hj').mono fun t ht=>by simpa using ht⟩ ?_
 rintro ⟨l,a,code',k⟩ ⟨hc,hl,k,rfl,hk,he',hall⟩
 simp only at hc hl he' hall
 unfold Mm
 refine .dec (fun hlt=>?_) fun hlt=>?_
 ·have hlt : k < code.length:=by rw [← hl]; exact Int.ofNat_lt.1 hlt
  have w:=Kt (show k < 9223372036854775807 by omega)
  have hx : code'[k]? = some (code'[k]'(by omega)):=List.getElem?_eq_getElem _
  generalize code'[k]'(by omega) = x at hx
  have step : ∀ (r : Int × JJ) (t : Int),okC r.2 → 0 ≤ t → t < code.length → Hs (KU (k : Int) code' r t) (Rnd (fun s : List Int × Int × List JK × Int=>okC ⟨s.1,s.2.1⟩ ∧ s.2.2.1.length = code.length ∧ ∃ k : Nat,s.2.2.2 = (k : Int) ∧ k ≤ code.length ∧ (∀ x,s.2.2.1[code.length - 1]? = some x → YG x) ∧
    ∀ (j : Nat) x,s.2.2.1[j]? = some x → j + 1 < code.length → KV sl np i ps (fun t=>if j < k then 0 ≤ t ∧ t < code.length else t = -1) x) (fun s=>code.length - s.2.2.2.toNat) (l,a,code',(k : Int)) (fun p : JN × JJ=>okC p.2 ∧ TP ps i most p.1)):=by
   intro r t hr ht0 ht1
   rw [Aip hx]
   refine .pure ⟨⟨hr,by simp [hl],k + 1,w,hlt,?_,?_⟩,by simp only [w]; omega⟩
   ·intro y hy
    simp only at hy
    by_cases e : k = code.length - 1
    ·rw [← e,List.getElem?_set_self (by omega)] at hy
     obtain rfl:=Option.some.inj hy
     have hex:=he' x (by rw [← e]; exact hx)
     rw [hex.fix]; exact hex
    ·rw [List.getElem?_set_ne e] at hy
     exact he' y hy
   ·intro j y hy hj
    simp only at hy
    by_cases e : k = j
    ·subst e
     rw [List.getElem?_set_self (by omega)] at hy
     obtain rfl:=Option.some.inj hy
     exact ((hall k x hx hj).mono fun t ht=>by simpa using ht).fix (by rw [if_pos (by omega)]; exact ⟨ht0,ht1⟩)
    ·rw [List.getElem?_set_ne e] at hy
     refine (hall j y hy hj).mono fun t ht=>?_
     by_cases e2 : j < k
     ·rw [if_pos e2] at ht; rw [if_pos (by omega)]; exact ht
     ·rw [if_neg e2] at ht; rw [if_neg (by omega)]; exact ht
  refine (Kk hc (by omega) (by omega)).bind fun r hr=>?_
  have w1 : IntKind.i64.wrap ((k : Int) + r.1) = (k : Int) + r.1:=wrap64 (by omega) (by omega)
  have w2 : IntKind.i64.wrap ((k : Int) + r.1 - 2) = (k : Int) + r.1 - 2:=wrap64 (by omega) (by omega)
  have w3 : IntKind.i64.wrap ((code'.length : Int) - 1) = (code'.length : Int) - 1:=wrap64 (by omega) (by omega)
  simp only [w1,w2,w3]
  exact .dec (fun _=>step r _ hr.1 (by omega) (by omega)) fun _=>.dec (fun _=>step r _ hr.1 (by omega) (by omega)) fun _=>step r _ hr.1 (by omega) (by omega)
 ·have hlt : ¬ k < code'.length:=fun h=>hlt (Int.ofNat_lt.2 h)
  have hkl : k = code.length:=by omega
  refine .lft (.pure ⟨hc,hpar,hsl,hsl',by simp only; omega,by simp only; omega,?_,?_⟩)
  ·intro j x hj hj'
   simp only at hj hj' ⊢
   rw [hl] at hj' ⊢
   refine (hall j x hj hj').mono fun t ht=>?_
   rw [if_pos (by omega)] at ht
   exact ht
  ·intro x hx
   simp only at hx
   rw [hl] at hx
   exact he' x hx
theorem AeW {l : List Int} {a : Int} (h : okC ⟨l,a⟩) {sl : List Ko} {np i : Int} {ps : List Int} {most : Int} {code : List JK} (hpar : ps[i.toNat]? = some np) (hsl : sl.length ≤ 6) (hsl' : ∀ s ∈ sl,Yj s)
  (hlen : (code.length : Int) ≤ 6 + 5 * most) (hm : most ≤ 1000) (hb : ∀ x ∈ code,KV sl np i ps (· = -1) x) {e1 e2 : Int} (he : YG ⟨e1,0,0,0,e2⟩) :
  Hs (LF code np sl l a e1 e2) fun p=>okC p.2 ∧ TP ps i most p.1:=by
 unfold LF
 refine .chk (by simp; omega) (Aii h hpar hsl hsl' (by simp) (by simp; omega) hm ?_ ?_)
 ·intro k x hx hk
  simp only [List.length_append,List.length_singleton] at hk
  rw [List.getElem?_append_left (by omega)] at hx
  exact hb x (List.mem_of_getElem? hx)
 ·intro x hx
  simp at hx
  subst hx
  exact he
theorem Acn {c : JJ} (h : okC c) {i : Int} {ps : List Int} {most : Int} (hi : 0 ≤ i) (hi' : i < ps.length) (hps : Abz ps) (hm0 : 0 ≤ most) (hm : most ≤ 1000) :
  Hs (Mj c i ps most) fun p=>okC p.2 ∧ TP ps i most p.1:=by
 unfold Mj
 refine (Hs.ix hi hi' fun x hx=>hx).bind fun np hnp=>(AeP h (by omega) (by omega)).bind fun sl hsl=>?_
 obtain ⟨hc0,hsl1,hsl2⟩:=hsl
 have hnp4:=hps.1 np (List.mem_of_getElem? hnp)
 refine Hs.loop (fun s=>okC ⟨s.1,s.2.1⟩ ∧ 0 ≤ s.2.2.2 ∧ s.2.2.2 ≤ sl.1.length ∧ (s.2.2.1.length : Int) ≤ s.2.2.2 ∧ ∀ x ∈ s.2.2.1,KV sl.1 np i ps (· = -1) x) (fun s=>sl.1.length - s.2.2.2.toNat) ⟨hc0,by simp,by simp,by simp,by simp⟩ ?_
 rintro ⟨l,a,code,s⟩ ⟨hc,hs0,hs1,hcl,hall⟩
 simp only at hc hs0 hs1 hcl hall
 unfold NA
 refine .dec (fun hlt=>?_) fun hlt=>?_
 ·have hlt : s < sl.1.length:=hlt
  have w : IntKind.i64.wrap (s + 1) = s + 1:=wrap64 (by omega) (by omega)
  refine (Kk hc (by omega) (by omega)).bind fun r hr=>.dec (fun _=>?_) fun _=>?_
  ·refine (Kk hr.1 (by omega) (by omega)).bind fun q hq=>.chk (by simp; omega) (.cnt ⟨⟨hq.1,by simp only [w]; omega,by simp only [w]; omega,by simp only [w,List.length_append,List.length_singleton]; omega,?_⟩,by simp only [w]; omega⟩)
   intro y hy
   rcases List.mem_append.1 hy with h2 | h2
   ·exact hall y h2
   ·rw [List.mem_singleton] at h2; subst h2
    exact .store _ _ hs0 hlt hq.2
  ·exact .cnt ⟨⟨hr.1,by simp only [w]; omega,by simp only [w]; omega,by simp only [w]; omega,hall⟩,by simp only [w]; omega⟩
 ·have w : IntKind.i64.wrap (most + 1) = most + 1:=wrap64 (by omega) (by omega)
  rw [w]
  refine .lft ((Kk hc (by omega) (by omega)).bind fun r hr=>?_)
  refine Hs.loop (fun s=>okC ⟨s.1,s.2.1⟩ ∧ s.2.2.2.1 = sl.1 ∧ 0 ≤ s.2.2.2.2 ∧ s.2.2.2.2 ≤ most ∧ (s.2.2.1.length : Int) ≤ 6 + 5 * (most - s.2.2.2.2) ∧ ∀ x ∈ s.2.2.1,KV sl.1 np i ps (· = -1) x) (fun s=>s.2.2.2.2.toNat) ⟨hr.1,rfl,hr.2.1,by simp only; omega,by simp only; omega,hall⟩ ?_
  rintro ⟨l,a,code,sl',n⟩ ⟨hc,rfl,hn0,hn1,hcl,hall⟩
  simp only at hc hn0 hn1 hcl hall
  unfold NB
  refine .dec (fun hlt=>?_) fun hlt=>.lft ?_
  ·have hlt : 0 < n:=hlt
   have w : IntKind.i64.wrap (n - 1) = n - 1:=wrap64 (by omega) (by omega)
   refine (AeZ hc (· = -1) (by simp only; omega) hnp4.2 hi hi' hps).bind fun b hb=>.chk (by simp; omega) ?_
   have hall2 : ∀ x ∈ code ++ b.1,KV sl.1 np i ps (· = -1) x:=by
    intro y hy
    rcases List.mem_append.1 hy with h2 | h2
    ·exact hall y h2
    ·exact hb.2.2 y h2
   have hall3 : ∀ x,KV sl.1 np i ps (· = -1) x → ∀ y ∈ (code ++ b.1) ++ [x],KV sl.1 np i ps (· = -1) y:=by
    intro x hx y hy
    rcases List.mem_append.1 hy with h2 | h2
    ·exact hall2 y h2
    ·rw [List.mem_singleton] at h2; subst h2; exact hx
   have hbl:=hb.2.1
   refine (Kk hb.1 (by omega) (by omega)).bind fun r hr=>.beq (fun _=>?_) fun _=>.beq (fun _=>?_) fun _=>?_
   ·refine (Kk hr.1 (by omega) (by omega)).bind fun q hq=>.chk (by simp; omega) (.cnt ⟨⟨hq.1,rfl,by simp only [w]; omega,by simp only [w]; omega,by simp only [w,List.length_append,List.length_singleton]; omega,hall3 _ (.branch _ _ hq.2 rfl)⟩,by simp only [w]; omega⟩)
   ·refine (Kk hr.1 (by omega) (by omega)).bind fun q hq=>.beq (fun _=>?_) fun _=>?_
    ·exact .chk (by simp; omega) (.cnt ⟨⟨hq.1,rfl,by simp only [w]; omega,by simp only [w]; omega,by simp only [w,List.length_append,List.length_singleton]; omega,hall3 _ (.jump _ rfl)⟩,by simp only [w]; omega⟩)
    ·exact .cnt ⟨⟨hq.1,rfl,by simp only [w]; omega,by simp only [w]; omega,by simp only [w,List.length_append]; omega,hall2⟩,by simp only [w]; omega⟩
   ·exact .cnt ⟨⟨hr.1,rfl,by simp only [w]; omega,by simp only [w]; omega,by simp only [w,List.length_append]; omega,hall2⟩,by simp only [w]; omega⟩
  ·refine (Kk hc (by omega) (by omega)).bind fun r hr=>.beq (fun _=>?_) fun _=>?_
   ·exact (Acw hr.1).bind fun q hq=>AeW hq.1 hnp (by omega) hsl2 (by omega) hm hall (.inr ⟨_,hq.2,rfl⟩)
   ·exact AeW hr.1 hnp (by omega) hsl2 (by omega) hm hall (.inl rfl)
def Agb (funcs most : Int) (p : NZ) : Prop :=
 ∃ ps,Abz ps ∧ ps[0]? = some 0 ∧ 1 ≤ ps.length ∧ (ps.length : Int) ≤ funcs ∧ p.Funcs.length = ps.length ∧ ∀ (j : Nat) f,p.Funcs[j]? = some f → TP ps j most f
theorem AcS {c : JJ} (h : okC c) {funcs most : Int} (hf : 1 ≤ funcs) (hf' : funcs ≤ 1000) (hm0 : 0 ≤ most) (hm : most ≤ 1000) :
  Hs (Mx c funcs most) fun p=>okC p.2 ∧ Agb funcs most p.1:=by
 unfold Mx
 refine (Kk h hf (by omega)).bind fun r hr=>?_
 refine Hs.loop (fun s=>okC ⟨s.1,s.2.1⟩ ∧ (∀ v ∈ s.2.2.1,0 ≤ v ∧ v < 4) ∧ s.2.2.1[0]? = some 0 ∧ 0 ≤ s.2.2.2 ∧ (s.2.2.1.length : Int) + s.2.2.2 ≤ funcs) (fun s=>s.2.2.2.toNat) ⟨hr.1,by simp,by simp,hr.2.1,by simp; omega⟩ ?_
 rintro ⟨l,a,ps,n⟩ ⟨hc,hv,hz,hn0,hn1⟩
 simp only at hc hv hz hn0 hn1
 have hp1 : 1 ≤ ps.length:=by have:=(List.getElem?_eq_some_iff.1 hz).1; omega
 unfold NP
 refine .dec (fun hlt=>?_) fun hlt=>.lft ?_
 ·have hlt : 0 < n:=hlt
  have w : IntKind.i64.wrap (n - 1) = n - 1:=wrap64 (by omega) (by omega)
  refine (Kk hc (by omega) (by omega)).bind fun q hq=>.chk (by simp; omega) (.cnt ⟨⟨hq.1,?_,by simp only; rw [List.getElem?_append_left (by omega)]; exact hz,by simp only [w]; omega,by simp only [w,List.length_append,List.length_singleton]; omega⟩,by simp only [w]; omega⟩)
  intro y hy
  rcases List.mem_append.1 hy with h2 | h2
  ·exact hv y h2
  ·rw [List.mem_singleton] at h2; subst h2; exact hq.2
 ·have hps : Abz ps:=⟨hv,by omega⟩
  refine Hs.loop (fun s=>okC ⟨s.1,s.2.1⟩ ∧ s.2.2.2.2 = ps ∧ ∃ i : Nat,s.2.2.2.1 = (i : Int) ∧ i ≤ ps.length ∧ s.2.2.1.length = i ∧ ∀ (j : Nat) f,s.2.2.1[j]? = some f → TP ps j most f) (fun s=>ps.length - s.2.2.2.1.toNat) ⟨hc,rfl,0,rfl,Nat.zero_le _,rfl,fun j f hj=>by simp at hj⟩ ?_
  rintro ⟨l,a,fs,i',ps'⟩ ⟨hc,hpe,i,hie,hi,hfl,hall⟩
  simp only at hc hpe hie hi hfl hall
  subst hpe hie
  unfold NQ
  refine .dec (fun hlt=>?_) fun hlt=>.lft (.pure ⟨hc,ps',hps,hz,hp1,by omega,?_,hall⟩)
  ·have hlt : i < ps'.length:=Int.ofNat_lt.1 hlt
   have w:=Kt (show i < 9223372036854775807 by have:=hps.2; omega)
   have hpl:=hps.2
   refine .chk (by simp; omega) ((Acn hc (i:=(i : Int)) (ps:=ps') (by omega) (by omega) hps hm0 hm).bind fun f hf=>.chk (by simp; omega) (.cnt ⟨⟨hf.1,rfl,i + 1,w,hlt,by simp; omega,?_⟩,by simp only [w]; omega⟩))
   intro j g hg
   simp only [List.nil_append] at hg
   by_cases e : j < fs.length
   ·rw [List.getElem?_append_left e] at hg; exact hall j g hg
   ·have hj : j = i:=by
     have:=(List.getElem?_eq_some_iff.1 hg).1
     simp at this; omega
    subst hj
    rw [List.getElem?_append_right (by omega),hfl] at hg
    simp at hg
    subst hg
    exact hf.2
  ·have hlt : ¬ i < ps'.length:=fun h=>hlt (Int.ofNat_lt.2 h)
   simp only; omega
end Go.Proofs.YtcelninhkmhjkaaDoor
namespace Go.Proofs.YtcelninhkmhjkaaDoor
open Go Go.Dw Go.Proofs
attribute [local simp] Lb Bool.cond_eq_ite
def Ll (x : JK) (k : Int) : List Int :=
 if x.Op = 20 then [x.A] else if x.Op = 23 ∨ x.Op = 24 then [] else
 if x.Op = 21 then (if x.B < k + 1 then [x.B,k + 1] else if k + 1 < x.B then [k + 1,x.B] else [k + 1]) else [k + 1]
theorem AbX {f : JN} {k : Nat} {x : JK} (h : f.Code[k]? = some x) (hk : k < 9223372036854775807) : Qs f (k : Int) = some (Ll x k):=by
 obtain ⟨hl,hx⟩:=List.getElem?_eq_some_iff.1 h
 have hnl : ¬ f.Code.length ≤ k:=by omega
 have w : IntKind.i64.wrap ((k : Int) + 1) = (k : Int) + 1:=wrap64 (by omega) (by omega)
 unfold Qs Tg Ll
 obtain ⟨op,a,b,c,i⟩:=x
 by_cases h20 : op = 20
 ·subst h20; simp [hx,hl,hnl,show ¬ (k : Int) < 0 by omega]
 ·have e20 : (op == 20) = false:=by simpa using h20
  by_cases h23 : op = 23
  ·subst h23; simp [hx,hl,hnl,show ¬ (k : Int) < 0 by omega,LZ]
  ·have e23 : (op == 23) = false:=by simpa using h23
   by_cases h24 : op = 24
   ·subst h24; simp [hx,hl,hnl,show ¬ (k : Int) < 0 by omega,LZ]
   ·have e24 : (op == 24) = false:=by simpa using h24
    by_cases h21 : op = 21
    ·subst h21
     by_cases hb : b < (k : Int) + 1
     ·simp [hx,hl,hnl,show ¬ (k : Int) < 0 by omega,LZ,w,hb]
     ·by_cases hb' : (k : Int) + 1 < b
      ·simp [hx,hl,hnl,show ¬ (k : Int) < 0 by omega,LZ,w,hb,hb']
      ·simp [hx,hl,hnl,show ¬ (k : Int) < 0 by omega,LZ,w,hb,hb']
    ·have e21 : (op == 21) = false:=by simpa using h21
     simp [hx,hl,hnl,show ¬ (k : Int) < 0 by omega,LZ,w,h20,h23,h24,h21]
def Me (x : JK) : List Int:=if x.Op = 15 ∨ x.Op = 17 then [x.B] else []
structure KH (f : JN) : Prop where
 len : 1 ≤ f.Code.length
 len' : f.Code.length ≤ 10000
 slots : f.Slots.length ≤ 500
 next : ∀ (k : Nat) x,f.Code[k]? = some x → ∀ j ∈ Ll x k,0 ≤ j ∧ j < f.Code.length
 uses : ∀ x ∈ f.Code,∀ v ∈ Me x,0 ≤ v ∧ v < f.Slots.length
theorem TP.Aij {ps : List Int} {i most : Int} {f : JN} (h : TP ps i most f) (hm : most ≤ 1000) : KH f:=by
 have hl:=h.len
 have hl':=h.len'
 have hs:=h.slots
 refine ⟨hl,by omega,by omega,fun k x hx j hj=>?_,fun x hx v hv=>?_⟩
 ·have hkl:=(List.getElem?_eq_some_iff.1 hx).1
  by_cases hk : k + 1 < f.Code.length
  ·have hins:=h.body k x hx hk
   cases hins with
   | jump t h1=>simp [Ll] at hj; subst hj; exact h1
   | branch a t h0 h1 =>
    simp [Ll] at hj
    have : j = t ∨ j = (k : Int) + 1:=by
     split at hj
     ·simpa using hj
     ·split at hj
      ·simp at hj; omega
      ·simp at hj; omega
    rcases this with rfl | rfl <;> omega
   | bin op a b c h1 h2 h3 h4 h5 h6 =>
    simp [Ll,show op ≠ 20 by omega,show op ≠ 23 by omega,show op ≠ 24 by omega,show op ≠ 21 by omega] at hj
    subst hj; omega
   | un op a h1 h2 =>
    simp [Ll,show op ≠ 20 by omega,show op ≠ 23 by omega,show op ≠ 24 by omega,show op ≠ 21 by omega] at hj
    subst hj; omega
   | _=>simp [Ll] at hj; subst hj; omega
  ·have he:=h.last x (by rw [show f.Code.length - 1 = k by omega]; exact hx)
   rcases he with rfl | ⟨w,_,rfl⟩ <;> simp [Ll] at hj
 ·obtain ⟨k,hk⟩:=List.getElem?_of_mem hx
  have hkl:=(List.getElem?_eq_some_iff.1 hk).1
  by_cases hk1 : k + 1 < f.Code.length
  ·have hins:=h.body k x hk hk1
   cases hins with
   | load a b h0 h1 h2=>simp [Me] at hv; subst hv; exact ⟨h1,h2⟩
   | move a b h0 h1 h2=>simp [Me] at hv; subst hv; exact ⟨h1,h2⟩
   | bin op a b c h1 h2 h3 h4 h5 h6=>simp [Me,show op ≠ 15 by omega,show op ≠ 17 by omega] at hv
   | un op a h1 h2=>simp [Me,show op ≠ 15 by omega,show op ≠ 17 by omega] at hv
   | _=>simp [Me] at hv
  ·have he:=h.last x (by rw [show f.Code.length - 1 = k by omega]; exact hk)
   rcases he with rfl | ⟨w,_,rfl⟩ <;> simp [Me] at hv
end Go.Proofs.YtcelninhkmhjkaaDoor
namespace Go.Proofs.YtcelninhkmhjkaaDoor
open Go Go.Dw Go.Proofs
attribute [local simp] Lb Bool.cond_eq_ite
def Ky (n : Int) (s : List Int) : Prop:=KA s ∧ ∀ x ∈ s,x < n
theorem Ky.nil (n : Int) : Ky n []:=⟨KA.nil,fun x hx=>by cases hx⟩
theorem Ky.add {n m : Int} {s : List Int} (h : Ky n s) (hm : 0 ≤ m ∧ m < n) (hn : n ≤ 512) : Ky n (QN m s) ∧ Pq s m = some (QN m s):=by
 have hl:=h.1.length_le
 refine ⟨?_,add_eq s m (by omega)⟩
 unfold QN
 rw [if_pos (by omega)]
 refine ⟨h.1.OO (by omega),fun x hx=>?_⟩
 rw [UR] at hx
 rcases hx with rfl | hx
 ·exact hm.2
 ·exact h.2 x hx
def RowsIn (n : Int) (g : List (List Int)) : Prop:=∀ s ∈ g,Ky n s
theorem RowsIn.set {n : Int} {g : List (List Int)} (h : RowsIn n g) {i : Nat} {s : List Int} (hs : Ky n s) : RowsIn n (g.set i s):=by
 intro x hx
 rcases List.mem_or_eq_of_mem_set hx with h1 | rfl
 ·exact h x h1
 ·exact hs
end Go.Proofs.YtcelninhkmhjkaaDoor
namespace Go.Proofs.YtcelninhkmhjkaaDoor
open Go Go.Dw Go.Proofs
attribute [local simp] Lb Bool.cond_eq_ite
def inN (x : JK) (s : List Int) : List Int:=LL (if x.Op = 16 ∨ x.Op = 17 then s.filter (· != x.A) else s) (Me x)
theorem AeV (x : JK) (s : List Int) (h : s.length ≤ 900000) : Tw x s = some (inN x s):=by
 obtain ⟨op,a,b,c,i⟩:=x
 have hu : Qt ⟨op,a,b,c,i⟩ = some (Me ⟨op,a,b,c,i⟩):=by
  unfold Qt Me
  by_cases h15 : op = 15
  ·simp [h15]
  ·have e15 : (op == 15) = false:=by simpa using h15
   by_cases h17 : op = 17
   ·simp [h17]
   ·have e17 : (op == 17) = false:=by simpa using h17
    simp [h15,e15,h17,e17]
 have hul : (Me ⟨op,a,b,c,i⟩).length ≤ 1:=by unfold Me; split <;> simp
 have hfl : (s.filter (· != a)).length ≤ s.length:=List.length_filter_le ..
 have hr:=ZU s a (by omega)
 have hu1:=union_eq (s.filter (· != a)) (Me ⟨op,a,b,c,i⟩) (by omega)
 have hu2:=union_eq s (Me ⟨op,a,b,c,i⟩) (by omega)
 unfold Tw QA Pr inN
 by_cases h16 : op = 16
 ·subst h16; simp [hr,hu,hu1]
 ·have e16 : (op == 16) = false:=by simpa using h16
  by_cases h17 : op = 17
  ·subst h17; simp [hr,hu,hu1]
  ·have e17 : (op == 17) = false:=by simpa using h17
   simp [h16,e16,h17,e17,hu,hu2]
theorem TH {f : JN} (hf : KH f) {x : JK} (hx : x ∈ f.Code) {s : List Int} (hs : Ky f.Slots.length s) :
  Ky f.Slots.length (inN x s) ∧ ∀ v,v ∈ inN x s ↔ (v ∈ s ∧ ¬ ((x.Op = 16 ∨ x.Op = 17) ∧ x.A = v)) ∨ v ∈ Me x:=by
 have hsl:=hf.slots
 have h0 : Ky f.Slots.length (if x.Op = 16 ∨ x.Op = 17 then s.filter (· != x.A) else s):=by
  split
  ·exact ⟨hs.1.filter _,fun v hv=>hs.2 v (List.mem_filter.1 hv).1⟩
  ·exact hs
 obtain ⟨h1,h2⟩:=Qx (n:=f.Slots.length) (by omega) (b:=Me x) h0 (hf.uses x hx)
 refine ⟨h1,fun v=>?_⟩
 unfold inN
 rw [h2]
 by_cases hd : x.Op = 16 ∨ x.Op = 17
 ·simp only [hd,if_true,List.mem_filter,true_and]
  constructor
  ·rintro (⟨h3,h4⟩ | h3)
   ·exact .inl ⟨h3,fun e=>by simp [e] at h4⟩
   ·exact .inr h3
  ·rintro (⟨h3,h4⟩ | h3)
   ·exact .inl ⟨h3,by simpa using fun e : v = x.A=>h4 e.symm⟩
   ·exact .inr h3
 ·simp [hd]
def Kc (f : JN) (j : Int) : JK:=(f.Code[j.toNat]?).getD default
def JW (l : List (List Int)) (j : Int) : List Int:=(l[j.toNat]?).getD []
def QM (f : JN) (l : List (List Int)) (k : Int) : List Int:=(Ll (Kc f k) k).foldl (fun o j=>LL o (inN (Kc f j) (JW l j))) []
def Na (f : JN) (l : List (List Int)) : List (List Int):=(List.range f.Code.length).map fun k=>QM f l (k : Nat)
def LU (f : JN) (l : List (List Int)) : Prop:=l.length = f.Code.length ∧ ∀ s ∈ l,Ky f.Slots.length s
theorem AbO {f : JN} (hf : KH f) {l : List (List Int)} (hl : LU f l) : ∀ {js : List Int} {o : List Int},(∀ j ∈ js,0 ≤ j ∧ j < f.Code.length) → Ky f.Slots.length o →
  Ky f.Slots.length (js.foldl (fun o j=>LL o (inN (Kc f j) (JW l j))) o) ∧ ∀ v,v ∈ js.foldl (fun o j=>LL o (inN (Kc f j) (JW l j))) o ↔ v ∈ o ∨ ∃ j ∈ js,v ∈ inN (Kc f j) (JW l j)
 | [],o,_,ho=>⟨ho,fun v=>by simp⟩
 | j :: js,o,hj,ho=>by
  have hsl:=hf.slots
  have h0:=hj j (List.mem_cons_self ..)
  have hc : Kc f j ∈ f.Code:=by
   unfold Kc
   rw [List.getElem?_eq_getElem (show j.toNat < f.Code.length by omega)]
   exact List.getElem_mem _
  have ho' : Ky f.Slots.length (JW l j):=by
   unfold JW
   rw [List.getElem?_eq_getElem (show j.toNat < l.length by have:=hl.1; omega)]
   exact hl.2 _ (List.getElem_mem _)
  obtain ⟨h1,h2⟩:=TH hf hc ho'
  obtain ⟨h3,h4⟩:=Qx (n:=f.Slots.length) (by omega) (b:=inN (Kc f j) (JW l j)) ho fun x hx=>⟨(h1.1.2 x hx).1,h1.2 x hx⟩
  obtain ⟨h5,h6⟩:=AbO hf hl (fun q hq=>hj q (List.mem_cons_of_mem _ hq)) h3
  refine ⟨h5,fun v=>?_⟩
  simp only [List.foldl_cons]
  rw [h6,h4]
  simp only [List.mem_cons,exists_eq_or_imp,or_assoc]
theorem SX {f : JN} (hf : KH f) {l : List (List Int)} (hl : LU f l) {k : Nat} (hk : k < f.Code.length) :
  Ky f.Slots.length (QM f l k) ∧ ∀ v,v ∈ QM f l k ↔ ∃ j ∈ Ll (Kc f k) k,v ∈ inN (Kc f j) (JW l j):=by
 have hx : f.Code[k]? = some (Kc f k):=by simp [Kc,hk]
 obtain ⟨h1,h2⟩:=AbO hf hl (js:=Ll (Kc f k) k) (hf.next k _ hx) (Ky.nil _)
 exact ⟨h1,fun v=>by unfold QM; rw [h2]; simp⟩
theorem Acd {f : JN} (hf : KH f) {l : List (List Int)} (hl : LU f l) : LU f (Na f l):=by
 refine ⟨by simp [Na],fun s hs=>?_⟩
 obtain ⟨k,hk,rfl⟩:=List.mem_map.1 hs
 exact (SX hf hl (List.mem_range.1 hk)).1
theorem step_eq {f : JN} (hf : KH f) {l : List (List Int)} (hl : LU f l) : Sc f ⟨l⟩ = some ⟨Na f l⟩:=by
 have hlen:=hf.len'
 unfold Sc
 rw [Lb (by omega)]
 have key : Hs (Kv (fun s : List (List Int) × Int=>OV f ⟨l⟩ s.1 s.2) (List.replicate (f.Code.length : Int).toNat ([] : List Int),0)) fun r=>r = ⟨Na f l⟩:=by
  refine Hs.loop (fun s=>s.1.length = f.Code.length ∧ ∃ k : Nat,s.2 = (k : Int) ∧ k ≤ f.Code.length ∧ ∀ (j : Nat) r,s.1[j]? = some r → r = if j < k then QM f l j else []) (fun s=>f.Code.length - s.2.toNat) ⟨by simp,0,rfl,Nat.zero_le _,fun j r hj=>?_⟩ ?_
  ·have:=List.mem_of_getElem? hj
   rw [List.mem_replicate] at this
   simp [this.2]
  rintro ⟨x,k'⟩ ⟨hxl,k,hke,hk,hall⟩
  simp only at hxl hke hall
  subst hke
  by_cases hlt : k < f.Code.length
  ·have w:=Kt (show k < 9223372036854775807 by omega)
   have hx : f.Code[k]? = some (Kc f k):=by simp [Kc,hlt]
   have hxk : x[k]? = some []:=by
    have h1 : x[k]? = some (x[k]'(by omega)):=List.getElem?_eq_getElem _
    have:=hall k _ h1
    rw [h1,this,if_neg (by omega)]
   have hset : x.set k [] = x:=by
    obtain ⟨h1,h2⟩:=List.getElem?_eq_some_iff.1 hxk
    rw [← h2]; exact List.set_getElem_self h1
   have inner:=Nc (body:=fun s : List (List Int) × Int=>OW (Ll (Kc f k) k) k f ⟨l⟩ s.1 s.2) (Ll (Kc f k) k) (fun (o : List Int) i=>(x.set k o,i)) (fun o _=>Ky f.Slots.length o)
    (fun o js=>some (.inl (x.set k (js.foldl (fun o j=>LL o (inN (Kc f j) (JW l j))) o),((k + 1 : Nat) : Int))))
    (fun o _=>⟨_,by simp [OW,Th,w]; rfl,by simp⟩) (fun o i j r ho hd hi hj=>by
     left
     have wi:=Kt (show i < 9223372036854775807 by
      have : (Ll (Kc f k) k).length ≤ 2:=by unfold Ll; (repeat' split) <;> simp
      omega)
     have hjm:=hf.next k _ hx j (List.mem_of_getElem? hj)
     have hjc : f.Code[j.toNat]? = some (Kc f j):=by simp [Kc,show j.toNat < f.Code.length by omega]
     have hjl : j.toNat < l.length:=by have:=hl.1; omega
     have hjo : l[j.toNat]? = some (JW l j):=by simp [JW,hjl]
     have hos : Ky f.Slots.length (JW l j):=hl.2 _ (List.mem_of_getElem? hjo)
     have hsl:=hf.slots
     obtain ⟨g1,g2⟩:=TH hf (List.mem_of_getElem? hjc) hos
     obtain ⟨g3,g4⟩:=Qx (n:=f.Slots.length) (by omega) (b:=inN (Kc f j) (JW l j)) ho fun x hx=>⟨(g1.1.2 x hx).1,g1.2 x hx⟩
     have e1:=AeV (Kc f j) (JW l j) (by have:=hos.1.length_le; omega)
     have e2:=union_eq o (inN (Kc f j) (JW l j)) (by have:=ho.1.length_le; have:=g1.1.length_le; omega)
     obtain ⟨_,hje⟩:=List.getElem?_eq_some_iff.1 hj
     refine ⟨LL o (inN (Kc f j) (JW l j)),g3,?_,by simp⟩
     simp [OW,hi,hje,hxl,hlt,TI _ hjm.1,hjc,hjo,e1,e2,wi]) [] (Ky.nil _)
   simp only [hset] at inner
   refine ⟨.inl (x.set k (QM f l k),((k + 1 : Nat) : Int)),?_,⟨by simpa using hxl,k + 1,rfl,hlt,fun j r hj=>?_⟩,by simp only; omega⟩
   ·simp only [OV,decide_eq_true (Int.ofNat_lt.2 hlt),cond_true,AbX hx (by omega),Option.bind_some]
    exact inner
   ·simp only at hj
    by_cases e : k = j
    ·subst e
     rw [List.getElem?_set_self (by omega)] at hj
     obtain rfl:=Option.some.inj hj
     rw [if_pos (by omega)]
    ·rw [List.getElem?_set_ne e] at hj
     rw [hall j r hj]
     by_cases e2 : j < k
     ·rw [if_pos e2,if_pos (by omega)]
     ·rw [if_neg e2,if_neg (by omega)]
  ·refine ⟨.inr ⟨x⟩,by simp [OV,hlt],?_⟩
   show JP.mk x = ⟨Na f l⟩
   congr 1
   refine List.ext_getElem (by simp [Na,hxl]) fun j h1 h2=>?_
   have:=hall j _ (List.getElem?_eq_getElem h1)
   rw [this,if_pos (by omega)]
   simp [Na]
 obtain ⟨r,h1,rfl⟩:=key
 exact h1
def LE (a b : List (List Int)) : Prop:=∀ (k : Nat) s t,a[k]? = some s → b[k]? = some t → ∀ v ∈ s,v ∈ t
theorem LE.trans {a b c : List (List Int)} (h1 : LE a b) (h2 : LE b c) (hl : a.length = b.length) : LE a c:=by
 intro k s t hs ht v hv
 have hk:=(List.getElem?_eq_some_iff.1 hs).1
 have hb : b[k]? = some (b[k]'(by omega)):=List.getElem?_eq_getElem _
 exact h2 k _ t hb ht v (h1 k s _ hs hb v hv)
theorem Adu : ∀ {a b : List (List Int)},a.length = b.length → (∀ s ∈ a,KA s) → (∀ s ∈ b,KA s) → LE a b → (a.map List.length).sum ≤ (b.map List.length).sum ∧ ((a.map List.length).sum = (b.map List.length).sum → a = b)
 | [],[],_,_,_,_=>⟨Nat.le_refl _,fun _=>rfl⟩
 | [],y :: b,h,_,_,_=>by simp at h
 | x :: a,[],h,_,_,_=>by simp at h
 | x :: a,y :: b,h,ha,hb,hle=>by
  have hsub:=(ha x (List.mem_cons_self ..)).sub (hb y (List.mem_cons_self ..)) (hle 0 x y rfl rfl)
  obtain ⟨h1,h2⟩:=Adu (a:=a) (b:=b) (by simpa using h) (fun s hs=>ha s (List.mem_cons_of_mem _ hs)) (fun s hs=>hb s (List.mem_cons_of_mem _ hs)) fun k s t hs ht=>hle (k + 1) s t (by simpa using hs) (by simpa using ht)
  have hlen:=hsub.length_le
  simp only [List.map_cons,List.sum_cons]
  refine ⟨by omega,fun he=>?_⟩
  rw [h2 (by omega),hsub.eq_of_length (by omega)]
theorem Abo : ∀ {a : List (List Int)},(∀ s ∈ a,KA s) → (a.map List.length).sum ≤ 512 * a.length
 | [],_=>by simp
 | x :: a,ha=>by
  have h1:=(ha x (List.mem_cons_self ..)).length_le
  have h2:=Abo (a:=a) fun s hs=>ha s (List.mem_cons_of_mem _ hs)
  simp only [List.map_cons,List.sum_cons,List.length_cons]
  omega
theorem AbQ {f : JN} (hf : KH f) {x : JK} (hx : x ∈ f.Code) {s t : List Int} (hs : Ky f.Slots.length s) (ht : Ky f.Slots.length t) (h : ∀ v ∈ s,v ∈ t) : ∀ v ∈ inN x s,v ∈ inN x t:=by
 intro v hv
 rw [(TH hf hx hs).2] at hv
 rw [(TH hf hx ht).2]
 rcases hv with ⟨h1,h2⟩ | h1
 ·exact .inl ⟨h v h1,h2⟩
 ·exact .inr h1
theorem Abn {f : JN} (hf : KH f) {a b : List (List Int)} (ha : LU f a) (hb : LU f b) (h : LE a b) : LE (Na f a) (Na f b):=by
 intro k s t hs ht v hv
 have hk : k < f.Code.length:=by have:=(List.getElem?_eq_some_iff.1 hs).1; simpa [Na] using this
 have e1 : s = QM f a k:=by simp [Na,hk] at hs; exact hs.symm
 have e2 : t = QM f b k:=by simp [Na,hk] at ht; exact ht.symm
 subst e1 e2
 rw [(SX hf ha hk).2] at hv
 rw [(SX hf hb hk).2]
 obtain ⟨j,hj,hv⟩:=hv
 have hx : f.Code[k]? = some (Kc f k):=by simp [Kc,hk]
 have hjm:=hf.next k _ hx j hj
 have hjc : f.Code[j.toNat]? = some (Kc f j):=by simp [Kc,show j.toNat < f.Code.length by omega]
 have hja : a[j.toNat]? = some (JW a j):=by simp [JW,show j.toNat < a.length by have:=ha.1; omega]
 have hjb : b[j.toNat]? = some (JW b j):=by simp [JW,show j.toNat < b.length by have:=hb.1; omega]
 exact ⟨j,hj,AbQ hf (List.mem_of_getElem? hjc) (ha.2 _ (List.mem_of_getElem? hja)) (hb.2 _ (List.mem_of_getElem? hjb)) (h _ _ _ hja hjb) v hv⟩
structure AaR (f : JN) (l : List (List Int)) : Prop where
 ok : LU f l
 fix : Na f l = l
 least : ∀ b,LU f b → LE (Na f b) b → LE l b
theorem AeQ {f : JN} (hf : KH f) : Hs (QK f) fun l=>AaR f l.Out:=by
 have hlen:=hf.len'
 unfold QK
 refine .chk (by omega) ?_
 refine Hs.loop (fun l=>LU f l ∧ LE l (Na f l) ∧ ∀ b,LU f b → LE (Na f b) b → LE l b) (fun l=>512 * f.Code.length - (l.map List.length).sum) ⟨⟨by simp,fun s hs=>?_⟩,fun k s t hs ht v hv=>?_,fun b _ _ k s t hs ht v hv=>?_⟩ ?_
 ·rw [List.mem_replicate] at hs; rw [hs.2]; exact Ky.nil _
 ·have:=List.mem_of_getElem? hs; rw [List.mem_replicate] at this; rw [this.2] at hv; cases hv
 ·have:=List.mem_of_getElem? hs; rw [List.mem_replicate] at this; rw [this.2] at hv; cases hv
 ·rintro l ⟨hl,hle,hleast⟩
  have hl':=Acd hf hl
  have e1:=step_eq hf hl
  have e2 : Sa ⟨Na f l⟩ ⟨l⟩ = some (decide (Na f l = l)):=by
   unfold Sa
   rw [AcW _ _ (by have:=hl'.1; simp only; omega) (fun s hs=>by have:=(hl'.2 s hs).1.length_le; omega)]
   rfl
  obtain ⟨s1,s2⟩:=Adu (by rw [hl.1,hl'.1]) (fun s hs=>(hl.2 s hs).1) (fun s hs=>(hl'.2 s hs).1) hle
  have s3:=Abo fun s hs=>(hl'.2 s hs).1
  rw [hl'.1] at s3
  unfold Sb
  rw [e1,Option.bind_some,e2,Option.bind_some]
  by_cases he : Na f l = l
  ·simp only [he,decide_true,cond_true]
   exact .lft (.pure ⟨hl,he,hleast⟩)
  ·simp only [he,decide_false,cond_false]
   refine .cnt ⟨⟨hl',Abn hf hl hl' hle,fun b hb hb'=>(Abn hf hl hb (hleast b hb hb')).trans hb' (by rw [hl'.1,(Acd hf hb).1])⟩,?_⟩
   have : (l.map List.length).sum ≠ ((Na f l).map List.length).sum:=fun e=>he (s2 e).symm
   simp only
   omega
end Go.Proofs.YtcelninhkmhjkaaDoor
namespace Go.Proofs.YtcelninhkmhjkaaDoor
open Go Go.Dw Go.Proofs
attribute [local simp] Lb Bool.cond_eq_ite
theorem AeH (x : JK) : PA x = some (Me x):=by
 obtain ⟨op,a,b,c,i⟩:=x
 unfold PA Me
 by_cases h15 : op = 15
 ·simp [h15]
 ·have e15 : (op == 15) = false:=by simpa using h15
  by_cases h17 : op = 17
  ·simp [h17]
  ·have e17 : (op == 17) = false:=by simpa using h17
   simp [h15,e15,h17,e17]
theorem AfK (x : JK) : Ot x = some (if x.Op = 16 ∨ x.Op = 17 then (x.A,true) else (0,false)):=by
 obtain ⟨op,a,b,c,i⟩:=x
 unfold Ot
 by_cases h16 : op = 16
 ·simp [h16]
 ·have e16 : (op == 16) = false:=by simpa using h16
  by_cases h17 : op = 17
  ·simp [h17]
  ·have e17 : (op == 17) = false:=by simpa using h17
   simp [h16,e16,h17,e17]
theorem AfY (x : JK) : (Me x).length ≤ 1:=by unfold Me; split <;> simp
theorem Adz (x : JK) (hu : ∀ v ∈ Me x,0 ≤ v ∧ v < 512) : LL [] (Me x) = Me x:=by
 unfold Me at hu ⊢
 split
 ·rename_i h
  rw [if_pos h] at hu
  have:=hu x.B (by simp)
  simp [LL,QN,OO,this]
 ·rfl
theorem Adh {x : JK} {s : List Int} (hs : KA s) (hu : ∀ v ∈ Me x,0 ≤ v ∧ v < 512) : RG x s = some (inN x s):=by
 have hl:=AfY x
 have h1:=AdB hu (by omega)
 rw [Adz x hu] at h1
 have h2:=Zu hs x.A
 have h3:=XZ (hs.filter (· != x.A)) hu (by omega)
 have h4:=XZ hs hu (by omega)
 unfold RG inN
 rw [AfK,Option.bind_some,AeH]
 by_cases h : x.Op = 16 ∨ x.Op = 17
 ·simp only [h,if_true,cond_true,Option.bind_some,h1,h2,h3]
 ·simp only [h,if_false,cond_false,Option.bind_some,h1,h4]
theorem Acj {a b : List Int} (ha : KA a) (hb : KA b) : Oy a b = some (a.filter fun v=>!decide (v ∈ b)):=by
 obtain ⟨r,h1,h2⟩:=Ack a b (by have:=ha.length_le; omega) (by have:=hb.length_le; omega)
 rw [h1,h2.eq (Of.AaL (ha.filter fun v=>!decide (v ∈ b))) fun v _ _=>by simp [List.mem_filter]]
theorem Adr (a b : List Int) (ha : a.length ≤ 16777215) (hb : b.length ≤ 9223372036854775807) : QJ a b = some (a.filter fun v=>!decide (v ∈ b)):=by
 unfold QJ
 have:=Nc (body:=fun p : List Int × Int=>Ns a b p.1 p.2) a (fun (out : List Int) i=>(out,i)) (fun out i=>out.length ≤ i) (fun out l=>some (out ++ l.filter fun v=>!decide (v ∈ b)))
  (fun out _=>⟨out,by simp [Ns],by simp⟩) (fun out i x r ho hd hi hx=>by
   have w:=Kt (show i < 9223372036854775807 by omega)
   obtain ⟨_,rfl⟩:=List.getElem?_eq_some_iff.1 hx
   left
   by_cases h : a[i] ∈ b
   ·exact ⟨out,by omega,by simp [Ns,hi,Adj b _ hb,h,w],by simp [h]⟩
   ·exact ⟨out ++ [a[i]],by simp; omega,by simp [Ns,hi,Adj b _ hb,h,w,show out.length ≤ 16777215 by omega],by simp [h]⟩)
  [] (by simp)
 simpa using this
end Go.Proofs.YtcelninhkmhjkaaDoor
namespace Go.Proofs.YtcelninhkmhjkaaDoor
open Go Go.Dw Go.Proofs
attribute [local simp] Lb Bool.cond_eq_ite
theorem Aak : Lib.compact ([] : List Int) = []:=by simp [Lib.compact,Lib.compactUpTo]
theorem Aal (a : Int) : Lib.compact [a] = [a]:=by simp [Lib.compact,Lib.compactUpTo,List.range_succ,Lib.keeps]
theorem Ya (a b : Int) : Lib.compact [a,b] = if a = b then [a] else [a,b]:=by
 by_cases h : a = b
 ·subst h; simp [Lib.compact,Lib.compactUpTo,List.range_succ,Lib.keeps]
 ·have h' : ¬ b = a:=fun e=>h e.symm
  simp [Lib.compact,Lib.compactUpTo,List.range_succ,Lib.keeps,h,h']
theorem Acb (a : Int) : LK [a] = [a]:=by simp [LK]
theorem Aca : LK [] = []:=by simp [LK]
theorem AeR (a b : Int) : LK [a,b] = if a ≤ b then [a,b] else [b,a]:=by
 unfold LK List.mergeSort
 by_cases h : a ≤ b <;> simp [List.MergeSort.Internal.splitInTwo,h]
theorem AbN {f : JN} {k : Nat} {x : JK} (h : f.Code[k]? = some x) (hk : k < 9223372036854775807) : RH f (k : Int) = some (Ll x k):=by
 obtain ⟨hl,hx⟩:=List.getElem?_eq_some_iff.1 h
 have hnl : ¬ f.Code.length ≤ k:=by omega
 have w : IntKind.i64.wrap ((k : Int) + 1) = (k : Int) + 1:=wrap64 (by omega) (by omega)
 unfold RH Ue RI Ll PZ
 obtain ⟨op,a,b,c,i⟩:=x
 by_cases h20 : op = 20
 ·subst h20; simp [hx,hl,hnl,show ¬ (k : Int) < 0 by omega,Acb,Aal]
 ·have e20 : (op == 20) = false:=by simpa using h20
  by_cases h23 : op = 23
  ·subst h23; simp [hx,hl,hnl,show ¬ (k : Int) < 0 by omega,Aca,Aak]
  ·have e23 : (op == 23) = false:=by simpa using h23
   by_cases h24 : op = 24
   ·subst h24; simp [hx,hl,hnl,show ¬ (k : Int) < 0 by omega,Aca,Aak]
   ·have e24 : (op == 24) = false:=by simpa using h24
    by_cases h21 : op = 21
    ·subst h21
     simp [hx,hl,hnl,show ¬ (k : Int) < 0 by omega,w,AeR]
     by_cases hb : b < (k : Int) + 1
     ·simp [hb,show ¬ (k : Int) + 1 ≤ b by omega,Ya,show ¬ b = (k : Int) + 1 by omega]
     ·by_cases hb' : (k : Int) + 1 < b
      ·simp [hb,hb',show (k : Int) + 1 ≤ b by omega,Ya,show ¬ (k : Int) + 1 = b by omega]
      ·simp [Ya,show (k : Int) + 1 = b by omega]
    ·have e21 : (op == 21) = false:=by simpa using h21
     simp [hx,hl,hnl,show ¬ (k : Int) < 0 by omega,w,e24,h20,h23,h24,h21,Acb,Aal]
end Go.Proofs.YtcelninhkmhjkaaDoor
namespace Go.Proofs.YtcelninhkmhjkaaDoor
open Go Go.Dw Go.Proofs
attribute [local simp] Lb
theorem AbR {s : List Int} (hs : s.Pairwise (· < ·)) {n : Int} {h : s.length - 1 < s.length} (hl : s[s.length - 1] < n) : ∀ v ∈ s,v < n:=by
 intro v hv
 obtain ⟨i,hi,rfl⟩:=List.getElem_of_mem hv
 by_cases e : i = s.length - 1
 ·subst e; exact hl
 ·have:=List.pairwise_iff_getElem.1 hs i (s.length - 1) hi h (by omega)
  omega
theorem AeT (s : List Int) (f : JN) (hs : s.length ≤ maxLen) : Hs (LQ s f) fun b=>(b = false ↔ Ky f.Slots.length s):=by
 have hm : maxLen ≤ 9223372036854775807:=by decide
 unfold LQ
 rw [AcZ s (by omega),Option.bind_some]
 by_cases hc : Ox none s = true
 ·have hset:=(ZY s).1 hc
  rw [hc]
  simp only [Bool.not_true,cond_false]
  refine .dec (fun hp=>?_) fun hp=>?_
  ·have hp : 0 < s.length:=by omega
   have hi : s.length - 1 < s.length:=by omega
   have w : IntKind.i64.wrap ((s.length : Int) - 1) = ((s.length - 1 : Nat) : Int):=by rw [wrap64 (by omega) (by omega)]; omega
   rw [w,RY,List.getElem?_eq_getElem hi,Option.bind_some]
   refine .pure ⟨fun h=>⟨hset,AbR hset.1 (h:=hi) (by simpa using h)⟩,fun h=>?_⟩
   have:=h.2 _ (List.getElem_mem hi)
   simp; omega
  ·have : s = []:=List.length_eq_zero_iff.1 (by omega)
   subst this
   exact .pure ⟨fun _=>Ky.nil _,fun _=>rfl⟩
 ·have hc' : Ox none s = false:=by simpa using hc
  rw [hc']
  simp only [Bool.not_false,cond_true]
  exact .pure ⟨fun h=>(by cases h),fun h=>(hc ((ZY s).2 h.1)).elim⟩
theorem Abi (f : JN) (l : JP) (hl : l.Out.length ≤ maxLen) (hr : ∀ s ∈ l.Out,s.length ≤ maxLen) : Hs (Mr f l) fun b=>(b = true ↔ LU f l.Out):=by
 have hm : maxLen ≤ 9223372036854775807:=by decide
 unfold Mr
 refine .beq (fun he=>?_) fun hne=>.pure ⟨fun h=>(by cases h),fun h=>(hne (by rw [h.1])).elim⟩
 have he : l.Out.length = f.Code.length:=by omega
 have key : Hs (KE l.Out f) fun i=>(0 ≤ i ↔ ¬ ∀ s ∈ l.Out,Ky f.Slots.length s):=by
  unfold KE
  refine Hs.loop (fun i=>∃ k : Nat,i = (k : Int) ∧ k ≤ l.Out.length ∧ ∀ (j : Nat) s,j < k → l.Out[j]? = some s → Ky f.Slots.length s) (fun i=>l.Out.length - i.toNat) ⟨0,rfl,Nat.zero_le _,fun j s h=>absurd h (Nat.not_lt_zero _)⟩ ?_
  rintro _ ⟨k,rfl,hk,hall⟩
  unfold Lm
  refine .dec (fun hlt=>?_) fun hge=>?_
  ·have hlt : k < l.Out.length:=by omega
   rw [RY,List.getElem?_eq_getElem hlt,Option.bind_some]
   refine (AeT _ f (hr _ (List.getElem_mem hlt))).bind fun b hb=>.cond (fun h=>?_) fun h=>?_
   ·refine .lft (.pure ⟨fun _ hh=>?_,fun _=>by omega⟩)
    have:=hb.2 (hh _ (List.getElem_mem hlt))
    rw [h] at this; cases this
   ·rw [Kt (by omega)]
    refine .cnt ⟨⟨k + 1,rfl,hlt,fun j s hj hs=>?_⟩,by simp only; omega⟩
    by_cases e : j = k
    ·subst e
     rw [List.getElem?_eq_getElem hlt] at hs
     cases hs
     exact hb.1 h
    ·exact hall j s (by omega) hs
  ·refine .lft (.pure ⟨fun h=>by omega,fun h=>(h fun s hs=>?_).elim⟩)
   obtain ⟨j,hj⟩:=List.getElem?_of_mem hs
   exact hall j s (by have:=(List.getElem?_eq_some_iff.1 hj).1; omega) hj
 unfold KI
 refine Hs.bind (P:=fun b=>(b = true ↔ ¬ ∀ s ∈ l.Out,Ky f.Slots.length s)) (key.bind fun i hi=>.pure (by simpa using hi)) fun b hb=>.pure ?_
 constructor
 ·intro h
  have hb' : b = false:=by simpa using h
  refine ⟨he,fun s hs=>?_⟩
  refine Classical.byContradiction fun hn=>?_
  have:=hb.2 fun hh=>hn (hh s hs)
  rw [hb'] at this; cases this
 ·intro h
  have : ¬ b = true:=fun hbt=>hb.1 hbt h.2
  simpa using this
theorem AbY (f : JN) (l : JP) (hl : l.Out.length ≤ maxLen) (hr : ∀ s ∈ l.Out,s.length ≤ maxLen) : Hs (PD f l) fun b=>(b = true ↔ LU f l.Out):=by
 have hm : maxLen ≤ 9223372036854775807:=by decide
 unfold PD
 refine .bne (fun hne=>.pure ⟨fun h=>(by cases h),fun h=>(hne (by rw [h.1])).elim⟩) fun he=>?_
 have he : l.Out.length = f.Code.length:=by omega
 refine Hs.loop (fun i=>∃ k : Nat,i = (k : Int) ∧ k ≤ l.Out.length ∧ ∀ (j : Nat) s,j < k → l.Out[j]? = some s → Ky f.Slots.length s) (fun i=>l.Out.length - i.toNat) ⟨0,rfl,Nat.zero_le _,fun j s h=>absurd h (Nat.not_lt_zero _)⟩ ?_
 rintro _ ⟨k,rfl,hk,hall⟩
 unfold Si
 refine .dec (fun hlt=>?_) fun hge=>?_
 ·have hlt : k < l.Out.length:=by omega
  have hg : l.Out[k]? = some l.Out[k]:=List.getElem?_eq_getElem hlt
  have hlen:=hr _ (List.getElem_mem hlt)
  rw [RY,hg,Option.bind_some,AdD _ (by omega),Option.bind_some]
  have next : Ky f.Slots.length l.Out[k] → Hs (cnt (R:=Bool) (IntKind.i64.wrap ((k : Int) + 1))) (Rnd (fun i : Int=>∃ k : Nat,i = (k : Int) ∧ k ≤ l.Out.length ∧ ∀ (j : Nat) s,j < k → l.Out[j]? = some s → Ky f.Slots.length s) (fun i=>l.Out.length - i.toNat) (k : Int) fun b=>(b = true ↔ LU f l.Out)):=by
   intro hset
   rw [Kt (by omega)]
   refine .cnt ⟨⟨k + 1,rfl,hlt,fun j s hj hs=>?_⟩,by simp only; omega⟩
   by_cases e : j = k
   ·subst e
    rw [hg] at hs
    cases hs
    exact hset
   ·exact hall j s (by omega) hs
  have stop : ¬ Ky f.Slots.length l.Out[k] → ((false : Bool) = true ↔ LU f l.Out):=fun hn=>⟨fun h=>(by cases h),fun h=>(hn (h.2 _ (List.getElem_mem hlt))).elim⟩
  by_cases hc : Ox none l.Out[k] = true
  ·have hset:=(ZY _).1 hc
   rw [hc]
   simp only [Bool.not_true,cond_false,Option.bind_some]
   refine .dec (fun hp=>?_) fun hp=>?_
   ·have hp : 0 < l.Out[k].length:=by omega
    have hi : l.Out[k].length - 1 < l.Out[k].length:=by omega
    have w : IntKind.i64.wrap ((l.Out[k].length : Int) - 1) = ((l.Out[k].length - 1 : Nat) : Int):=by rw [wrap64 (by omega) (by omega)]; omega
    rw [w,RY,List.getElem?_eq_getElem hi,Option.bind_some]
    refine .dec (fun h=>.lft (.pure (stop fun hh=>?_))) fun h=>next ⟨hset,AbR hset.1 (h:=hi) (by omega)⟩
    have:=hh.2 _ (List.getElem_mem hi)
    omega
   ·have h0 : l.Out[k] = []:=List.length_eq_zero_iff.1 (by omega)
    exact next (by rw [h0]; exact Ky.nil _)
  ·have hc' : Ox none l.Out[k] = false:=by simpa using hc
   rw [hc']
   simp only [Bool.not_false,cond_true]
   exact .lft (.pure (stop fun h=>hc ((ZY _).2 h.1)))
 ·refine .lft (.pure ⟨fun _=>⟨he,fun s hs=>?_⟩,fun _=>rfl⟩)
  obtain ⟨j,hj⟩:=List.getElem?_of_mem hs
  exact hall j s (by have:=(List.getElem?_eq_some_iff.1 hj).1; omega) hj
def Ol (f : JN) (l : List (List Int)) (k : Int) : List Int :=
 (Ll (Kc f k) k).foldl (fun o j=>LL o ((inN (Kc f j) (JW l j)).filter fun v=>!decide (v ∈ JW l k))) []
theorem LU.at {f : JN} {l : List (List Int)} (h : LU f l) {j : Int} (h0 : 0 ≤ j) (h1 : j < f.Code.length) : l[j.toNat]? = some (JW l j) ∧ Ky f.Slots.length (JW l j):=by
 have hl : j.toNat < l.length:=by have:=h.1; omega
 have : l[j.toNat]? = some (JW l j):=by simp [JW,hl]
 exact ⟨this,h.2 _ (List.mem_of_getElem? this)⟩
theorem KH.at {f : JN} (_h : KH f) {j : Int} (h0 : 0 ≤ j) (h1 : j < f.Code.length) : f.Code[j.toNat]? = some (Kc f j) ∧ Kc f j ∈ f.Code:=by
 have : f.Code[j.toNat]? = some (Kc f j):=by simp [Kc,show j.toNat < f.Code.length by omega]
 exact ⟨this,List.mem_of_getElem? this⟩
theorem KH.Acu {f : JN} (h : KH f) {x : JK} (hx : x ∈ f.Code) : ∀ v ∈ Me x,0 ≤ v ∧ v < 512:=fun v hv=>by have:=h.uses x hx v hv; have:=h.slots; omega
theorem ZE {f : JN} (hf : KH f) {l : List (List Int)} (hl : LU f l) {k j : Int} (_hk : 0 ≤ k ∧ k < f.Code.length) (hj : 0 ≤ j ∧ j < f.Code.length) {o : List Int} (ho : Ky f.Slots.length o) :
  Ky f.Slots.length (LL o ((inN (Kc f j) (JW l j)).filter fun v=>!decide (v ∈ JW l k))) ∧ ∀ v,v ∈ LL o ((inN (Kc f j) (JW l j)).filter fun v=>!decide (v ∈ JW l k)) ↔ v ∈ o ∨ (v ∈ inN (Kc f j) (JW l j) ∧ v ∉ JW l k):=by
 have hsl:=hf.slots
 obtain ⟨g1,g2⟩:=TH hf (hf.at hj.1 hj.2).2 (hl.at hj.1 hj.2).2
 obtain ⟨g3,g4⟩:=Qx (n:=f.Slots.length) (by omega) (b:=(inN (Kc f j) (JW l j)).filter fun v=>!decide (v ∈ JW l k)) ho fun x hx=>⟨(g1.1.2 x (List.mem_filter.1 hx).1).1,g1.2 x (List.mem_filter.1 hx).1⟩
 exact ⟨g3,fun v=>by rw [g4]; simp [List.mem_filter]⟩
theorem Abl {f : JN} (hf : KH f) {l : List (List Int)} (hl : LU f l) {k : Int} (hk : 0 ≤ k ∧ k < f.Code.length) : ∀ {js : List Int} {o : List Int},(∀ j ∈ js,0 ≤ j ∧ j < f.Code.length) → Ky f.Slots.length o →
  Ky f.Slots.length (js.foldl (fun o j=>LL o ((inN (Kc f j) (JW l j)).filter fun v=>!decide (v ∈ JW l k))) o) ∧ ∀ v,v ∈ js.foldl (fun o j=>LL o ((inN (Kc f j) (JW l j)).filter fun v=>!decide (v ∈ JW l k))) o ↔ v ∈ o ∨ ∃ j ∈ js,v ∈ inN (Kc f j) (JW l j) ∧ v ∉ JW l k
 | [],o,_,ho=>⟨ho,fun v=>by simp⟩
 | j :: js,o,hj,ho=>by
  obtain ⟨h1,h2⟩:=ZE hf hl hk (hj j (List.mem_cons_self ..)) ho
  obtain ⟨h5,h6⟩:=Abl hf hl hk (fun q hq=>hj q (List.mem_cons_of_mem _ hq)) h1
  refine ⟨h5,fun v=>?_⟩
  simp only [List.foldl_cons]
  rw [h6,h2]
  simp only [List.mem_cons,exists_eq_or_imp,or_assoc]
theorem YO {f : JN} (hf : KH f) {l : List (List Int)} (hl : LU f l) {k : Nat} (hk : k < f.Code.length) : Ky f.Slots.length (Ol f l k) ∧ ∀ v,v ∈ Ol f l k ↔ ∃ j ∈ Ll (Kc f k) k,v ∈ inN (Kc f j) (JW l j) ∧ v ∉ JW l k:=by
 have hx : f.Code[k]? = some (Kc f k):=by simp [Kc,hk]
 obtain ⟨h1,h2⟩:=Abl hf hl (k:=(k : Int)) ⟨by omega,by omega⟩ (hf.next k _ hx) (Ky.nil _)
 exact ⟨h1,fun v=>by unfold Ol; rw [h2]; simp⟩
theorem AaZ (x : JK) (k : Int) : (Ll x k).length ≤ 2:=by unfold Ll; (repeat' split) <;> simp
theorem AcP {f : JN} (hf : KH f) {l : JP} (hl : LU f l.Out) {k : Nat} (hk : k < f.Code.length) : KB f k l [] l k = some (true,Ol f l.Out k):=by
 have hlen:=hf.len'
 have hx : f.Code[k]? = some (Kc f k):=by simp [Kc,hk]
 have hn:=hf.next k _ hx
 have h2:=AaZ (Kc f k) k
 obtain ⟨hk1,hk2⟩:=hl.at (j:=(k : Int)) (by omega) (by omega)
 simp only [Int.toNat_natCast] at hk1
 unfold KB
 rw [AbN hx (by omega),Option.bind_some]
 have:=Nc (body:=fun s : List Int × Int=>Kw (Ll (Kc f k) k) f l l k s.1 s.2) (Ll (Kc f k) k) (fun (o : List Int) i=>(o,i)) (fun o _=>Ky f.Slots.length o)
  (fun o js=>some (true,js.foldl (fun o j=>LL o ((inN (Kc f j) (JW l.Out j)).filter fun v=>!decide (v ∈ JW l.Out k))) o))
  (fun o _=>⟨_,by simp [Kw]; rfl,by simp⟩) (fun o i j r ho hd hi hj=>by
   left
   have wi:=Kt (show i < 9223372036854775807 by omega)
   have hjm:=hn j (List.mem_of_getElem? hj)
   obtain ⟨c1,c2⟩:=hf.at hjm.1 hjm.2
   obtain ⟨o1,o2⟩:=hl.at hjm.1 hjm.2
   obtain ⟨g1,g2⟩:=ZE hf hl (k:=(k : Int)) ⟨by omega,by omega⟩ hjm ho
   obtain ⟨s1,s2⟩:=TH hf c2 o2
   have hsl:=hf.slots
   have e1:=Adh o2.1 (hf.Acu c2)
   have e2:=Acj s1.1 hk2.1
   have e3:=XZ ho.1 (b:=(inN (Kc f j) (JW l.Out j)).filter fun v=>!decide (v ∈ JW l.Out k)) (fun x hx=>by have:=s1.1.2 x (List.mem_filter.1 hx).1; exact this) (by have:=(s1.1.filter fun v=>!decide (v ∈ JW l.Out k)).length_le; omega)
   obtain ⟨_,hje⟩:=List.getElem?_eq_some_iff.1 hj
   refine ⟨_,g1,?_,rfl⟩
   simp [Kw,Nl,LJ,hi,hje,TI _ hjm.1,c1,o1,e1,hk1,e2,e3,wi]) [] (Ky.nil _)
 exact this
theorem Acp {f : JN} (hf : KH f) {l : JP} (hl : LU f l.Out) {k : Nat} (hk : k < f.Code.length) : OX f l k = some (Ol f l.Out k):=by
 have hlen:=hf.len'
 have hx : f.Code[k]? = some (Kc f k):=by simp [Kc,hk]
 have hn:=hf.next k _ hx
 have h2:=AaZ (Kc f k) k
 obtain ⟨hk1,hk2⟩:=hl.at (j:=(k : Int)) (by omega) (by omega)
 simp only [Int.toNat_natCast] at hk1
 unfold OX
 rw [AbX hx (by omega),Option.bind_some]
 have:=Nc (body:=fun s : List Int × Int=>Nu (Ll (Kc f k) k) f l k s.1 s.2) (Ll (Kc f k) k) (fun (o : List Int) i=>(o,i)) (fun o _=>Ky f.Slots.length o)
  (fun o js=>some (js.foldl (fun o j=>LL o ((inN (Kc f j) (JW l.Out j)).filter fun v=>!decide (v ∈ JW l.Out k))) o))
  (fun o _=>⟨_,by simp [Nu]; rfl,by simp⟩) (fun o i j r ho hd hi hj=>by
   left
   have wi:=Kt (show i < 9223372036854775807 by omega)
   have hjm:=hn j (List.mem_of_getElem? hj)
   obtain ⟨c1,c2⟩:=hf.at hjm.1 hjm.2
   obtain ⟨o1,o2⟩:=hl.at hjm.1 hjm.2
   obtain ⟨g1,g2⟩:=ZE hf hl (k:=(k : Int)) ⟨by omega,by omega⟩ hjm ho
   obtain ⟨s1,s2⟩:=TH hf c2 o2
   have hsl:=hf.slots
   have e1:=AeV (Kc f j) (JW l.Out j) (by have:=o2.1.length_le; omega)
   have e2:=Adr (inN (Kc f j) (JW l.Out j)) (JW l.Out k) (by have:=s1.1.length_le; omega) (by have:=hk2.1.length_le; omega)
   have e3:=union_eq o ((inN (Kc f j) (JW l.Out j)).filter fun v=>!decide (v ∈ JW l.Out k)) (by have:=(s1.1.filter fun v=>!decide (v ∈ JW l.Out k)).length_le; have:=ho.1.length_le; omega)
   obtain ⟨_,hje⟩:=List.getElem?_eq_some_iff.1 hj
   refine ⟨_,g1,?_,rfl⟩
   simp [Nu,hi,hje,TI _ hjm.1,c1,o1,e1,hk1,e2,e3,wi]) [] (Ky.nil _)
 exact this
def WX (f : JN) (l : List (List Int)) (r : Int × Int × Bool) : Prop :=
 (LU f l ∧ ∃ (k : Nat) (v : Int),k < f.Code.length ∧ (∀ j : Nat,j < k → Ol f l j = []) ∧ (Ol f l k)[0]? = some v ∧ r = ((k : Int),v,true)) ∨
 ((LU f l → ∀ j : Nat,j < f.Code.length → Ol f l j = []) ∧ r = (0,0,false))
theorem WX.unique {f : JN} {l : List (List Int)} {r q : Int × Int × Bool} (h : WX f l r) (k : WX f l q) : r = q:=by
 rcases h with ⟨h0,i,v,h1,h2,h3,rfl⟩ | ⟨h1,rfl⟩ <;> rcases k with ⟨k0,j,u,k1,k2,k3,rfl⟩ | ⟨k1,rfl⟩
 ·have : i = j:=by
   rcases Nat.lt_trichotomy i j with hlt | he | hlt
   ·rw [k2 i hlt] at h3; cases h3
   ·exact he
   ·rw [h2 j hlt] at k3; cases k3
  subst this
  rw [h3] at k3; cases k3; rfl
 ·rw [k1 h0 i h1] at h3; cases h3
 ·rw [h1 k0 j k1] at k3; cases k3
 ·rfl
def Acc (f : JN) (l : List (List Int)) : Prop:=LU f l ∧ ∀ j : Nat,j < f.Code.length → Ol f l j = []
theorem WX.acc {f : JN} {l : List (List Int)} {r : Int × Int × Bool} (h : WX f l r) (hl : LU f l) : r.2.2 = false ↔ Acc f l:=by
 rcases h with ⟨h0,i,v,h1,h2,h3,rfl⟩ | ⟨h1,rfl⟩
 ·exact ⟨fun h=>(by cases h),fun h=>by rw [h.2 i h1] at h3; cases h3⟩
 ·exact ⟨fun _=>⟨hl,h1 hl⟩,fun _=>rfl⟩
def TQ (l : List (List Int)) : Prop:=l.length ≤ maxLen ∧ ∀ s ∈ l,s.length ≤ maxLen
theorem AbM {f : JN} (hf : KH f) {l : JP} (hl : TQ l.Out) : Hs (MQ f l) (WX f l.Out):=by
 have hlen:=hf.len'
 unfold MQ
 refine (Abi f l hl.1 hl.2).bind fun b hb=>.cond (fun h=>?_) fun h=>?_
 ·have hb' : ¬ b = true:=by simpa using h
  exact .pure (.inr ⟨fun hh=>(hb' (hb.2 hh)).elim,rfl⟩)
 ·have hb' : b = true:=by simpa using h
  have hok:=hb.1 hb'
  refine Hs.loop (fun i=>∃ k : Nat,i = (k : Int) ∧ k ≤ f.Code.length ∧ ∀ j : Nat,j < k → Ol f l.Out j = []) (fun i=>f.Code.length - i.toNat) ⟨0,rfl,Nat.zero_le _,fun j h=>absurd h (Nat.not_lt_zero _)⟩ ?_
  rintro _ ⟨k,rfl,hk,hall⟩
  unfold Pl
  refine .dec (fun hlt=>?_) fun hge=>?_
  ·have hlt : k < f.Code.length:=by omega
   rw [show PV l = some l from rfl,Option.bind_some,AcP hf hok hlt,Option.bind_some]
   refine .dec (fun hp=>?_) fun hp=>?_
   ·have hp : 0 < (Ol f l.Out k).length:=by simp only at hp; omega
    simp only [AeJ]
    have hg : (Ol f l.Out k)[0]? = some ((Ol f l.Out k)[0]):=List.getElem?_eq_getElem hp
    rw [hg,Option.bind_some]
    exact .lft (.pure (.inl ⟨hok,k,_,hlt,hall,hg,rfl⟩))
   ·rw [Kt (by omega)]
    refine .cnt ⟨⟨k + 1,rfl,hlt,fun j hj=>?_⟩,by simp only; omega⟩
    by_cases e : j = k
    ·subst e; exact List.length_eq_zero_iff.1 (by simp only at hp; omega)
    ·exact hall j (by omega)
  ·exact .lft (.pure (.inr ⟨fun _ j hj=>hall j (by omega),rfl⟩))
theorem Abm {f : JN} (hf : KH f) {l : JP} (hl : TQ l.Out) : Hs (PC f l) (WX f l.Out):=by
 have hlen:=hf.len'
 unfold PC
 refine (AbY f l hl.1 hl.2).bind fun b hb=>.cond (fun h=>?_) fun h=>?_
 ·have hb' : ¬ b = true:=by simpa using h
  exact .pure (.inr ⟨fun hh=>(hb' (hb.2 hh)).elim,rfl⟩)
 ·have hb' : b = true:=by simpa using h
  have hok:=hb.1 hb'
  refine Hs.loop (fun i=>∃ k : Nat,i = (k : Int) ∧ k ≤ f.Code.length ∧ ∀ j : Nat,j < k → Ol f l.Out j = []) (fun i=>f.Code.length - i.toNat) ⟨0,rfl,Nat.zero_le _,fun j h=>absurd h (Nat.not_lt_zero _)⟩ ?_
  rintro _ ⟨k,rfl,hk,hall⟩
  unfold Se
  refine .dec (fun hlt=>?_) fun hge=>?_
  ·have hlt : k < f.Code.length:=by omega
   rw [Acp hf hok hlt,Option.bind_some]
   refine .dec (fun hp=>?_) fun hp=>?_
   ·have hp : 0 < (Ol f l.Out k).length:=by omega
    refine .chk (by omega) ?_
    have hg : (Ol f l.Out k)[0]? = some ((Ol f l.Out k)[0]):=List.getElem?_eq_getElem hp
    rw [show (0 : Int).toNat = 0 from rfl,hg,Option.bind_some]
    exact .lft (.pure (.inl ⟨hok,k,_,hlt,hall,hg,rfl⟩))
   ·rw [Kt (by omega)]
    refine .cnt ⟨⟨k + 1,rfl,hlt,fun j hj=>?_⟩,by simp only; omega⟩
    by_cases e : j = k
    ·subst e; exact List.length_eq_zero_iff.1 (by omega)
    ·exact hall j (by omega)
  ·exact .lft (.pure (.inr ⟨fun _ j hj=>hall j (by omega),rfl⟩))
theorem YJ {f : JN} (hf : KH f) {l : JP} (hl : TQ l.Out) : Hs (LI f l) fun e=>(e = 0 ∨ e = 11) ∧ (e = 0 ↔ Acc f l.Out):=by
 unfold LI
 refine (Abi f l hl.1 hl.2).bind fun b hb=>.cond (fun h=>?_) fun h=>?_
 ·have hb' : ¬ b = true:=by simpa using h
  exact .pure ⟨.inr rfl,fun h=>by omega,fun h=>(hb' (hb.2 h.1)).elim⟩
 ·have hb' : b = true:=by simpa using h
  refine (AbM hf hl).bind fun r hr=>.cond (fun h=>.pure ⟨.inr rfl,fun h=>by omega,fun h'=>?_⟩) fun h=>.pure ⟨.inl rfl,fun _=>(hr.acc (hb.1 hb')).1 h,fun _=>rfl⟩
  rw [(hr.acc h'.1).2 h'] at h; cases h
theorem ZF {f : JN} (hf : KH f) {l : JP} (hl : TQ l.Out) : Hs (On f l) fun e=>(e = 0 ∨ e = 11) ∧ (e = 0 ↔ Acc f l.Out):=by
 unfold On
 refine (Abm hf hl).bind fun r hr=>.cond (fun h=>.pure ⟨.inr rfl,fun h=>by omega,fun h'=>?_⟩) fun h=>?_
 ·rw [(hr.acc h'.1).2 h'] at h; cases h
 ·refine (AbY f l hl.1 hl.2).bind fun b hb=>.cond (fun h=>?_) fun h2=>?_
  ·have hb' : ¬ b = true:=by simpa using h
   exact .pure ⟨.inr rfl,fun h=>by omega,fun h=>(hb' (hb.2 h.1)).elim⟩
  ·have hb' : b = true:=by simpa using h2
   exact .pure ⟨.inl rfl,fun _=>(hr.acc (hb.1 hb')).1 h,fun _=>rfl⟩
theorem LU.len {f : JN} (hf : KH f) {l : List (List Int)} (h : LU f l) : TQ l:=by
 have hm : (100000 : Nat) ≤ maxLen:=by decide
 have:=hf.len'; have:=h.1
 exact ⟨by omega,fun s hs=>by have:=(h.2 s hs).1.length_le; omega⟩
theorem AeX {f : JN} (hf : KH f) {l : List (List Int)} (hl : LU f l) : Acc f l ↔ LE (Na f l) l:=by
 constructor
 ·rintro ⟨_,h⟩ k s t hs ht v hv
  have hk : k < f.Code.length:=by have:=(List.getElem?_eq_some_iff.1 ht).1; have:=hl.1; omega
  have e1 : s = QM f l k:=by simp [Na,hk] at hs; exact hs.symm
  have e2 : t = JW l k:=by simp [JW,ht]
  subst e1 e2
  rw [(SX hf hl hk).2] at hv
  obtain ⟨j,hj,hv⟩:=hv
  refine Classical.byContradiction fun hn=>?_
  have : v ∈ Ol f l k:=((YO hf hl hk).2 v).2 ⟨j,hj,hv,hn⟩
  rw [h k hk] at this; cases this
 ·intro h
  refine ⟨hl,fun k hk=>?_⟩
  refine List.eq_nil_iff_forall_not_mem.2 fun v hv=>?_
  obtain ⟨j,hj,h1,h2⟩:=((YO hf hl hk).2 v).1 hv
  refine h2 (h k (QM f l k) (JW l k) (by simp [Na,hk]) ?_ v (((SX hf hl hk).2 v).2 ⟨j,hj,h1⟩))
  have:=(hl.at (j:=(k : Int)) (by omega) (by omega)).1
  simpa using this
theorem Acc.mem {f : JN} (hf : KH f) {l : List (List Int)} (h : Acc f l) {k : Nat} (hk : k < f.Code.length) {j v : Int} (hj : j ∈ Ll (Kc f k) k) (hv : v ∈ inN (Kc f j) (JW l j)) : v ∈ JW l k:=by
 refine Classical.byContradiction fun hn=>?_
 have : v ∈ Ol f l k:=((YO hf h.1 hk).2 v).2 ⟨j,hj,hv,hn⟩
 rw [h.2 k hk] at this; cases this
theorem AaR.acc {f : JN} (hf : KH f) {l : List (List Int)} (h : AaR f l) : Acc f l:=by
 rw [AeX hf h.ok,h.fix]
 intro k s t hs ht v hv
 rw [hs] at ht; cases ht; exact hv
end Go.Proofs.YtcelninhkmhjkaaDoor
namespace Go.Proofs.YtcelninhkmhjkaaDoor
open Go Go.Dw Go.Proofs
def I64 (v : Int) : Prop:=-9223372036854775808 ≤ v ∧ v ≤ 9223372036854775807
theorem AfL (n : Int) : I64 (IntKind.i64.wrap n):=by
 unfold I64; simp [IntKind.wrap,IntKind.signed,IntKind.bits]; omega
theorem Adm {c : JJ} (h : okC c) : Hs (Nq c) fun p=>okC p.2 ∧ I64 p.1:=by
 unfold Nq
 refine (Kk h (by omega) (by omega)).bind fun r hr=>.beq (fun _=>?_) fun _=>?_
 ·refine (Kk hr.1 (by simp) (by simp)).bind fun q hq=>.chk ?_ ?_
  ·simp at hq; simp; omega
  ·refine (Hs.get hq.2.1 (by simpa using hq.2.2) fun x hx=>List.mem_of_getElem? hx).bind fun x hx=>.pure ⟨hq.1,?_⟩
   simp at hx
   unfold I64
   simp only
   omega
 ·exact (Kk hr.1 (by omega) (by omega)).bind fun q hq=>(Kk hq.1 (by omega) (by omega)).bind fun u hu=>.chk hu.2.1 (.pure ⟨hu.1,AfL _⟩)
def Vp (l : List (List Int)) : Prop:=∀ s ∈ l,s.length ≤ 512 ∧ ∀ v ∈ s,I64 v
def Rs (l : List (List Int)) : Prop:=∀ s ∈ l,KA s
theorem Rs.rows {l : List (List Int)} (h : Rs l) : Vp l:=fun s hs=>⟨(h s hs).length_le,fun v hv=>by have:=(h s hs).2 v hv; unfold I64; omega⟩
theorem Rs.set {l : List (List Int)} (h : Rs l) {k : Nat} {s : List Int} (hs : KA s) : Rs (l.set k s):=by
 intro t ht
 rcases List.mem_or_eq_of_mem_set ht with h1 | rfl
 ·exact h t h1
 ·exact hs
theorem KA.add {s : List Int} (h : KA s) (n : Int) : KA (QN n s):=by
 unfold QN
 split
 ·exact h.OO (by assumption)
 ·exact h
theorem AfN {c : JJ} (h : okC c) {f : JN} (hf : KH f) : Hs (NO c f) fun p=>okC p.2 ∧ p.1.Out.length ≤ f.Code.length ∧ Vp p.1.Out:=by
 have hlen:=hf.len
 have hlen':=hf.len'
 have hsl:=hf.slots
 unfold NO
 refine (AeQ hf).bind fun l hl=>(Kk h (by omega) (by omega)).bind fun r hr=>.beq (fun _=>?_) fun _=>?_
 ·exact .pure ⟨hr.1,by have:=hl.ok.1; simp only; omega,Rs.rows fun s hs=>(hl.ok.2 s hs).1⟩
 ·refine .chk (by have:=hl.ok.1; simp; omega) ((Kk hr.1 (by omega) (by omega)).bind fun q hq=>?_)
  have j1 : ∀ {l : List Int} {a : Int} {x : List (List Int)},okC ⟨l,a⟩ → x.length = f.Code.length → Rs x → Hs (Mw l a x) fun p=>okC p.2 ∧ p.1.Out.length ≤ f.Code.length ∧ Vp p.1.Out:=by
   intro l a x hc hx hs
   unfold Mw
   refine (Kk hc (by omega) (by omega)).bind fun r hr=>.beq (fun _=>?_) fun _=>.beq (fun _=>?_) fun _=>?_
   ·refine .chk (by omega) (.pure ⟨hr.1,by simp; omega,fun s hm=>hs.rows s (List.mem_of_mem_drop hm)⟩)
   ·refine (Adm hr.1).bind fun u hu=>(Adm hu.1).bind fun v hv=>.chk (by omega) ((Hs.get (by omega) (by omega) fun x hx=>hx).bind fun _ _=>.pure ⟨hv.1,by simp; omega,fun s hm=>?_⟩)
    rcases List.mem_or_eq_of_mem_set hm with h1 | rfl
    ·exact hs.rows s h1
    ·refine ⟨by simp,fun w hw=>?_⟩
     simp at hw
     rcases hw with rfl | rfl
     ·exact hu.2
     ·exact hv.2
   ·exact .pure ⟨hr.1,by simp only; omega,hs.rows⟩
  refine Hs.loop (fun s=>okC ⟨s.1,s.2.1⟩ ∧ s.2.2.1.length = f.Code.length ∧ Rs s.2.2.1 ∧ 0 ≤ s.2.2.2 ∧ s.2.2.2 < 4) (fun s=>s.2.2.2.toNat) ⟨hq.1,by simpa using hl.ok.1,fun s hs=>(hl.ok.2 s (by simpa using hs)).1,hq.2⟩ ?_
  rintro ⟨l,a,x,n⟩ ⟨hc,hx,hs,hn0,hn1⟩
  simp only at hc hx hs hn0 hn1
  have w : IntKind.i64.wrap (n - 1) = n - 1:=wrap64 (by omega) (by omega)
  unfold Pe
  refine .dec (fun hlt=>.dec (fun hsl0=>?_) fun _=>.lft (j1 hc hx hs)) fun _=>.lft (j1 hc hx hs)
  have hlt : 0 < n:=hlt
  unfold Pg
  have j4 : ∀ {l : List Int} {a : Int} {y : List (List Int)},okC ⟨l,a⟩ → y.length = f.Code.length → Rs y → Hs (LX n l a y) (Rnd (fun s : List Int × Int × List (List Int) × Int=>okC ⟨s.1,s.2.1⟩ ∧ s.2.2.1.length = f.Code.length ∧ Rs s.2.2.1 ∧ 0 ≤ s.2.2.2 ∧ s.2.2.2 < 4) (fun s=>s.2.2.2.toNat) (‹List Int›,‹Int›,x,n) (fun p : JP × JJ=>okC p.2 ∧ p.1.Out.length ≤ f.Code.length ∧ Vp p.1.Out)):=by
   intro l a y hc hy hs
   unfold LX
   exact .cnt ⟨⟨hc,hy,hs,by simp only [w]; omega,by simp only [w]; omega⟩,by simp only [w]; omega⟩
  refine (Kk hc (by omega) (by omega)).bind fun u hu=>(Kk hu.1 (by omega) (by omega)).bind fun v hv=>.beq (fun _=>?_) fun _=>?_
  ·refine Hs.loop (fun s=>s.1.length = f.Code.length ∧ Rs s.1 ∧ 0 ≤ s.2 ∧ s.2 ≤ f.Code.length) (fun s=>f.Code.length - s.2.toNat) ⟨hx,hs,by simp,by simp⟩ ?_
   rintro ⟨y,k⟩ ⟨hy,hys,hk0,hk1⟩
   simp only at hy hys hk0 hk1
   unfold Pf
   refine .dec (fun hk=>?_) fun _=>.lft (j4 hv.1 hy hys)
   have hk : k < y.length:=hk
   have wk : IntKind.i64.wrap (k + 1) = k + 1:=wrap64 (by omega) (by omega)
   refine .chk ⟨hk0,hk⟩ ((Hs.get hk0 hk fun z hz=>hys z (List.mem_of_getElem? hz)).bind fun z hz=>?_)
   rw [add_eq z u.1 (by have:=hz.length_le; omega),Option.bind_some]
   refine .chk ⟨hk0,hk⟩ ((Hs.get hk0 hk fun z hz=>hz).bind fun _ _=>.cnt ⟨⟨by simpa using hy,hys.set (hz.add _),by simp only [wk]; omega,by simp only [wk]; omega⟩,by simp only [wk]; omega⟩)
  ·refine (Kk hv.1 (n:=(x.length : Int)) (by omega) (by omega)).bind fun k hk=>(Kk hk.1 (by omega) (by omega)).bind fun t ht=>.beq (fun _=>?_) fun _=>?_
   ·refine .chk hk.2 ((Hs.get hk.2.1 hk.2.2 fun z hz=>hs z (List.mem_of_getElem? hz)).bind fun z hz=>?_)
    rw [add_eq z u.1 (by have:=hz.length_le; omega),Option.bind_some]
    exact .chk hk.2 ((Hs.get hk.2.1 hk.2.2 fun z hz=>hz).bind fun _ _=>j4 ht.1 (by simpa using hx) (hs.set (hz.add _)))
   ·refine .chk hk.2 ((Hs.get hk.2.1 hk.2.2 fun z hz=>hs z (List.mem_of_getElem? hz)).bind fun z hz=>?_)
    rw [ZU z u.1 (by have:=hz.length_le; omega),Option.bind_some]
    exact .chk hk.2 ((Hs.get hk.2.1 hk.2.2 fun z hz=>hz).bind fun _ _=>j4 ht.1 (by simpa using hx) (hs.set (hz.filter _)))
end Go.Proofs.YtcelninhkmhjkaaDoor
namespace Go.Proofs.YtcelninhkmhjkaaDoor
open Go Go.Dw Go.Proofs
theorem Vp.len {f : JN} (hf : KH f) {l : List (List Int)} (h1 : l.length ≤ f.Code.length) (h2 : Vp l) : TQ l:=by
 have hm : (100000 : Nat) ≤ maxLen:=by decide
 have:=hf.len'
 exact ⟨by omega,fun s hs=>by have:=(h2 s hs).1; omega⟩
theorem Agc {f : JN} (hf : KH f) {l : List (List Int)} (hl : LU f l) (h : ∀ k : Nat,k < f.Code.length → ∀ j ∈ Ll (Kc f k) k,∀ v ∈ inN (Kc f j) (JW l j),v ∈ JW l k) : Acc f l:=by
 refine ⟨hl,fun k hk=>List.eq_nil_iff_forall_not_mem.2 fun v hv=>?_⟩
 obtain ⟨j,hj,h1,h2⟩:=((YO hf hl hk).2 v).1 hv
 exact h2 (h k hk j hj v h1)
theorem AfQ {f : JN} (hf : KH f) {k : Nat} (hk : k < f.Code.length) {j : Int} (hj : j ∈ Ll (Kc f k) k) : 0 ≤ j ∧ j < f.Code.length :=
 hf.next k _ (by simp [Kc,hk]) j hj
theorem Adp {l : List (List Int)} {k : Nat} (h : k < l.length) : JW l (k : Int) = l[k]:=by simp [JW,h]
end Go.Proofs.YtcelninhkmhjkaaDoor
namespace Go.Proofs.YtcelninhkmhjkaaDoor
open Go Go.Dw Go.Proofs
theorem AcX (codes : List Int) (hc : qL (MU .u8) codes) : Hs (QH codes) fun p=>okC p.2.2 ∧ (∃ ps i,TP ps i 12 p.1) ∧ p.2.1.Out.length ≤ p.1.Code.length ∧ Vp p.2.1.Out:=by
 unfold QH
 obtain ⟨c,e1,hcok⟩:=Ail codes 250 hc (by omega) (by omega)
 rw [e1,Option.bind_some]
 refine (AcS hcok (by omega) (by omega) (by omega) (by omega)).bind fun p hp=>?_
 obtain ⟨ps,hps,hz,hp1,hp2,hfl,hall⟩:=hp.2
 refine (Kk hp.1 (by omega) (by omega)).bind fun k hk=>?_
 refine (Hs.ix hk.2.1 hk.2.2 fun f hf=>hall _ f hf).bind fun f hf=>?_
 exact (AfN hk.1 (hf.Aij (by omega))).bind fun l hl=>.pure ⟨hl.1,⟨_,_,hf⟩,hl.2⟩
abbrev awF : JN:=JN.mk 0 ([(Ko.mk 8 8)] : List Ko) ([(JK.mk 16 0 0 0 0),(JK.mk 15 0 0 0 0),(JK.mk 23 0 0 0 0)] : List JK)
theorem AbE : KH awF:=by
 refine ⟨by simp,by simp,by simp,fun k x hx j hj=>?_,fun x hx v hv=>?_⟩
 ·match k,hx with
  | 0,hx=>simp at hx; subst hx; simp [Ll] at hj; subst hj; simp
  | 1,hx=>simp at hx; subst hx; simp [Ll] at hj; subst hj; simp
  | 2,hx=>simp at hx; subst hx; simp [Ll] at hj
  | n + 3,hx=>simp at hx
 ·simp at hx
  rcases hx with rfl | rfl | rfl <;> simp [Me] at hv <;> subst hv <;> simp
theorem Adt {s : List Int} (h : s = [] ∨ s = [0]) : Ky 1 s:=by
 rcases h with rfl | rfl
 ·exact Ky.nil _
 ·exact ⟨⟨List.pairwise_singleton _ _,fun x hx=>by simp at hx; omega⟩,fun x hx=>by simp at hx; omega⟩
theorem Agd : Acc awF [[0],[],[]]:=by
 refine ⟨⟨rfl,fun s hs=>Adt ?_⟩,fun j hj=>?_⟩
 ·simp at hs; rcases hs with rfl | rfl <;> simp
 ·match j,hj with
  | 0,_=>decide
  | 1,_=>decide
  | 2,_=>decide
  | n + 3,h=>exact absurd h (by simp)
theorem Age : ¬ Acc awF [[],[],[]]:=by
 rintro ⟨_,h⟩
 exact absurd (h 0 (by simp)) (by decide)
theorem AeY : QG = some true:=by
 have hm : (100000 : Nat) ≤ maxLen:=by decide
 obtain ⟨r,h1,h2,h3⟩:=YJ AbE (l:=⟨[[0],[],[]]⟩) ⟨by simp; omega,fun s hs=>by simp at hs; rcases hs with rfl | rfl <;> simp; omega⟩
 obtain ⟨q,k1,k2,k3⟩:=YJ AbE (l:=⟨[[],[],[]]⟩) ⟨by simp; omega,fun s hs=>by simp at hs; subst hs; simp⟩
 have hr : r = 0:=h3.2 Agd
 have hq : q = 11:=by
  rcases k2 with h | h
  ·exact (Age (k3.1 h)).elim
  ·exact h
 subst hr hq
 unfold QG
 rw [h1,Option.bind_some,show ((0 : Int) == 0) = true from rfl,cond_true,k1,Option.bind_some]
 rfl
end Go.Proofs.YtcelninhkmhjkaaDoor
namespace Go.Proofs.YtcelninhkmhjkaaDoor
open Go Go.Dw Go.Proofs
theorem AaK {f : JN} {l : List (List Int)} (h : LU f l) (k : Nat) (p : Int → Bool) : LU f (l.set k ((JW l (k : Nat)).filter p)):=by
 refine ⟨by simpa using h.1,fun s hs=>?_⟩
 by_cases hk : k < l.length
 ·rcases List.mem_or_eq_of_mem_set hs with h1 | rfl
  ·exact h.2 s h1
  ·have hm : JW l (k : Nat) ∈ l:=by rw [Adp hk]; exact List.getElem_mem hk
   exact ⟨(h.2 _ hm).1.filter _,fun x hx=>(h.2 _ hm).2 x (List.mem_filter.1 hx).1⟩
 ·rw [List.set_eq_of_length_le (by omega)] at hs
  exact h.2 s hs
theorem TL {l : List (List Int)} {k : Nat} {s : List Int} {j : Int} (h0 : 0 ≤ j) (hk : k < l.length) : JW (l.set k s) j = if j = k then s else JW l j:=by
 unfold JW
 rw [List.getElem?_set]
 by_cases e : j = k
 ·subst e; simp [hk]
 ·rw [if_neg e,if_neg (by omega)]
theorem AcR {f : JN} (hf : KH f) {l : List (List Int)} (hl : LU f l) {k : Nat} (hk : k < f.Code.length) (p : Int → Bool) {j v : Int} (h0 : 0 ≤ j) (h1 : j < f.Code.length) (hv : v ∈ inN (Kc f j) (JW (l.set k ((JW l (k : Nat)).filter p)) j)) : v ∈ inN (Kc f j) (JW l j):=by
 have hkl : k < l.length:=by have:=hl.1; omega
 have hl':=AaK hl k p
 refine AbQ hf (hf.at h0 h1).2 (hl'.at h0 h1).2 (hl.at h0 h1).2 (fun u hu=>?_) v hv
 rw [TL h0 hkl] at hu
 split at hu
 ·rename_i e; subst e; exact (List.mem_filter.1 hu).1
 ·exact hu
theorem Ach {f : JN} (hf : KH f) {l : List (List Int)} (h : Acc f l) {k : Nat} (hk : k < f.Code.length) (p : Int → Bool) :
  Acc f (l.set k ((JW l (k : Nat)).filter p)) ↔ ∀ j ∈ Ll (Kc f k) k,∀ v ∈ inN (Kc f j) (JW (l.set k ((JW l (k : Nat)).filter p)) j),v ∈ (JW l (k : Nat)).filter p:=by
 have hl':=AaK h.1 k p
 have hkl : k < l.length:=by have:=h.1.1; omega
 have hself : JW (l.set k ((JW l (k : Nat)).filter p)) (k : Nat) = (JW l (k : Nat)).filter p:=by rw [TL (by omega) hkl,if_pos rfl]
 constructor
 ·intro ha j hj v hv
  have:=ha.mem hf hk hj hv
  rwa [hself] at this
 ·intro hh
  refine Agc hf hl' fun i hi j hj v hv=>?_
  by_cases e : i = k
  ·subst e; rw [hself]; exact hh j hj v hv
  ·have hjm:=AfQ hf hi hj
   have:=h.mem hf hi hj (AcR hf h.1 hk p hjm.1 hjm.2 hv)
   rw [TL (by omega) hkl,if_neg (by omega)]
   exact this
end Go.Proofs.YtcelninhkmhjkaaDoor
namespace Go.Proofs.YtcelninhkmhjkaaDoor
open Go Go.Dw Go.Proofs
attribute [local simp] Lb
theorem Adk {t : BS} (ht : Mg t) (n : Int) : LP t n = some (decide (0 ≤ n ∧ n < 512) && hasB t n):=by
 unfold LP
 rw [XX,Option.bind_some]
 by_cases h : 0 ≤ n ∧ n < 512
 ·rw [decide_eq_true h]
  obtain ⟨h0,h1⟩:=h
  have hi : n.toNat / 64 < 8:=by omega
  have hw:=ht.word hi
  simp only [cond_true,Bool.true_and]
  rw [AcU h0 h1,Lb (by omega),Int.toNat_natCast,RX hi,Option.bind_some,Lb (AbA n).1,(AbA n).2 h0 h1]
  have e : Nat.min (n.toNat % 64) IntKind.u64.bits = n.toNat % 64:=Nat.min_eq_left (by show n.toNat % 64 ≤ 64; omega)
  have e2 : (MH t (n.toNat / 64)).fdiv (2 ^ (n.toNat % 64)) = (((MH t (n.toNat / 64)).toNat / 2 ^ (n.toNat % 64) : Nat) : Int):=by
   rw [Int.fdiv_eq_ediv_of_nonneg _ (Int.pow_nonneg (by omega))]
   have : MH t (n.toNat / 64) = (((MH t (n.toNat / 64)).toNat : Nat) : Int):=by have:=hw.1; omega
   rw [this,Int.toNat_natCast,Int.natCast_ediv,Int.natCast_pow]; rfl
  have hlt : (MH t (n.toNat / 64)).toNat / 2 ^ (n.toNat % 64) < 18446744073709551616:=Nat.lt_of_le_of_lt (Nat.div_le_self ..) hw.toNat_lt
  rw [e,e2,AeU (WW.nat hlt) ⟨by omega,by omega⟩]
  congr 1
  unfold hasB TR
  rw [Int.toNat_natCast,show (1 : Int).toNat = 1 from rfl,Nat.and_one_is_mod]
  rw [Nat.testBit_eq_decide_div_mod_eq]
  by_cases hb : (MH t (n.toNat / 64)).toNat / 2 ^ (n.toNat % 64) % 2 = 1
  ·simp [hb]
  ·simp only [hb,decide_false]
   have : (MH t (n.toNat / 64)).toNat / 2 ^ (n.toNat % 64) % 2 = 0:=by omega
   rw [this]; rfl
 ·rw [decide_eq_false h]; rfl
theorem AbH (a b : List Int) (ha : a.length ≤ 9000000000000000000) (hb : b.length ≤ 9000000000000000000) (hr : ∀ v ∈ a,0 ≤ v ∧ v < 512) : Hs (OT a b) fun r=>(r = true ↔ ∀ v ∈ a,v ∈ b):=by
 unfold OT
 refine (YP b hb).bind fun t ht=>?_
 have key : Hs (Kx a t) fun i=>(0 ≤ i ↔ ¬ ∀ v ∈ a,v ∈ b):=by
  unfold Kx
  refine Hs.loop (fun i=>∃ k : Nat,i = (k : Int) ∧ k ≤ a.length ∧ ∀ (j : Nat) v,j < k → a[j]? = some v → v ∈ b) (fun i=>a.length - i.toNat) ⟨0,rfl,Nat.zero_le _,fun j s h=>absurd h (Nat.not_lt_zero _)⟩ ?_
  rintro _ ⟨k,rfl,hk,hall⟩
  unfold KY
  refine .dec (fun hlt=>?_) fun hge=>?_
  ·have hlt : k < a.length:=by omega
   have hm:=List.getElem_mem hlt
   rw [RY,List.getElem?_eq_getElem hlt,Option.bind_some]
   unfold ND
   rw [Adk ht.1,Option.bind_some,Option.bind_some,ht.2 _ (hr _ hm).1 (hr _ hm).2,decide_eq_true (hr _ hm),Bool.true_and]
   refine .cond (fun h=>?_) fun h=>?_
   ·refine .lft (.pure ⟨fun _ hh=>?_,fun _=>by omega⟩)
    have:=hh _ hm
    simp [this] at h
   ·have hin : a[k] ∈ b:=by simpa using h
    rw [Kt (by omega)]
    refine .cnt ⟨⟨k + 1,rfl,hlt,fun j s hj hs=>?_⟩,by simp only; omega⟩
    by_cases e : j = k
    ·subst e
     rw [List.getElem?_eq_getElem hlt] at hs
     cases hs
     exact hin
    ·exact hall j s (by omega) hs
  ·refine .lft (.pure ⟨fun h=>by omega,fun h=>(h fun s hs=>?_).elim⟩)
   obtain ⟨j,hj⟩:=List.getElem?_of_mem hs
   exact hall j s (by have:=(List.getElem?_eq_some_iff.1 hj).1; omega) hj
 unfold KG
 refine Hs.bind (P:=fun b'=>(b' = true ↔ ¬ ∀ v ∈ a,v ∈ b)) (key.bind fun i hi=>.pure (by simpa using hi)) fun b' hb'=>.pure ?_
 constructor
 ·intro h
  have h' : b' = false:=by simpa using h
  refine Classical.byContradiction fun hn=>?_
  have:=hb'.2 hn
  rw [h'] at this; cases this
 ·intro h
  have : ¬ b' = true:=fun hbt=>hb'.1 hbt h
  simpa using this
theorem AeI {f : JN} (hf : KH f) {l : JP} (hl : LU f l.Out) {k : Nat} (hk : k < f.Code.length) (p : Int → Bool) :
  Hs (Lz f k k ((JW l.Out (k : Nat)).filter p) l) fun b=>(b = true ↔ ∀ j ∈ Ll (Kc f k) k,∀ v ∈ inN (Kc f j) (JW (l.Out.set k ((JW l.Out (k : Nat)).filter p)) j),v ∈ (JW l.Out (k : Nat)).filter p):=by
 have hlen:=hf.len'
 have hx : f.Code[k]? = some (Kc f k):=by simp [Kc,hk]
 have hn:=hf.next k _ hx
 have h2:=AaZ (Kc f k) k
 have hkl : k < l.Out.length:=by have:=hl.1; omega
 have hl':=AaK hl k p
 generalize hless : (JW l.Out (k : Nat)).filter p = less at *
 have wo : ∀ j : Int,0 ≤ j → j < f.Code.length → KN j k less l = some (JW (l.Out.set k less) j):=by
  intro j h0 h1
  unfold KN
  by_cases e : j = k
  ·subst e
   rw [TL h0 hkl,if_pos rfl]
   simp
  ·have hb : (j == (k : Int)) = false:=by simpa using e
   obtain ⟨o1,o2⟩:=hl.at h0 h1
   rw [hb,cond_false,TL h0 hkl,if_neg e,TI _ h0,o1]; rfl
 have hself : JW (l.Out.set k less) (k : Nat) = less:=by rw [TL (by omega) hkl,if_pos rfl]
 unfold Lz
 refine Hs.bind ?_ fun r hr=>.pure hr
 unfold Kz
 rw [AbN hx (by omega),Option.bind_some]
 generalize Ll (Kc f k) k = js at *
 refine Hs.loop (fun i=>∃ q : Nat,i = (q : Int) ∧ q ≤ js.length ∧ ∀ (m : Nat) j,m < q → js[m]? = some j → ∀ v ∈ inN (Kc f j) (JW (l.Out.set k less) j),v ∈ less) (fun i=>js.length - i.toNat) ⟨0,rfl,Nat.zero_le _,fun m j h=>absurd h (Nat.not_lt_zero _)⟩ ?_
 rintro _ ⟨q,rfl,hq,hall⟩
 unfold KJ
 refine .dec (fun hlt=>?_) fun hge=>?_
 ·have hlt : q < js.length:=by omega
  have hm:=List.getElem_mem hlt
  have hjm:=hn _ hm
  obtain ⟨c1,c2⟩:=hf.at hjm.1 hjm.2
  obtain ⟨p1,p2⟩:=hl'.at hjm.1 hjm.2
  obtain ⟨s1,s2⟩:=TH hf c2 p2
  have hlessl:=(hl'.at (j:=(k : Int)) (by omega) (by omega)).2
  rw [hself] at hlessl
  refine .chk (by omega) ?_
  rw [Int.toNat_natCast,List.getElem?_eq_getElem hlt,Option.bind_some,TI _ hjm.1,c1,Option.bind_some,wo _ hjm.1 hjm.2,Option.bind_some,Adh p2.1 (hf.Acu c2),Option.bind_some]
  unfold Lv
  rw [wo k (by omega) (by omega),Option.bind_some,hself]
  refine Hs.bind (P:=fun b=>(b = true ↔ ∀ v ∈ inN (Kc f js[q]) (JW (l.Out.set k less) js[q]),v ∈ less)) ((AbH _ _ (by have:=s1.1.length_le; omega) (by have:=hlessl.1.length_le; omega) (fun v hv=>s1.1.2 v hv)).bind fun b hb=>.pure hb) fun b hb=>.cond (fun h=>?_) fun h=>?_
  ·refine .lft (.pure ⟨fun h=>(by cases h),fun hh=>?_⟩)
   have:=hb.2 (hh _ hm)
   simp [this] at h
  ·have hbt : b = true:=by simpa using h
   rw [Kt (by omega)]
   refine .cnt ⟨⟨q + 1,rfl,hlt,fun m j hm hj=>?_⟩,by simp only; omega⟩
   by_cases e : m = q
   ·subst e
    rw [List.getElem?_eq_getElem hlt] at hj
    cases hj
    exact hb.1 hbt
   ·exact hall m j (by omega) hj
 ·refine .lft (.pure ⟨fun _ j hj=>?_,fun _=>rfl⟩)
  obtain ⟨m,hm⟩:=List.getElem?_of_mem hj
  exact hall m j (by have:=(List.getElem?_eq_some_iff.1 hm).1; omega) hm
open Classical in
noncomputable def YK (f : JN) (l : List (List Int)) (k : Nat) (s : List Int) : Nat:=s.countP fun x=>decide (Acc f (l.set k ((JW l (k : Nat)).filter (· != x))))
noncomputable def VW (f : JN) (l : List (List Int)) : Nat → Nat
 | 0=>0
 | k + 1=>VW f l k + YK f l k (JW l (k : Nat))
theorem AaU (f : JN) (l : List (List Int)) (k : Nat) (s : List Int) : YK f l k s ≤ s.length:=List.countP_le_length
theorem Abe {f : JN} {l : List (List Int)} (hl : LU f l) : ∀ k,k ≤ l.length → VW f l k ≤ 512 * k
 | 0,_=>by simp [VW]
 | k + 1,h=>by
  have h1:=Abe hl k (by omega)
  have h2:=AaU f l k (JW l (k : Nat))
  have h3:=(hl.at (j:=(k : Int)) (by omega) (by have:=hl.1; omega)).2.1.length_le
  simp only [VW]; omega
open Classical in
theorem XO (f : JN) (l : List (List Int)) (k : Nat) (s : List Int) {i : Nat} {x : Int} (h : s[i]? = some x) : YK f l k (s.take (i + 1)) = YK f l k (s.take i) + if Acc f (l.set k ((JW l (k : Nat)).filter (· != x))) then 1 else 0:=by
 unfold YK
 rw [List.take_add_one,h,List.countP_append]
 simp
open Classical in
theorem AeO {f : JN} (hf : KH f) {l : JP} (hlo : TQ l.Out) : Hs (NU f l) fun n=>n = if Acc f l.Out then (VW f l.Out l.Out.length : Int) else 0:=by
 unfold NU
 refine (YJ hf hlo).bind fun e he=>.bne (fun hne=>.pure ?_) fun he0=>?_
 ·rw [if_neg fun h=>hne (he.2.2 h)]
 ·have hacc:=he.2.1 he0
  have hl:=hacc.1
  have hlen:=hf.len'
  have hll:=hl.1
  rw [if_pos hacc]
  refine Hs.loop (fun s=>∃ k : Nat,s.1 = (k : Int) ∧ k ≤ l.Out.length ∧ s.2 = (VW f l.Out k : Int)) (fun s=>l.Out.length - s.1.toNat) ⟨0,rfl,Nat.zero_le _,rfl⟩ ?_
  rintro ⟨k',n⟩ ⟨k,hk',hk,hn⟩
  simp only at hk' hn
  subst hk' hn
  have hsum:=Abe hl k hk
  unfold Pm
  refine .dec (fun hlt=>?_) fun hge=>?_
  ·have hlt : k < l.Out.length:=by simp only at hlt; omega
   obtain ⟨o1,o2⟩:=hl.at (j:=(k : Int)) (by omega) (by omega)
   simp only [Int.toNat_natCast] at o1
   have hle:=o2.1.length_le
   rw [RY,o1,Option.bind_some]
   refine Hs.loop (fun s=>∃ i : Nat,s.1 = (i : Int) ∧ i ≤ (JW l.Out (k : Nat)).length ∧ s.2 = ((VW f l.Out k + YK f l.Out k ((JW l.Out (k : Nat)).take i) : Nat) : Int)) (fun s=>(JW l.Out (k : Nat)).length - s.1.toNat) ⟨0,rfl,Nat.zero_le _,by simp [YK]⟩ ?_
   rintro ⟨i',n⟩ ⟨i,hi',hi,hn⟩
   simp only at hi' hn
   subst hi' hn
   unfold Pn
   refine .dec (fun hlt2=>?_) fun hge=>?_
   ·have hlt2 : i < (JW l.Out (k : Nat)).length:=by simp only at hlt2; omega
    have hx : (JW l.Out (k : Nat))[i]? = some ((JW l.Out (k : Nat))[i]):=List.getElem?_eq_getElem hlt2
    generalize (JW l.Out (k : Nat))[i] = x at hx
    have hcl:=AaU f l.Out k ((JW l.Out (k : Nat)).take i)
    rw [List.length_take] at hcl
    rw [RY,hx,Option.bind_some,Zu o2.1,Option.bind_some]
    refine (AeI hf hl (by omega) (· != x)).bind fun b hb=>?_
    have hb' : b = true ↔ Acc f (l.Out.set k ((JW l.Out (k : Nat)).filter (· != x))):=by rw [hb,Ach hf hacc (by omega)]
    rw [Kt (by omega)]
    refine .cond (fun h=>?_) fun h=>?_
    ·rw [wrap64 (by omega) (by omega)]
     refine .cnt ⟨⟨i + 1,rfl,hlt2,?_⟩,by simp only; omega⟩
     rw [XO f l.Out k _ hx,if_pos (hb'.1 h)]
     simp only; omega
    ·refine .cnt ⟨⟨i + 1,rfl,hlt2,?_⟩,by simp only; omega⟩
     rw [XO f l.Out k _ hx,if_neg fun hh=>by rw [hb'.2 hh] at h; cases h]
     simp
   ·obtain rfl : i = (JW l.Out (k : Nat)).length:=by simp only at hge; omega
    rw [Kt (by omega)]
    refine .lft (.cnt ⟨⟨k + 1,rfl,hlt,?_⟩,by simp only; omega⟩)
    simp only [List.take_length,VW]
  ·obtain rfl : k = l.Out.length:=by simp only at hge; omega
   exact .lft (.pure rfl)
end Go.Proofs.YtcelninhkmhjkaaDoor
namespace Go.Proofs.YtcelninhkmhjkaaDoor
open Go Go.Dw Go.Proofs
open Classical in
theorem Ads {f : JN} (hf : KH f) {l : JP} (hlo : TQ l.Out) : Hs (QL f l) fun n=>n = if Acc f l.Out then (VW f l.Out l.Out.length : Int) else 0:=by
 unfold QL
 refine (ZF hf hlo).bind fun e he=>.bne (fun hne=>.pure ?_) fun he0=>?_
 ·rw [if_neg fun h=>hne (he.2.2 h)]
 ·have hacc:=he.2.1 he0
  have hl:=hacc.1
  have hlen:=hf.len'
  have hll:=hl.1
  rw [if_pos hacc]
  refine Hs.loop (fun s=>∃ k : Nat,s.2 = (k : Int) ∧ k ≤ l.Out.length ∧ s.1 = (VW f l.Out k : Int)) (fun s=>l.Out.length - s.2.toNat) ⟨0,rfl,Nat.zero_le _,rfl⟩ ?_
  rintro ⟨n,k'⟩ ⟨k,hk',hk,hn⟩
  simp only at hk' hn
  subst hk' hn
  have hsum:=Abe hl k hk
  unfold Sf
  refine .dec (fun hlt=>?_) fun hge=>?_
  ·have hlt : k < l.Out.length:=by simp only at hlt; omega
   obtain ⟨o1,o2⟩:=hl.at (j:=(k : Int)) (by omega) (by omega)
   simp only [Int.toNat_natCast] at o1
   have hle:=o2.1.length_le
   refine Hs.loop (fun s=>∃ i : Nat,s.2 = (i : Int) ∧ i ≤ (JW l.Out (k : Nat)).length ∧ s.1 = ((VW f l.Out k + YK f l.Out k ((JW l.Out (k : Nat)).take i) : Nat) : Int)) (fun s=>(JW l.Out (k : Nat)).length - s.2.toNat) ⟨0,rfl,Nat.zero_le _,by simp [YK]⟩ ?_
   rintro ⟨n,i'⟩ ⟨i,hi',hi,hn⟩
   simp only at hi' hn
   subst hi' hn
   unfold Sg
   simp only [RY,o1,Option.bind_some]
   refine .dec (fun hlt2=>?_) fun hge=>?_
   ·have hlt2 : i < (JW l.Out (k : Nat)).length:=by omega
    have hx : (JW l.Out (k : Nat))[i]? = some ((JW l.Out (k : Nat))[i]):=List.getElem?_eq_getElem hlt2
    generalize (JW l.Out (k : Nat))[i] = x at hx
    have hcl:=AaU f l.Out k ((JW l.Out (k : Nat)).take i)
    rw [List.length_take] at hcl
    refine .chk (by simp; omega) ?_
    simp only [hx,Option.bind_some,ZU (JW l.Out (k : Nat)) x (by omega),List.nil_append,Int.toNat_natCast,o1]
    refine .chk (by omega) ?_
    refine (ZF hf (l:=⟨_⟩) ((AaK hl k (· != x)).len hf)).bind fun b hb=>?_
    simp only at hb
    refine .beq (fun h=>?_) fun h=>?_
    ·rw [wrap64 (by omega) (by omega),Kt (by omega)]
     refine .cnt ⟨⟨i + 1,rfl,hlt2,?_⟩,by simp only; omega⟩
     rw [XO f l.Out k _ hx,if_pos (hb.2.1 h)]
     simp only; omega
    ·rw [Kt (by omega)]
     refine .cnt ⟨⟨i + 1,rfl,hlt2,?_⟩,by simp only; omega⟩
     rw [XO f l.Out k _ hx,if_neg fun hh=>h (hb.2.2 hh)]
     simp
   ·obtain rfl : i = (JW l.Out (k : Nat)).length:=by omega
    unfold Sh
    rw [Kt (by omega)]
    refine .lft (.cnt ⟨⟨k + 1,rfl,hlt,?_⟩,by simp only; omega⟩)
    simp only [List.take_length,VW]
  ·obtain rfl : k = l.Out.length:=by simp only at hge; omega
   exact .lft (.pure rfl)
end Go.Proofs.YtcelninhkmhjkaaDoor
namespace Go.Proofs.YtcelninhkmhjkaaDoor
open Go Go.Dw Go.Proofs
theorem XE (codes : List Int) (raw : JP) (hc : qL (MU .u8) codes) (hr : AcT raw) : Hs (Mc codes raw) fun b=>b = true:=by
 unfold Mc
 rw [AeY]
 simp only [Option.bind_some,Bool.not_true,cond_false]
 refine .dec (fun h=>.pure (by simpa using h)) fun h=>?_
 have h100 : raw.Out.length ≤ 100:=by omega
 unfold Nj
 refine (AcX codes hc).bind fun p ⟨_,⟨ps,i,hfo⟩,h1,h2⟩=>?_
 have hf:=hfo.Aij (by omega)
 have hlo:=Vp.len hf h1 h2
 have hraw : TQ raw.Out:=⟨hr.1,fun s hs=>(hr.2 s hs).1⟩
 have hnil : TQ ([] : List (List Int)):=⟨by simp,fun s hs=>by cases hs⟩
 refine Hs.loop (fun i=>∃ k : Nat,i = (k : Int) ∧ k ≤ 3) (fun i=>3 - i.toNat) ⟨0,rfl,by omega⟩ ?_
 rintro _ ⟨k,rfl,hk⟩
 unfold Ni
 refine .dec (fun hlt=>?_) fun _=>.lft (.pure rfl)
 have hlt : k < 3:=by simp only [List.length_cons,List.length_nil] at hlt; omega
 refine .chk (by simp only [List.length_cons,List.length_nil]; omega) ?_
 have hget : ∃ x : JP,([p.2.1,raw,(JP.mk ([]))] : List JP)[k]? = some x ∧ TQ x.Out:=by
  match k,hlt with
  | 0,_=>exact ⟨_,rfl,hlo⟩
  | 1,_=>exact ⟨_,rfl,hraw⟩
  | 2,_=>exact ⟨_,rfl,hnil⟩
 obtain ⟨x,hx,hxl⟩:=hget
 rw [Int.toNat_natCast,hx,Option.bind_some]
 refine (AbM hf hxl).bind fun a ha=>(Abm hf hxl).bind fun b hb=>?_
 obtain rfl:=ha.unique hb
 refine (YJ hf hxl).bind fun c hc=>(ZF hf hxl).bind fun d hd=>?_
 have hcd : c = d:=by
  rcases hc.1 with h | h
  ·rw [h,hd.2.2 (hc.2.1 h)]
  ·rcases hd.1 with h' | h'
   ·have:=hc.2.2 (hd.2.1 h'); omega
   ·rw [h,h']
 subst hcd
 simp only [bne_self_eq_false,cond_false,beq_self_eq_true,Bool.not_true]
 refine (AeO hf hxl).bind fun m hm=>(Ads hf hxl).bind fun n hn=>?_
 obtain rfl : m = n:=by rw [hm,hn]
 simp only [bne_self_eq_false,cond_false]
 rw [Kt (by omega)]
 exact .cnt ⟨⟨k + 1,rfl,hlt⟩,by simp only; omega⟩
theorem WA (codes : List Int) (raw : JP) (hc : qL (MU .u8) codes) (hr : AcT raw) : Mc codes raw = some true:=by
 obtain ⟨r,h,rfl⟩:=XE codes raw hc hr
 exact h
end Go.Proofs.YtcelninhkmhjkaaDoor
