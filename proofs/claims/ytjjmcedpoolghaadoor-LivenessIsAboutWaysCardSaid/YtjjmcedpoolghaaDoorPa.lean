/-
  Plain laws about the typed programs.
-/
import Derived.Test.YtjjmcedpoolghaaDoorDc
import Derived.Test.YtjjmcedpoolghaaDoorDxP
namespace Go.Dw
section
variable {ι R α : Type} {body : ι → Option (ι ⊕ R)} {v : R}
theorem PI {α β : Type} (s : List α) (mk : β → Int → ι) (I : β → Nat → Prop) (F : β → List α → Option R)
  (hnil : ∀ acc,I acc s.length → ∃ v,body (mk acc s.length) = some (.inr v) ∧ F acc [] = some v)
  (hcons : ∀ acc (i : Nat) x r,I acc i → s.drop i = x :: r → i < s.length → s[i]? = some x →
   (∃ acc',I acc' (i + 1) ∧ body (mk acc i) = some (.inl (mk acc' ((i + 1 : Nat) : Int))) ∧ F acc (x :: r) = F acc' r) ∨ (∃ v,body (mk acc i) = some (.inr v) ∧ F acc (x :: r) = some v))
  (acc : β) (h0 : I acc 0) : Lb body (mk acc 0) = F acc s:=by
 have : ∀ k i acc,i + k = s.length → I acc i → Lb body (mk acc (i : Nat)) = F acc (s.drop i):=by
  intro k
  induction k with
  | zero =>
   intro i acc hi hI
   simp only [Nat.add_zero] at hi
   subst hi
   obtain ⟨v,h1,h2⟩:=hnil acc hI
   rw [Vi,h1,List.drop_length,h2]
  | succ k ih =>
   intro i acc hi hI
   have hl : i < s.length:=by omega
   have hd:=List.drop_eq_getElem_cons hl
   rw [hd]
   rcases hcons acc i _ _ hI hd hl (List.getElem?_eq_getElem hl) with ⟨acc',h1,h2,h3⟩ | ⟨v,h1,h2⟩
   ·rw [Vi,h2,h3]
    exact ih (i + 1) acc' (by omega) h1
   ·rw [Vi,h1,h2]
 have:=this s.length 0 acc (by omega) h0
 simpa using this
@[simp] theorem Tv (l : List α) (i : Nat) : ixO l (i : Int) = l[i]?:=by
 unfold ixO
 rw [if_neg (by omega)]
 simp
theorem RS (l : List α) {i : Int} (h : 0 ≤ i) : ixO l i = l[i.toNat]?:=by
 unfold ixO
 rw [if_neg (by omega)]
@[simp] theorem AdR (l : List α) (i : Nat) : ixO l ((i : Int) + 1) = l[i + 1]?:=by
 have:=Tv l (i + 1)
 simpa using this
@[simp] theorem AdS (l : List α) : ixO l 0 = l[0]?:=RS l (Int.le_refl 0)
theorem wrap64 {n : Int} (h0 : -9223372036854775808 ≤ n) (h1 : n ≤ 9223372036854775807) : IntKind.i64.wrap n = n:=Abx h0 h1
@[simp] theorem AdZ : IntKind.i64.wrap 0 = 0:=by decide
@[simp] theorem Aea : IntKind.i64.wrap 1 = 1:=by decide
@[simp] theorem Aeb : IntKind.i64.wrap 2 = 2:=by decide
@[simp] theorem Aec : IntKind.i64.wrap 3 = 3:=by decide
theorem Lj {i : Nat} (h : i < 9223372036854775807) : IntKind.i64.wrap ((i : Int) + 1) = ((i + 1 : Nat) : Int):=by
 rw [wrap64 (by omega) (by omega)]; rfl
@[simp] theorem AdU (r : R) : (lft (some r) : Option (ι ⊕ R)) = some (.inr r):=rfl
@[simp] theorem AdT : (lft none : Option (ι ⊕ R)) = none:=rfl
@[simp] theorem AdX (s : ι) : (cnt s : Option (ι ⊕ R)) = some (.inl s):=rfl
theorem Abh (a b : Int) : Ry a b = min a b:=by unfold Ry; split <;> omega
end
end Go.Dw
namespace Go.Proofs.YtjjmcedpoolghaaDoor
open Go Go.Dw Go.Proofs
attribute [local simp] Lz Bool.cond_eq_ite
theorem Abf (n : Int) : PZ n = some (decide (0 ≤ n ∧ n < 512)):=by
 unfold PZ
 by_cases h : 0 ≤ n <;> simp [h]
theorem Zn (s : List Int) (n : Int) (hs : s.length ≤ 9223372036854775807) : PJ s n = some (decide (n ∈ s)):=by
 unfold PJ
 refine PI s (fun (_ : Unit) i=>i) (fun _ _=>True) (fun _ l=>some (decide (n ∈ l))) (fun _ _=>⟨_,by simp [Ou],rfl⟩) (fun _ i x r _ hd hi hx=>?_) () trivial
 have w:=Lj (show i < 9223372036854775807 by omega)
 by_cases h : x = n
 ·exact .inr ⟨true,by simp [Ou,hi,(List.getElem?_eq_some_iff.1 hx).2,h],by simp [h]⟩
 ·refine .inl ⟨(),trivial,?_,?_⟩
  ·obtain ⟨_,rfl⟩:=List.getElem?_eq_some_iff.1 hx
   simp [Ou,hi,h,w]
  ·have : n ≠ x:=fun e=>h e.symm
   simp [this]
def NF (n : Int) : List Int → List Int
 | []=>[n]
 | x :: r=>if x < n then x :: NF n r else if x = n then x :: r else n :: x :: r
theorem WT (n : Int) : ∀ s,(NF n s).length ≤ s.length + 1
 | []=>by simp [NF]
 | x :: r=>by
  have:=WT n r
  simp only [NF]
  split
  ·simp; omega
  ·split <;> simp
def MZ (n : Int) (s : List Int) : List Int:=if 0 ≤ n ∧ n < 512 then NF n s else s
theorem add_eq (s : List Int) (n : Int) (hs : s.length ≤ 1000000) : OE s n = some (MZ n s):=by
 unfold OE MZ
 rw [Abf]
 simp only [Option.bind_some]
 have key : ∀ d : Bool,Lb (fun s_1 : List Int × Bool × Int=>LP s n s_1.1 s_1.2.1 s_1.2.2) ([],d,0) = some (if d then s else NF n s):=by
  intro d
  have:=PI (body:=fun s_1 : List Int × Bool × Int=>LP s n s_1.1 s_1.2.1 s_1.2.2) s (fun (p : List Int × Bool) i=>(p.1,p.2,i)) (fun p i=>p.1.length ≤ i + (if p.2 then 1 else 0)) (fun p l=>some (p.1 ++ (if p.2 then l else NF n l)))
   (fun p hp=>by
    obtain ⟨out,done⟩:=p
    cases done <;> simp only [if_true,Bool.false_eq_true,if_false] at hp
    ·exact ⟨out ++ [n],by simp [LP,show out.length ≤ 16777215 by omega],by simp [NF]⟩
    ·exact ⟨out,by simp [LP],by simp⟩)
   (fun p i x r hp hd hi hx=>by
    obtain ⟨out,done⟩:=p
    have w:=Lj (show i < 9223372036854775807 by omega)
    obtain ⟨_,rfl⟩:=List.getElem?_eq_some_iff.1 hx
    left
    cases done <;> simp only [if_true,Bool.false_eq_true,if_false] at hp
    ·by_cases h1 : n ≤ s[i]
     ·by_cases h2 : n < s[i]
      ·refine ⟨(out ++ [n] ++ [s[i]],true),by simp; omega,?_,?_⟩
       ·simp [LP,MQ,Mw,hi,h1,h2,w,show out.length ≤ 16777215 by omega,show out.length ≤ 16777214 by omega]
       ·simp [NF,show ¬ s[i] < n by omega,show ¬ s[i] = n by omega]
      ·refine ⟨(out ++ [s[i]],true),by simp; omega,?_,?_⟩
       ·simp [LP,MQ,Mw,hi,h1,h2,w,show out.length ≤ 16777215 by omega]
       ·simp [NF,show ¬ s[i] < n by omega,show s[i] = n by omega]
     ·refine ⟨(out ++ [s[i]],false),by simp; omega,?_,?_⟩
      ·simp [LP,MQ,Mw,hi,h1,w,show out.length ≤ 16777215 by omega]
      ·simp [NF,show s[i] < n by omega]
    ·refine ⟨(out ++ [s[i]],true),by simp; omega,?_,?_⟩
     ·simp [LP,MQ,Mw,hi,w,show out.length ≤ 16777215 by omega]
     ·simp)
   ([],d) (by simp)
  simpa using this
 rw [key]
 by_cases h : 0 ≤ n ∧ n < 512 <;> simp [h]
def Lh (s : List Int) : Prop:=s.Pairwise (· < ·) ∧ ∀ x ∈ s,0 ≤ x ∧ x < 512
theorem Lh.length_le {s : List Int} (h : Lh s) : s.length ≤ 512:=by
 have : ∀ (s : List Int) (a : Int),s.Pairwise (· < ·) → (∀ x ∈ s,a ≤ x ∧ x < 512) → a ≤ 512 → (s.length : Int) ≤ 512 - a:=by
  intro s
  induction s with
  | nil=>intro a _ _ ha; simp; omega
  | cons x r ih =>
   intro a hp hb ha
   rw [List.pairwise_cons] at hp
   have hx:=hb x (by simp)
   have:=ih (x + 1) hp.2 (fun y hy=>⟨by have:=hp.1 y hy; omega,(hb y (by simp [hy])).2⟩) (by omega)
   simp only [List.length_cons]
   omega
 have:=this s 0 h.1 h.2 (by omega)
 omega
theorem RX (n m : Int) : ∀ s,m ∈ NF n s ↔ m = n ∨ m ∈ s
 | []=>by simp [NF]
 | x :: r=>by
  simp only [NF]
  split
  ·simp only [List.mem_cons,RX n m r]
   constructor
   ·rintro (h | h | h) <;> simp [h]
   ·rintro (h | h | h) <;> simp [h]
  ·split
   ·rename_i h; subst h; simp
   ·simp
theorem Lh.NF {n : Int} {s : List Int} (h : Lh s) (hn : 0 ≤ n ∧ n < 512) : Lh (Proofs.YtjjmcedpoolghaaDoor.NF n s):=by
 refine ⟨?_,fun x hx=>?_⟩
 ·replace h:=h.1
  clear hn
  induction s with
  | nil=>simp [Proofs.YtjjmcedpoolghaaDoor.NF]
  | cons x r ih =>
   rw [List.pairwise_cons] at h
   simp only [Proofs.YtjjmcedpoolghaaDoor.NF]
   split
   ·rw [List.pairwise_cons]
    refine ⟨fun y hy=>?_,ih h.2⟩
    rw [RX] at hy
    rcases hy with rfl | hy
    ·assumption
    ·exact h.1 y hy
   ·split
    ·rw [List.pairwise_cons]; exact h
    ·rw [List.pairwise_cons,List.pairwise_cons]
     refine ⟨fun y hy=>?_,h⟩
     rcases List.mem_cons.1 hy with rfl | hy
     ·omega
     ·have:=h.1 y hy; omega
 ·rw [RX] at hx
  rcases hx with rfl | hx
  ·exact hn
  ·exact h.2 x hx
theorem Lh.nil : Lh []:=⟨List.Pairwise.nil,fun x hx=>by cases hx⟩
end Go.Proofs.YtjjmcedpoolghaaDoor
namespace Go.Proofs.YtjjmcedpoolghaaDoor
open Go Go.Dw Go.Proofs
attribute [local simp] Lz Bool.cond_eq_ite
theorem Abm (a b : List Int) (h : a.length ≤ 9223372036854775807) : PX a b = some (decide (a = b)):=by
 unfold PX
 by_cases hl : a.length = b.length
 ·have:=PI (body:=fun i : Int=>Nc a b i) a (fun (_ : List Int) i=>i) (fun acc i=>b.drop i = acc) (fun acc l=>some (decide (l = acc)))
   (fun acc hacc=>⟨true,by simp [Nc],by rw [hl] at hacc; simp at hacc; simp [← hacc]⟩) (fun acc i x r hacc hd hi hx=>by
    have w:=Lj (show i < 9223372036854775807 by omega)
    obtain ⟨_,rfl⟩:=List.getElem?_eq_some_iff.1 hx
    have hib : i < b.length:=by omega
    have hdb:=List.drop_eq_getElem_cons hib
    by_cases e : a[i] = b[i]
    ·exact .inl ⟨b.drop (i + 1),rfl,by simp [Nc,hi,hib,e,w],by rw [← hacc,hdb]; simp only [List.cons.injEq,e,true_and]⟩
    ·exact .inr ⟨false,by simp [Nc,hi,hib,e],by rw [← hacc,hdb]; simp only [List.cons.injEq,e,false_and,decide_false]⟩)
   b (by simp)
  simpa [hl] using this
 ·have : ¬ a = b:=fun e=>hl (by rw [e])
  simp [this,show ¬ (a.length : Int) = b.length by omega]
end Go.Proofs.YtjjmcedpoolghaaDoor
namespace Go.Proofs.YtjjmcedpoolghaaDoor
open Go Go.Dw Go.Proofs
attribute [local simp] Lz Bool.cond_eq_ite
theorem Za (a b : List (List Int)) (h : a.length ≤ 9223372036854775807) (hr : ∀ s ∈ a,s.length ≤ 9223372036854775807) : NI a b = some (decide (a = b)):=by
 unfold NI
 by_cases hl : a.length = b.length
 ·have:=PI (body:=fun i : Int=>Mg a b i) a (fun (_ : List (List Int)) i=>i) (fun acc i=>b.drop i = acc) (fun acc l=>some (decide (l = acc)))
   (fun acc hacc=>⟨true,by simp [Mg],by rw [hl] at hacc; simp at hacc; simp [← hacc]⟩) (fun acc i x r hacc hd hi hx=>by
    have w:=Lj (show i < 9223372036854775807 by omega)
    obtain ⟨_,rfl⟩:=List.getElem?_eq_some_iff.1 hx
    have hib : i < b.length:=by omega
    have hdb:=List.drop_eq_getElem_cons hib
    have hs:=Abm a[i] b[i] (hr _ (List.getElem_mem _))
    by_cases e : a[i] = b[i]
    ·refine .inl ⟨b.drop (i + 1),rfl,?_,by rw [← hacc,hdb]; simp only [List.cons.injEq,e,true_and]⟩
     rw [decide_eq_true e] at hs
     simp [Mg,hi,hib,hs,w]
    ·refine .inr ⟨false,?_,by rw [← hacc,hdb]; simp only [List.cons.injEq,e,false_and,decide_false]⟩
     rw [decide_eq_false e] at hs
     simp [Mg,hi,hib,hs])
   b (by simp)
  simpa [hl] using this
 ·have : ¬ a = b:=fun e=>hl (by rw [e])
  simp [this,show ¬ (a.length : Int) = b.length by omega]
end Go.Proofs.YtjjmcedpoolghaaDoor
namespace Go.Proofs.YtjjmcedpoolghaaDoor
open Go Go.Dw Go.Proofs
attribute [local simp] Lz Bool.cond_eq_ite
theorem Zv (s : List Int) (n : Int) (hs : s.length ≤ 16777215) : Ov s n = some (s.filter (· != n)):=by
 unfold Ov
 have:=PI (body:=fun p : List Int × Int=>Mx s n p.1 p.2) s (fun (out : List Int) i=>(out,i)) (fun out i=>out.length ≤ i) (fun out l=>some (out ++ l.filter (· != n)))
  (fun out _=>⟨out,by simp [Mx],by simp⟩) (fun out i x r ho hd hi hx=>by
   have w:=Lj (show i < 9223372036854775807 by omega)
   obtain ⟨_,rfl⟩:=List.getElem?_eq_some_iff.1 hx
   left
   by_cases h : s[i] = n
   ·exact ⟨out,by omega,by simp [Mx,hi,h,w],by simp [h]⟩
   ·exact ⟨out ++ [s[i]],by simp; omega,by simp [Mx,hi,h,w,show out.length ≤ 16777215 by omega],by simp [h]⟩)
  [] (by simp)
 simpa using this
def LQ (a b : List Int) : List Int:=b.foldl (fun o x=>MZ x o) a
theorem YC (n : Int) (s : List Int) : (MZ n s).length ≤ s.length + 1:=by
 unfold MZ
 split
 ·exact WT n s
 ·omega
theorem union_eq (a b : List Int) (h : a.length + b.length ≤ 1000000) : Ni a b = some (LQ a b):=by
 unfold Ni LQ
 rw [Lz (by simp; omega)]
 have:=PI (body:=fun p : List Int × Int=>Nl b p.1 p.2) b (fun (out : List Int) i=>(out,i)) (fun out i=>out.length ≤ a.length + i) (fun out l=>some (l.foldl (fun o x=>MZ x o) out))
  (fun out _=>⟨out,by simp [Nl],by simp⟩) (fun out i x r ho hd hi hx=>by
   have w:=Lj (show i < 9223372036854775807 by omega)
   obtain ⟨_,rfl⟩:=List.getElem?_eq_some_iff.1 hx
   have hl:=YC b[i] out
   left
   exact ⟨MZ b[i] out,by omega,by simp [Nl,hi,add_eq out b[i] (by omega),w],by simp⟩)
  a (by simp)
 simpa using this
theorem Xx : ∀ {a b : List Int},a.Pairwise (· < ·) → b.Pairwise (· < ·) → (∀ v ∈ a,v ∈ b) → a.Sublist b
 | [],_,_,_,_=>List.nil_sublist _
 | x :: a,[],_,_,h=>by have:=h x (List.mem_cons_self ..); cases this
 | x :: a,y :: b,ha,hb,h=>by
  rw [List.pairwise_cons] at ha hb
  by_cases e : x = y
  ·subst e
   refine (Xx ha.2 hb.2 fun v hv=>?_).cons_cons x
   rcases List.mem_cons.1 (h v (List.mem_cons_of_mem _ hv)) with h1 | h1
   ·have:=ha.1 v hv; omega
   ·exact h1
  ·have hx : x ∈ b:=by
    rcases List.mem_cons.1 (h x (List.mem_cons_self ..)) with h1 | h1
    ·exact (e h1).elim
    ·exact h1
   have hyx:=hb.1 x hx
   refine (Xx (List.pairwise_cons.2 ha) hb.2 fun v hv=>?_).cons y
   rcases List.mem_cons.1 (h v hv) with h1 | h1
   ·subst h1
    rcases List.mem_cons.1 hv with h2 | h2
    ·omega
    ·have:=ha.1 v h2; omega
   ·exact h1
theorem Lh.sub {a b : List Int} (ha : Lh a) (hb : Lh b) (h : ∀ v ∈ a,v ∈ b) : a.Sublist b:=Xx ha.1 hb.1 h
theorem Lh.ext {a b : List Int} (ha : Lh a) (hb : Lh b) (h : ∀ v,v ∈ a ↔ v ∈ b) : a = b :=
 (ha.sub hb fun v hv=>(h v).1 hv).eq_of_length_le (hb.sub ha fun v hv=>(h v).2 hv).length_le
theorem Lh.filter {a : List Int} (ha : Lh a) (p : Int → Bool) : Lh (a.filter p) :=
 ⟨ha.1.sublist List.filter_sublist,fun x hx=>ha.2 x ((List.mem_filter.1 hx).1)⟩
theorem Lk.AbB {n m : Int} {s : List Int} (h : Lh s ∧ ∀ x ∈ s,x < n) (hm : 0 ≤ m ∧ m < n) (hn : n ≤ 512) : Lh (MZ m s) ∧ (∀ x ∈ MZ m s,x < n) ∧ ∀ v,v ∈ MZ m s ↔ v = m ∨ v ∈ s:=by
 unfold MZ
 rw [if_pos (by omega)]
 refine ⟨h.1.NF (by omega),fun x hx=>?_,fun v=>RX _ _ _⟩
 rw [RX] at hx
 rcases hx with rfl | hx
 ·exact hm.2
 ·exact h.2 x hx
theorem ON {n : Int} (hn : n ≤ 512) : ∀ {b a : List Int},(Lh a ∧ ∀ x ∈ a,x < n) → (∀ x ∈ b,0 ≤ x ∧ x < n) → (Lh (LQ a b) ∧ ∀ x ∈ LQ a b,x < n) ∧ ∀ v,v ∈ LQ a b ↔ v ∈ a ∨ v ∈ b
 | [],a,ha,_=>⟨ha,fun v=>by simp [LQ]⟩
 | x :: b,a,ha,hb=>by
  obtain ⟨h1,h2,h3⟩:=Lk.AbB ha (hb x (List.mem_cons_self ..)) hn
  obtain ⟨h4,h5⟩:=ON hn ⟨h1,h2⟩ fun y hy=>hb y (List.mem_cons_of_mem _ hy)
  refine ⟨h4,fun v=>?_⟩
  show v ∈ LQ (MZ x a) b ↔ _
  rw [h5,h3,List.mem_cons]
  constructor
  ·rintro ((h | h) | h)
   ·exact .inr (.inl h)
   ·exact .inl h
   ·exact .inr (.inr h)
  ·rintro (h | h | h)
   ·exact .inl (.inr h)
   ·exact .inl (.inl h)
   ·exact .inr h
end Go.Proofs.YtjjmcedpoolghaaDoor
namespace Go.Dw
open Go
def Hs {α : Type} (m : Option α) (P : α → Prop) : Prop:=∃ r,m = some r ∧ P r
section
variable {α β ι R : Type}
theorem Hs.pure {a : α} {P : α → Prop} (h : P a) : Hs (some a) P:=⟨a,rfl,h⟩
theorem Hs.bind {m : Option α} {f : α → Option β} {P : α → Prop} {Q : β → Prop} (h : Hs m P) (hf : ∀ r,P r → Hs (f r) Q) : Hs (m.bind f) Q:=by
 obtain ⟨r,rfl,hr⟩:=h
 exact hf r hr
theorem Hs.mono {m : Option α} {P Q : α → Prop} (h : Hs m P) (hf : ∀ r,P r → Q r) : Hs m Q:=by
 obtain ⟨r,h1,hr⟩:=h
 exact ⟨r,h1,hf r hr⟩
theorem Hs.chk {p : Prop} [Decidable p] {m : Option α} {P : α → Prop} (hp : p) (h : Hs m P) : Hs (chk p m) P:=by
 rw [Lz hp]; exact h
theorem Hs.cond {b : Bool} {x y : Option α} {P : α → Prop} (h1 : b = true → Hs x P) (h2 : b = false → Hs y P) : Hs (bif b then x else y) P:=by
 cases b
 ·exact h2 rfl
 ·exact h1 rfl
theorem Hs.dec {p : Prop} [Decidable p] {x y : Option α} {P : α → Prop} (h1 : p → Hs x P) (h2 : ¬ p → Hs y P) : Hs (bif decide p then x else y) P :=
 Hs.cond (fun h=>h1 (of_decide_eq_true h)) (fun h=>h2 (of_decide_eq_false h))
theorem Hs.beq {a b : Int} {x y : Option α} {P : α → Prop} (h1 : a = b → Hs x P) (h2 : a ≠ b → Hs y P) : Hs (bif a == b then x else y) P :=
 Hs.cond (fun h=>h1 (by simpa using h)) (fun h=>h2 (by simpa using h))
theorem Hs.bne {a b : Int} {x y : Option α} {P : α → Prop} (h1 : a ≠ b → Hs x P) (h2 : a = b → Hs y P) : Hs (bif a != b then x else y) P :=
 Hs.cond (fun h=>h1 (by simpa using h)) (fun h=>h2 (by simpa using h))
theorem Hs.cnt {s : ι} {P : ι ⊕ R → Prop} (h : P (.inl s)) : Hs (Go.Dw.cnt s) P:=⟨_,rfl,h⟩
theorem Hs.lft {m : Option R} {P : ι ⊕ R → Prop} (h : Hs m fun r=>P (.inr r)) : Hs (Go.Dw.lft m) P:=by
 obtain ⟨r,rfl,h⟩:=h
 exact ⟨_,rfl,h⟩
def Rnd (I : ι → Prop) (μ : ι → Nat) (s : ι) (Q : R → Prop) : ι ⊕ R → Prop
 | .inl s'=>I s' ∧ μ s' < μ s
 | .inr r=>Q r
theorem Hs.loop {body : ι → Option (ι ⊕ R)} {s : ι} {Q : R → Prop} (I : ι → Prop) (μ : ι → Nat) (h0 : I s) (hb : ∀ s,I s → Hs (body s) (Rnd I μ s Q)) : Hs (Lb body s) Q:=by
 refine Zf I Q μ h0 fun s hs=>?_
 obtain ⟨z,hz,hq⟩:=hb s hs
 cases z with
 | inl s'=>exact .inl ⟨s',hz,hq⟩
 | inr r=>exact .inr ⟨r,hz,hq⟩
theorem Hs.get {l : List α} {i : Int} {P : α → Prop} (h0 : 0 ≤ i) (h1 : i < l.length) (h : ∀ x,l[i.toNat]? = some x → P x) : Hs (l[i.toNat]?) P:=by
 have : l[i.toNat]? = some (l[i.toNat]'(by omega)):=List.getElem?_eq_getElem _
 exact ⟨_,this,h _ this⟩
theorem Hs.ix {l : List α} {i : Int} {P : α → Prop} (h0 : 0 ≤ i) (h1 : i < l.length) (h : ∀ x,l[i.toNat]? = some x → P x) : Hs (ixO l i) P:=by
 rw [RS _ h0]; exact Hs.get h0 h1 h
end
theorem WB (n : Int) : 0 ≤ IntKind.u64.wrap n ∧ IntKind.u64.wrap n < 18446744073709551616:=by
 simp [IntKind.wrap,IntKind.signed,IntKind.bits]; omega
end Go.Dw
namespace Go.Proofs.YtjjmcedpoolghaaDoor
open Go Go.Dw Go.Proofs
attribute [local simp] Lz Bool.cond_eq_ite
def okC (c : Ed) : Prop:=0 ≤ c.at_ ∧ c.at_ ≤ c.list.length ∧ c.list.length ≤ 1000 ∧ ∀ v ∈ c.list,0 ≤ v ∧ v ≤ 255
theorem Adt (l : List Int) (n : Int) (hl : qL (MP .u8) l) (h0 : 0 ≤ n) (h1 : n ≤ 1000) : ∃ c,RP l n = some c ∧ okC c:=by
 unfold RP
 have e : Ry (l.length : Int) n = min (l.length : Int) n:=Abh _ _
 rw [e]
 refine ⟨_,by rw [Lz (by omega)],by simp,?_,?_,?_⟩
 ·simp
 ·simp only [List.length_take]; omega
 ·intro v hv
  have:=hl.2 v (List.mem_of_mem_take hv)
  simpa [MP,IntKind.min,IntKind.max,IntKind.signed,IntKind.bits] using this
theorem Abk (c : Ed) (h : okC c) (n : Int) (h1 : n ≤ 1099511627776) : ∃ r c',Ky c n = some (r,c') ∧ okC c' ∧ 0 ≤ r ∧ (r < n ∨ r = 0):=by
 obtain ⟨ha,hb,hc,hd⟩:=h
 unfold Ky NN
 by_cases hl : c.at_ < c.list.length
 ·by_cases hn : n < 1
  ·exact ⟨0,c,by simp [hl,hn],⟨ha,hb,hc,hd⟩,by omega,.inr rfl⟩
  ·have hx : c.list[c.at_.toNat]? = some (c.list[c.at_.toNat]'(by omega)):=List.getElem?_eq_getElem _
   have hv:=hd _ (List.getElem_mem (show c.at_.toNat < c.list.length by omega))
   generalize hq : c.list[c.at_.toNat]'(by omega) = v at hx hv
   have e1 : IntKind.i64.wrap v = v:=wrap64 (by omega) (by omega)
   have hm0 : 0 ≤ v * n:=Int.mul_nonneg hv.1 (by omega)
   have hm1 : v * n ≤ 255 * n:=Int.mul_le_mul_of_nonneg_right hv.2 (by omega)
   have e2 : IntKind.i64.wrap (v * n) = v * n:=wrap64 (by omega) (by omega)
   have e3 : (v * n).tdiv 256 = v * n / 256:=Int.tdiv_eq_ediv_of_nonneg hm0
   have e4 : IntKind.i64.wrap (v * n / 256) = v * n / 256:=wrap64 (by omega) (by omega)
   have e5 : IntKind.i64.wrap (c.at_ + 1) = c.at_ + 1:=wrap64 (by omega) (by omega)
   refine ⟨v * n / 256,⟨c.list,c.at_ + 1⟩,?_,⟨by simp only; omega,by simp only; omega,hc,hd⟩,by omega,.inl (by omega)⟩
   simp [hl,hn,NP,RS _ ha,hx,e1,e2,e3,e4,e5]
 ·exact ⟨0,c,by simp [hl],⟨ha,hb,hc,hd⟩,by omega,.inr rfl⟩
end Go.Proofs.YtjjmcedpoolghaaDoor
namespace Go.Proofs.YtjjmcedpoolghaaDoor
open Go Go.Dw Go.Proofs
theorem Abi {c : Ed} (h : okC c) {n : Int} (h1 : n ≤ 1099511627776) : Hs (Ky c n) fun p=>okC p.2 ∧ 0 ≤ p.1 ∧ (p.1 < n ∨ p.1 = 0):=by
 obtain ⟨r,c',e,h2,h3,h4⟩:=Abk c h n h1
 exact ⟨(r,c'),e,h2,h3,h4⟩
theorem KU {c : Ed} (h : okC c) {n : Int} (h0 : 1 ≤ n) (h1 : n ≤ 1099511627776) : Hs (Ky c n) fun p=>okC p.2 ∧ 0 ≤ p.1 ∧ p.1 < n :=
 (Abi h h1).mono fun r hr=>⟨hr.1,hr.2.1,by omega⟩
def UE (s : KP) : Prop:=s.Size ∈ ([8,4,8,1,2,16,8] : List Int) ∧ s.Align ∈ ([8,4,1,8,16,2,32,64] : List Int)
def W64 (w : Int) : Prop:=0 ≤ w ∧ w < 18446744073709551616
def Reg (a : Int) : Prop:=0 ≤ a ∧ a < 4
theorem Abn {c : Ed} (h : okC c) : Hs (MT c) fun p=>okC p.2 ∧ UE p.1:=by
 unfold MT
 refine (KU h (by omega) (by omega)).bind fun r hr=>.chk (by simp; omega) ?_
 refine (Hs.get hr.2.1 (by simp; omega) fun x hx=>List.mem_of_getElem? hx).bind fun x hx=>?_
 refine (KU hr.1 (by omega) (by omega)).bind fun r' hr'=>.chk (by simp; omega) ?_
 refine (Hs.get hr'.2.1 (by simp; omega) fun x hx=>List.mem_of_getElem? hx).bind fun y hy=>?_
 exact .pure ⟨hr'.1,hx,hy⟩
theorem AaQ {c : Ed} (h : okC c) {m : Int} (hm : 0 ≤ m) (hm' : m ≤ 1000) : Hs (MG c m) fun p=>okC p.2 ∧ (p.1.length : Int) ≤ m ∧ ∀ s ∈ p.1,UE s:=by
 unfold MG
 have w : IntKind.i64.wrap (m + 1) = m + 1:=wrap64 (by omega) (by omega)
 rw [w]
 refine (KU h (by omega) (by omega)).bind fun r hr=>?_
 refine Hs.loop (fun s=>okC ⟨s.1,s.2.1⟩ ∧ (s.2.2.1.length : Int) + s.2.2.2 ≤ m ∧ (∀ x ∈ s.2.2.1,UE x) ∧ 0 ≤ s.2.2.2) (fun s=>s.2.2.2.toNat) ⟨hr.1,by simp; omega,by simp,hr.2.1⟩ ?_
 rintro ⟨l,a,sl,n⟩ ⟨hc,hl,hs,hn⟩
 simp only at hc hl hs hn
 unfold Ny
 refine .dec (fun hlt=>?_) fun hlt=>?_
 ·have hlt : 0 < n:=hlt
  have w : IntKind.i64.wrap (n - 1) = n - 1:=wrap64 (by omega) (by omega)
  refine (Abn hc).bind fun x hx=>.chk (by simp; omega) (.cnt ⟨⟨hx.1,?_,?_,?_⟩,?_⟩)
  ·simp only [w,List.length_append,List.length_singleton]; omega
  ·intro y hy
   rcases List.mem_append.1 hy with h1 | h1
   ·exact hs y h1
   ·rw [List.mem_singleton] at h1; subst h1; exact hx.2
  ·simp only [w]; omega
  ·simp only [w]; omega
 ·exact .lft (.pure ⟨hc,by simp only; omega,hs⟩)
theorem YR {c : Ed} (h : okC c) : Hs (Mv c) fun p=>okC p.2 ∧ W64 p.1:=by
 unfold Mv
 refine (KU h (by omega) (by omega)).bind fun r hr=>.beq (fun _=>?_) fun _=>.beq (fun _=>?_) fun _=>.beq (fun _=>?_) fun _=>?_
 ·exact (KU hr.1 (by omega) (by omega)).bind fun r' hr'=>.pure ⟨hr'.1,WB _⟩
 ·exact (KU hr.1 (by omega) (by omega)).bind fun r' hr'=>.chk hr'.2.1 (.pure ⟨hr'.1,WB _⟩)
 ·exact .pure ⟨hr.1,by simp only; unfold W64; omega⟩
 ·exact (KU hr.1 (by omega) (by omega)).bind fun r' hr'=>.pure ⟨hr'.1,WB _⟩
def ZF (sl : List KP) (a b : Int) : Prop:=0 ≤ a ∧ a < sl.length ∧ ∃ x y,sl[a.toNat]? = some x ∧ sl[b.toNat]? = some y ∧ x.Size = y.Size
theorem Abg {c : Ed} (h : okC c) {f : Ku} {s : Int} (h0 : 0 ≤ s) (h1 : s < f.Slots.length) (hl : f.Slots.length ≤ 1000) : Hs (MV c f s) fun p=>okC p.2 ∧ ZF f.Slots p.1 s:=by
 unfold MV
 refine Hs.loop (fun st=>0 ≤ st.2 ∧ st.2 ≤ f.Slots.length ∧ (st.1.length : Int) ≤ st.2 ∧ (∀ v ∈ st.1,ZF f.Slots v s) ∧ (s < st.2 → 0 < st.1.length)) (fun st=>f.Slots.length - st.2.toNat) ⟨by simp,by simp,by simp,by simp,fun h=>by simp at h; omega⟩ ?_
 rintro ⟨l,k⟩ ⟨hk0,hk1,hll,hv,hne⟩
 simp only at hk0 hk1 hll hv hne
 unfold NR
 refine .dec (fun hlt=>?_) fun hlt=>.lft ?_
 ·have w : IntKind.i64.wrap (k + 1) = k + 1:=wrap64 (by omega) (by omega)
  refine (Hs.ix hk0 hlt fun x hx=>hx).bind fun x hx=>(Hs.ix h0 h1 fun x hx=>hx).bind fun y hy=>.beq (fun he=>?_) fun he=>?_
  ·refine .chk (by simp; omega) (.cnt ⟨⟨by simp only [w]; omega,by simp only [w]; omega,by simp only [w,List.length_append,List.length_singleton]; omega,?_,by simp⟩,by simp only [w]; omega⟩)
   intro v hv'
   rcases List.mem_append.1 hv' with h2 | h2
   ·exact hv v h2
   ·rw [List.mem_singleton] at h2; subst h2
    exact ⟨hk0,hlt,x,y,hx,hy,he⟩
  ·refine .cnt ⟨⟨by simp only [w]; omega,by simp only [w]; omega,by simp only [w]; omega,hv,fun h3=>?_⟩,by simp only [w]; omega⟩
   simp only [w] at h3
   by_cases e : s = k
   ·subst e; rw [hx] at hy; cases hy; exact (he rfl).elim
   ·exact hne (by omega)
 ·have hlt : ¬ k < f.Slots.length:=hlt
  have hl1:=hne (by omega)
  refine (KU h (n:=(l.length : Int)) (by omega) (by omega)).bind fun r hr=>.chk ⟨hr.2.1,hr.2.2⟩ ?_
  exact (Hs.get hr.2.1 hr.2.2 fun x hx=>hv x (List.mem_of_getElem? hx)).bind fun x hx=>.pure ⟨hr.1,hx⟩
inductive Lp (sl : List KP) (np i : Int) (ps : List Int) (T : Int → Prop) : Kq → Prop
 | store (a b : Int) : 0 ≤ a → a < sl.length → Reg b → Lp sl np i ps T ⟨16,a,b,0,0⟩
 | load (a b : Int) : Reg a → 0 ≤ b → b < sl.length → Lp sl np i ps T ⟨15,a,b,0,0⟩
 | move (a b : Int) : ZF sl a b → 0 ≤ b → b < sl.length → Lp sl np i ps T ⟨17,a,b,0,0⟩
 | const (a w : Int) : Reg a → W64 w → Lp sl np i ps T ⟨0,a,0,0,w⟩
 | bin (op a b c : Int) : 2 ≤ op → op < 12 → Reg a → Reg b → 0 ≤ c → c < 8 → Lp sl np i ps T ⟨op,a,b,c,0⟩
 | out (a : Int) : Reg a → Lp sl np i ps T ⟨14,a,0,0,0⟩
 | un (op a : Int) : (op = 13 ∨ op = 12 ∨ op = 1) → Reg a → Lp sl np i ps T ⟨op,a,0,0,0⟩
 | param (a b : Int) : Reg a → 0 ≤ b → b < np → Lp sl np i ps T ⟨19,a,b,0,0⟩
 | arg (a b : Int) : 0 ≤ a → a < 4 → Reg b → Lp sl np i ps T ⟨18,a,b,0,0⟩
 | call (j : Int) : i < j → j < ps.length → Lp sl np i ps T ⟨22,j,0,0,0⟩
 | jump (t : Int) : T t → Lp sl np i ps T ⟨20,t,0,0,0⟩
 | branch (a t : Int) : Reg a → T t → Lp sl np i ps T ⟨21,a,t,0,0⟩
def XY (ps : List Int) : Prop:=(∀ v ∈ ps,0 ≤ v ∧ v < 4) ∧ ps.length ≤ 1000
theorem Abd {c : Ed} (h : okC c) {f : Ku} {i : Int} {ps : List Int} (T : Int → Prop) (hf : f.Slots.length ≤ 1000) (hp : f.Params < 4) (hi : 0 ≤ i) (hi' : i < ps.length) (hps : XY ps) :
  Hs (MU c f i ps) fun p=>okC p.2 ∧ p.1.length ≤ 4 ∧ ∀ x ∈ p.1,Lp f.Slots f.Params i ps T x:=by
 unfold MU
 refine (KU h (by omega) (by omega)).bind fun r hr=>(KU hr.1 (by omega) (by omega)).bind fun k hk=>?_
 have hreg : Reg r.1:=hr.2
 have one : ∀ {x : Kq} {c' : Ed},okC c' → Lp f.Slots f.Params i ps T x → Hs (some (([x] : List Kq),c')) fun p=>okC p.2 ∧ p.1.length ≤ 4 ∧ ∀ x ∈ p.1,Lp f.Slots f.Params i ps T x:=fun hc hx=>.pure ⟨hc,by simp,by simpa using hx⟩
 have j6 : ∀ b,(b = true → i + 1 < ps.length) → Hs (Mm k ps i r b) fun p=>okC p.2 ∧ p.1.length ≤ 4 ∧ ∀ x ∈ p.1,Lp f.Slots f.Params i ps T x:=by
  intro b hb
  unfold Mm
  refine .cond (fun hb'=>?_) fun _=>one hk.1 (.out _ hreg)
  have hil:=hb hb'
  have hlen:=hps.2
  have w1 : IntKind.i64.wrap ((ps.length : Int) - i) = (ps.length : Int) - i:=wrap64 (by omega) (by omega)
  have w2 : IntKind.i64.wrap ((ps.length : Int) - i - 1) = (ps.length : Int) - i - 1:=wrap64 (by omega) (by omega)
  have w3 : IntKind.i64.wrap (i + 1) = i + 1:=wrap64 (by omega) (by omega)
  rw [w1,w2]
  refine (KU hk.1 (by omega) (by omega)).bind fun q hq=>?_
  have w4 : IntKind.i64.wrap (i + 1 + q.1) = i + 1 + q.1:=wrap64 (by omega) (by omega)
  refine Hs.loop (fun s=>okC ⟨s.1,s.2.1⟩ ∧ (s.2.2.1.length : Int) ≤ s.2.2.2 ∧ 0 ≤ s.2.2.2 ∧ s.2.2.2 ≤ 3 ∧ ∀ x ∈ s.2.2.1,Lp f.Slots f.Params i ps T x) (fun s=>(3 - s.2.2.2).toNat) ⟨hq.1,by simp,by simp,by simp,by simp⟩ ?_
  rintro ⟨l,a,out,n⟩ ⟨hc,ho,hn0,hn3,hall⟩
  simp only at hc ho hn0 hn3 hall
  unfold NQ
  simp only [w3,w4]
  refine (Hs.ix (by omega) (by omega) fun x hx=>hps.1 x (List.mem_of_getElem? hx)).bind fun x hx=>.dec (fun hlt=>?_) fun hlt=>.lft ?_
  ·have w5 : IntKind.i64.wrap (n + 1) = n + 1:=wrap64 (by omega) (by omega)
   refine (KU hc (by omega) (by omega)).bind fun u hu=>.dec (fun _=>?_) fun _=>?_
   ·refine (KU hu.1 (by omega) (by omega)).bind fun v hv=>.chk (by simp; omega) (.cnt ⟨⟨hv.1,by simp only [w5,List.length_append,List.length_singleton]; omega,by simp only [w5]; omega,by simp only [w5]; omega,?_⟩,by simp only [w5]; omega⟩)
    intro y hy
    rcases List.mem_append.1 hy with h2 | h2
    ·exact hall y h2
    ·rw [List.mem_singleton] at h2; subst h2
     exact .arg _ _ hn0 (by omega) hv.2
   ·exact .cnt ⟨⟨hu.1,by simp only [w5]; omega,by simp only [w5]; omega,by simp only [w5]; omega,hall⟩,by simp only [w5]; omega⟩
  ·refine .chk (by simp; omega) (.pure ⟨hc,by simp only [List.length_append,List.length_singleton]; omega,?_⟩)
   intro y hy
   rcases List.mem_append.1 hy with h2 | h2
   ·exact hall y h2
   ·rw [List.mem_singleton] at h2; subst h2
    exact .call _ (by omega) (by omega)
 have j5 : ∀ b,(b = true → 0 < f.Params) → Hs (Ml k f r ps i b) fun p=>okC p.2 ∧ p.1.length ≤ 4 ∧ ∀ x ∈ p.1,Lp f.Slots f.Params i ps T x:=by
  intro b hb
  unfold Ml
  refine .cond (fun hb'=>?_) fun _=>.dec (fun _=>j6 _ fun hd=>?_) fun _=>j6 _ fun hd=>(by cases hd)
  ·have:=hb hb'
   exact (KU hk.1 (by omega) (by omega)).bind fun u hu=>one hu.1 (.param _ _ hreg hu.2.1 hu.2.2)
  ·have hlen:=hps.2
   have:=of_decide_eq_true hd
   rw [wrap64 (by omega) (by omega)] at this
   exact this
 have j4 : ∀ b,(b = true → 0 < f.Slots.length) → Hs (Mk k f r ps i b) fun p=>okC p.2 ∧ p.1.length ≤ 4 ∧ ∀ x ∈ p.1,Lp f.Slots f.Params i ps T x:=by
  intro b hb
  unfold Mk
  refine .cond (fun hb'=>?_) fun _=>.dec (fun _=>?_) fun _=>.dec (fun _=>?_) fun _=>.dec (fun _=>one hk.1 (.out _ hreg)) fun _=>.beq (fun _=>?_) fun _=>.beq (fun _=>j5 _ fun hd=>of_decide_eq_true hd) fun _=>j5 _ fun hd=>(by cases hd)
  ·have:=hb hb'
   exact (KU hk.1 (by omega) (by omega)).bind fun u hu=>(Abg hu.1 hu.2.1 hu.2.2 hf).bind fun v hv=>one hv.1 (.move _ _ hv.2 hu.2.1 hu.2.2)
  ·exact (YR hk.1).bind fun u hu=>one hu.1 (.const _ _ hreg hu.2)
  ·refine (KU hk.1 (by omega) (by omega)).bind fun u hu=>(KU hu.1 (by omega) (by omega)).bind fun v hv=>(KU hv.1 (by omega) (by omega)).bind fun z hz=>one hz.1 ?_
   rw [wrap64 (by omega) (by omega)]
   exact .bin _ _ _ _ (by omega) (by omega) hreg hv.2 hz.2.1 hz.2.2
  ·refine (KU hk.1 (by omega) (by omega)).bind fun u hu=>.chk (by simp; omega) ?_
   refine (Hs.get hu.2.1 (by simp; omega) fun x hx=>List.mem_of_getElem? hx).bind fun x hx=>one hu.1 (.un _ _ (by simpa using hx) hreg)
 have j3 : ∀ b,(b = true → 0 < f.Slots.length) → Hs (Mj k f r ps i b) fun p=>okC p.2 ∧ p.1.length ≤ 4 ∧ ∀ x ∈ p.1,Lp f.Slots f.Params i ps T x:=by
  intro b hb
  unfold Mj
  refine .cond (fun hb'=>?_) fun _=>.dec (fun _=>j4 _ fun hd=>by have:=of_decide_eq_true hd; omega) fun _=>j4 _ fun hd=>(by cases hd)
  have:=hb hb'
  exact (KU hk.1 (by omega) (by omega)).bind fun u hu=>one hu.1 (.load _ _ hreg hu.2.1 hu.2.2)
 have j2 : ∀ b,(b = true → 0 < f.Slots.length) → Hs (Mi k f r ps i b) fun p=>okC p.2 ∧ p.1.length ≤ 4 ∧ ∀ x ∈ p.1,Lp f.Slots f.Params i ps T x:=by
  intro b hb
  unfold Mi
  refine .cond (fun hb'=>?_) fun _=>.dec (fun _=>j3 _ fun hd=>by have:=of_decide_eq_true hd; omega) fun _=>j3 _ fun hd=>(by cases hd)
  have:=hb hb'
  exact (KU hk.1 (by omega) (by omega)).bind fun u hu=>one hu.1 (.store _ _ hu.2.1 hu.2.2 hreg)
 exact .dec (fun _=>j2 _ fun hd=>by have:=of_decide_eq_true hd; omega) fun _=>j2 _ fun hd=>(by cases hd)
theorem Lp.mono {sl : List KP} {np i : Int} {ps : List Int} {T T' : Int → Prop} {x : Kq} (h : Lp sl np i ps T x) (hT : ∀ t,T t → T' t) : Lp sl np i ps T' x:=by
 cases h with
 | store a b h1 h2 h3=>exact .store a b h1 h2 h3
 | load a b h1 h2 h3=>exact .load a b h1 h2 h3
 | move a b h1 h2 h3=>exact .move a b h1 h2 h3
 | const a w h1 h2=>exact .const a w h1 h2
 | bin op a b c h1 h2 h3 h4 h5 h6=>exact .bin op a b c h1 h2 h3 h4 h5 h6
 | out a h1=>exact .out a h1
 | un op a h1 h2=>exact .un op a h1 h2
 | param a b h1 h2 h3=>exact .param a b h1 h2 h3
 | arg a b h1 h2 h3=>exact .arg a b h1 h2 h3
 | call j h1 h2=>exact .call j h1 h2
 | jump t h1=>exact .jump t (hT t h1)
 | branch a t h1 h2=>exact .branch a t h1 (hT t h2)
def Vg (x : Kq) : Prop:=x = ⟨23,0,0,0,0⟩ ∨ ∃ w,W64 w ∧ x = ⟨24,0,0,0,w⟩
def RR (x : Kq) (t : Int) : Kq :=
 if x.Op = 20 ∧ x.A < 0 then ⟨x.Op,t,x.B,x.C,x.Imm⟩ else if x.Op = 21 ∧ x.B < 0 then ⟨x.Op,x.A,t,x.C,x.Imm⟩ else x
theorem Vg.fix {x : Kq} (h : Vg x) (t : Int) : RR x t = x:=by
 rcases h with rfl | ⟨w,_,rfl⟩ <;> simp [RR]
theorem Lp.fix {sl : List KP} {np i : Int} {ps : List Int} {T : Int → Prop} {x : Kq} (h : Lp sl np i ps (· = -1) x) {t : Int} (ht : T t) : Lp sl np i ps T (RR x t):=by
 cases h with
 | store a b h1 h2 h3=>exact .store a b h1 h2 h3
 | load a b h1 h2 h3=>exact .load a b h1 h2 h3
 | move a b h1 h2 h3=>exact .move a b h1 h2 h3
 | const a w h1 h2=>exact .const a w h1 h2
 | bin op a b c h1 h2 h3 h4 h5 h6 =>
  have : RR ⟨op,a,b,c,0⟩ t = ⟨op,a,b,c,0⟩:=by simp [RR,show op ≠ 20 by omega,show op ≠ 21 by omega]
  rw [this]
  exact .bin op a b c h1 h2 h3 h4 h5 h6
 | out a h1=>exact .out a h1
 | un op a h1 h2 =>
  have : RR ⟨op,a,0,0,0⟩ t = ⟨op,a,0,0,0⟩:=by simp [RR,show op ≠ 20 by omega,show op ≠ 21 by omega]
  rw [this]
  exact .un op a h1 h2
 | param a b h1 h2 h3=>exact .param a b h1 h2 h3
 | arg a b h1 h2 h3=>exact .arg a b h1 h2 h3
 | call j h1 h2=>exact .call j h1 h2
 | jump q h1=>subst h1; exact .jump t ht
 | branch a q h1 h2=>subst h2; exact .branch a t h1 ht
theorem AdN {code : List Kq} {k : Nat} {x : Kq} (h : code[k]? = some x) (r : Int × Ed) (t : Int) : Lo (k : Int) code r t = some (.inl (r.2.list,r.2.at_,code.set k (RR x t),IntKind.i64.wrap ((k : Int) + 1))):=by
 obtain ⟨hl,hx⟩:=List.getElem?_eq_some_iff.1 h
 have hset : code.set k x = code:=by rw [← hx]; exact List.set_getElem_self hl
 obtain ⟨op,a,b,c,w⟩:=x
 unfold Lo Md
 by_cases h20 : op = 20
 ·subst h20
  by_cases ha : a < 0
  ·simp [Lz,hl,hx,RR,ha]
  ·simp [Lz,hl,hx,RR,ha,hset]
 ·by_cases h21 : op = 21
  ·subst h21
   by_cases hb : b < 0
   ·simp [Lz,hl,hx,RR,hb]
   ·simp [Lz,hl,hx,RR,hb,hset]
  ·have e20 : (op == 20) = false:=by simpa using h20
   have e21 : (op == 21) = false:=by simpa using h21
   simp [Lz,hl,hx,RR,e20,e21,h20,h21,hset]
structure Re (ps : List Int) (i most : Int) (f : Ku) : Prop where
 par : ps[i.toNat]? = some f.Params
 slots : f.Slots.length ≤ 6
 slot : ∀ s ∈ f.Slots,UE s
 len : 1 ≤ f.Code.length
 len' : (f.Code.length : Int) ≤ 7 + 5 * most
 body : ∀ (k : Nat) x,f.Code[k]? = some x → k + 1 < f.Code.length → Lp f.Slots f.Params i ps (fun t=>0 ≤ t ∧ t < f.Code.length) x
 last : ∀ x,f.Code[f.Code.length - 1]? = some x → Vg x
theorem Adq {l : List Int} {a : Int} (h : okC ⟨l,a⟩) {sl : List KP} {np i : Int} {ps : List Int} {most : Int} {code : List Kq} (hpar : ps[i.toNat]? = some np) (hsl : sl.length ≤ 6) (hsl' : ∀ s ∈ sl,UE s)
  (hlen : 1 ≤ code.length) (hlen' : (code.length : Int) ≤ 7 + 5 * most) (hm : most ≤ 1000) (hb : ∀ (k : Nat) x,code[k]? = some x → k + 1 < code.length → Lp sl np i ps (· = -1) x) (he : ∀ x,code[code.length - 1]? = some x → Vg x) :
  Hs (Lb (fun s : List Int × Int × List Kq × Int=>Mc np sl s.1 s.2.1 s.2.2.1 s.2.2.2) (l,a,code,0)) fun p=>okC p.2 ∧ Re ps i most p.1:=by
 refine Hs.loop (fun s=>okC ⟨s.1,s.2.1⟩ ∧ s.2.2.1.length = code.length ∧ ∃ k : Nat,s.2.2.2 = (k : Int) ∧ k ≤ code.length ∧ (∀ x,s.2.2.1[code.length - 1]? = some x → Vg x) ∧
  ∀ (j : Nat) x,s.2.2.1[j]? = some x → j + 1 < code.length → Lp sl np i ps (fun t=>if j < k then 0 ≤ t ∧ t < code.length else t = -1) x) (fun s=>code.length - s.2.2.2.toNat) ⟨h,rfl,0,rfl,Nat.zero_le _,he,fun j x hj hj'=>(hb j x hj hj').mono fun t ht=>by simpa using ht⟩ ?_
 rintro ⟨l,a,code',k⟩ ⟨hc,hl,k,rfl,hk,he',hall⟩
 simp only at hc hl he' hall
 unfold Mc
 refine .dec (fun hlt=>?_) fun hlt=>?_
 ·have hlt : k < code.length:=by rw [← hl]; exact Int.ofNat_lt.1 hlt
  have w:=Lj (show k < 9223372036854775807 by omega)
  have hx : code'[k]? = some (code'[k]'(by omega)):=List.getElem?_eq_getElem _
  generalize code'[k]'(by omega) = x at hx
  have step : ∀ (r : Int × Ed) (t : Int),okC r.2 → 0 ≤ t → t < code.length → Hs (Lo (k : Int) code' r t) (Rnd (fun s : List Int × Int × List Kq × Int=>okC ⟨s.1,s.2.1⟩ ∧ s.2.2.1.length = code.length ∧ ∃ k : Nat,s.2.2.2 = (k : Int) ∧ k ≤ code.length ∧ (∀ x,s.2.2.1[code.length - 1]? = some x → Vg x) ∧
    ∀ (j : Nat) x,s.2.2.1[j]? = some x → j + 1 < code.length → Lp sl np i ps (fun t=>if j < k then 0 ≤ t ∧ t < code.length else t = -1) x) (fun s=>code.length - s.2.2.2.toNat) (l,a,code',(k : Int)) (fun p : Ku × Ed=>okC p.2 ∧ Re ps i most p.1)):=by
   intro r t hr ht0 ht1
   rw [AdN hx]
   refine .pure ⟨⟨hr,by simp [hl],k + 1,w,hlt,?_,?_⟩,by simp only [w]; omega⟩
   ·intro y hy
    simp only at hy
    by_cases e : k = code.length - 1
    ·rw [← e,List.getElem?_set_self (by omega)] at hy
     obtain rfl:=Option.some.inj hy
     have hex:=he' x (by rw [← e]; exact hx)
     rw [hex.fix]; exact hex
    ·rw [List.getElem?_set_ne e] at hy
     exact he' y hy
   ·intro j y hy hj
    simp only at hy
    by_cases e : k = j
    ·subst e
     rw [List.getElem?_set_self (by omega)] at hy
     obtain rfl:=Option.some.inj hy
     exact ((hall k x hx hj).mono fun t ht=>by simpa using ht).fix (by rw [if_pos (by omega)]; exact ⟨ht0,ht1⟩)
    ·rw [List.getElem?_set_ne e] at hy
     refine (hall j y hy hj).mono fun t ht=>?_
     by_cases e2 : j < k
     ·rw [if_pos e2] at ht; rw [if_pos (by omega)]; exact ht
     ·rw [if_neg e2] at ht; rw [if_neg (by omega)]; exact ht
  refine (KU hc (by omega) (by omega)).bind fun r hr=>?_
  have w1 : IntKind.i64.wrap ((k : Int) + r.1) = (k : Int) + r.1:=wrap64 (by omega) (by omega)
  have w2 : IntKind.i64.wrap ((k : Int) + r.1 - 2) = (k : Int) + r.1 - 2:=wrap64 (by omega) (by omega)
  have w3 : IntKind.i64.wrap ((code'.length : Int) - 1) = (code'.length : Int) - 1:=wrap64 (by omega) (by omega)
  simp only [w1,w2,w3]
  exact .dec (fun _=>step r _ hr.1 (by omega) (by omega)) fun _=>.dec (fun _=>step r _ hr.1 (by omega) (by omega)) fun _=>step r _ hr.1 (by omega) (by omega)
 ·have hlt : ¬ k < code'.length:=fun h=>hlt (Int.ofNat_lt.2 h)
  have hkl : k = code.length:=by omega
  refine .lft (.pure ⟨hc,hpar,hsl,hsl',by simp only; omega,by simp only; omega,?_,?_⟩)
  ·intro j x hj hj'
   simp only at hj hj' ⊢
   rw [hl] at hj' ⊢
   refine (hall j x hj hj').mono fun t ht=>?_
   rw [if_pos (by omega)] at ht
   exact ht
  ·intro x hx
   simp only at hx
   rw [hl] at hx
   exact he' x hx
theorem AaW {l : List Int} {a : Int} (h : okC ⟨l,a⟩) {sl : List KP} {np i : Int} {ps : List Int} {most : Int} {code : List Kq} (hpar : ps[i.toNat]? = some np) (hsl : sl.length ≤ 6) (hsl' : ∀ s ∈ sl,UE s)
  (hlen : (code.length : Int) ≤ 6 + 5 * most) (hm : most ≤ 1000) (hb : ∀ x ∈ code,Lp sl np i ps (· = -1) x) {e1 e2 : Int} (he : Vg ⟨e1,0,0,0,e2⟩) :
  Hs (LI code np sl l a e1 e2) fun p=>okC p.2 ∧ Re ps i most p.1:=by
 unfold LI
 refine .chk (by simp; omega) (Adq h hpar hsl hsl' (by simp) (by simp; omega) hm ?_ ?_)
 ·intro k x hx hk
  simp only [List.length_append,List.length_singleton] at hk
  rw [List.getElem?_append_left (by omega)] at hx
  exact hb x (List.mem_of_getElem? hx)
 ·intro x hx
  simp at hx
  subst hx
  exact he
theorem YH {c : Ed} (h : okC c) {i : Int} {ps : List Int} {most : Int} (hi : 0 ≤ i) (hi' : i < ps.length) (hps : XY ps) (hm0 : 0 ≤ most) (hm : most ≤ 1000) :
  Hs (LZ c i ps most) fun p=>okC p.2 ∧ Re ps i most p.1:=by
 unfold LZ
 refine (Hs.ix hi hi' fun x hx=>hx).bind fun np hnp=>(AaQ h (by omega) (by omega)).bind fun sl hsl=>?_
 obtain ⟨hc0,hsl1,hsl2⟩:=hsl
 have hnp4:=hps.1 np (List.mem_of_getElem? hnp)
 refine Hs.loop (fun s=>okC ⟨s.1,s.2.1⟩ ∧ 0 ≤ s.2.2.2 ∧ s.2.2.2 ≤ sl.1.length ∧ (s.2.2.1.length : Int) ≤ s.2.2.2 ∧ ∀ x ∈ s.2.2.1,Lp sl.1 np i ps (· = -1) x) (fun s=>sl.1.length - s.2.2.2.toNat) ⟨hc0,by simp,by simp,by simp,by simp⟩ ?_
 rintro ⟨l,a,code,s⟩ ⟨hc,hs0,hs1,hcl,hall⟩
 simp only at hc hs0 hs1 hcl hall
 unfold MM
 refine .dec (fun hlt=>?_) fun hlt=>?_
 ·have hlt : s < sl.1.length:=hlt
  have w : IntKind.i64.wrap (s + 1) = s + 1:=wrap64 (by omega) (by omega)
  refine (KU hc (by omega) (by omega)).bind fun r hr=>.dec (fun _=>?_) fun _=>?_
  ·refine (KU hr.1 (by omega) (by omega)).bind fun q hq=>.chk (by simp; omega) (.cnt ⟨⟨hq.1,by simp only [w]; omega,by simp only [w]; omega,by simp only [w,List.length_append,List.length_singleton]; omega,?_⟩,by simp only [w]; omega⟩)
   intro y hy
   rcases List.mem_append.1 hy with h2 | h2
   ·exact hall y h2
   ·rw [List.mem_singleton] at h2; subst h2
    exact .store _ _ hs0 hlt hq.2
  ·exact .cnt ⟨⟨hr.1,by simp only [w]; omega,by simp only [w]; omega,by simp only [w]; omega,hall⟩,by simp only [w]; omega⟩
 ·have w : IntKind.i64.wrap (most + 1) = most + 1:=wrap64 (by omega) (by omega)
  rw [w]
  refine .lft ((KU hc (by omega) (by omega)).bind fun r hr=>?_)
  refine Hs.loop (fun s=>okC ⟨s.1,s.2.1⟩ ∧ s.2.2.2.1 = sl.1 ∧ 0 ≤ s.2.2.2.2 ∧ s.2.2.2.2 ≤ most ∧ (s.2.2.1.length : Int) ≤ 6 + 5 * (most - s.2.2.2.2) ∧ ∀ x ∈ s.2.2.1,Lp sl.1 np i ps (· = -1) x) (fun s=>s.2.2.2.2.toNat) ⟨hr.1,rfl,hr.2.1,by simp only; omega,by simp only; omega,hall⟩ ?_
  rintro ⟨l,a,code,sl',n⟩ ⟨hc,rfl,hn0,hn1,hcl,hall⟩
  simp only at hc hn0 hn1 hcl hall
  unfold MN
  refine .dec (fun hlt=>?_) fun hlt=>.lft ?_
  ·have hlt : 0 < n:=hlt
   have w : IntKind.i64.wrap (n - 1) = n - 1:=wrap64 (by omega) (by omega)
   refine (Abd hc (· = -1) (by simp only; omega) hnp4.2 hi hi' hps).bind fun b hb=>.chk (by simp; omega) ?_
   have hall2 : ∀ x ∈ code ++ b.1,Lp sl.1 np i ps (· = -1) x:=by
    intro y hy
    rcases List.mem_append.1 hy with h2 | h2
    ·exact hall y h2
    ·exact hb.2.2 y h2
   have hall3 : ∀ x,Lp sl.1 np i ps (· = -1) x → ∀ y ∈ (code ++ b.1) ++ [x],Lp sl.1 np i ps (· = -1) y:=by
    intro x hx y hy
    rcases List.mem_append.1 hy with h2 | h2
    ·exact hall2 y h2
    ·rw [List.mem_singleton] at h2; subst h2; exact hx
   have hbl:=hb.2.1
   refine (KU hb.1 (by omega) (by omega)).bind fun r hr=>.beq (fun _=>?_) fun _=>.beq (fun _=>?_) fun _=>?_
   ·refine (KU hr.1 (by omega) (by omega)).bind fun q hq=>.chk (by simp; omega) (.cnt ⟨⟨hq.1,rfl,by simp only [w]; omega,by simp only [w]; omega,by simp only [w,List.length_append,List.length_singleton]; omega,hall3 _ (.branch _ _ hq.2 rfl)⟩,by simp only [w]; omega⟩)
   ·refine (KU hr.1 (by omega) (by omega)).bind fun q hq=>.beq (fun _=>?_) fun _=>?_
    ·exact .chk (by simp; omega) (.cnt ⟨⟨hq.1,rfl,by simp only [w]; omega,by simp only [w]; omega,by simp only [w,List.length_append,List.length_singleton]; omega,hall3 _ (.jump _ rfl)⟩,by simp only [w]; omega⟩)
    ·exact .cnt ⟨⟨hq.1,rfl,by simp only [w]; omega,by simp only [w]; omega,by simp only [w,List.length_append]; omega,hall2⟩,by simp only [w]; omega⟩
   ·exact .cnt ⟨⟨hr.1,rfl,by simp only [w]; omega,by simp only [w]; omega,by simp only [w,List.length_append]; omega,hall2⟩,by simp only [w]; omega⟩
  ·refine (KU hc (by omega) (by omega)).bind fun r hr=>.beq (fun _=>?_) fun _=>?_
   ·exact (YR hr.1).bind fun q hq=>AaW hq.1 hnp (by omega) hsl2 (by omega) hm hall (.inr ⟨_,hq.2,rfl⟩)
   ·exact AaW hr.1 hnp (by omega) hsl2 (by omega) hm hall (.inl rfl)
def Abz (funcs most : Int) (p : MY) : Prop :=
 ∃ ps,XY ps ∧ ps[0]? = some 0 ∧ 1 ≤ ps.length ∧ (ps.length : Int) ≤ funcs ∧ p.Funcs.length = ps.length ∧ ∀ (j : Nat) f,p.Funcs[j]? = some f → Re ps j most f
theorem YY {c : Ed} (h : okC c) {funcs most : Int} (hf : 1 ≤ funcs) (hf' : funcs ≤ 1000) (hm0 : 0 ≤ most) (hm : most ≤ 1000) :
  Hs (Mh c funcs most) fun p=>okC p.2 ∧ Abz funcs most p.1:=by
 unfold Mh
 refine (KU h hf (by omega)).bind fun r hr=>?_
 refine Hs.loop (fun s=>okC ⟨s.1,s.2.1⟩ ∧ (∀ v ∈ s.2.2.1,0 ≤ v ∧ v < 4) ∧ s.2.2.1[0]? = some 0 ∧ 0 ≤ s.2.2.2 ∧ (s.2.2.1.length : Int) + s.2.2.2 ≤ funcs) (fun s=>s.2.2.2.toNat) ⟨hr.1,by simp,by simp,hr.2.1,by simp; omega⟩ ?_
 rintro ⟨l,a,ps,n⟩ ⟨hc,hv,hz,hn0,hn1⟩
 simp only at hc hv hz hn0 hn1
 have hp1 : 1 ≤ ps.length:=by have:=(List.getElem?_eq_some_iff.1 hz).1; omega
 unfold MR
 refine .dec (fun hlt=>?_) fun hlt=>.lft ?_
 ·have hlt : 0 < n:=hlt
  have w : IntKind.i64.wrap (n - 1) = n - 1:=wrap64 (by omega) (by omega)
  refine (KU hc (by omega) (by omega)).bind fun q hq=>.chk (by simp; omega) (.cnt ⟨⟨hq.1,?_,by simp only; rw [List.getElem?_append_left (by omega)]; exact hz,by simp only [w]; omega,by simp only [w,List.length_append,List.length_singleton]; omega⟩,by simp only [w]; omega⟩)
  intro y hy
  rcases List.mem_append.1 hy with h2 | h2
  ·exact hv y h2
  ·rw [List.mem_singleton] at h2; subst h2; exact hq.2
 ·have hps : XY ps:=⟨hv,by omega⟩
  refine Hs.loop (fun s=>okC ⟨s.1,s.2.1⟩ ∧ s.2.2.2.2 = ps ∧ ∃ i : Nat,s.2.2.2.1 = (i : Int) ∧ i ≤ ps.length ∧ s.2.2.1.length = i ∧ ∀ (j : Nat) f,s.2.2.1[j]? = some f → Re ps j most f) (fun s=>ps.length - s.2.2.2.1.toNat) ⟨hc,rfl,0,rfl,Nat.zero_le _,rfl,fun j f hj=>by simp at hj⟩ ?_
  rintro ⟨l,a,fs,i',ps'⟩ ⟨hc,hpe,i,hie,hi,hfl,hall⟩
  simp only at hc hpe hie hi hfl hall
  subst hpe hie
  unfold MS
  refine .dec (fun hlt=>?_) fun hlt=>.lft (.pure ⟨hc,ps',hps,hz,hp1,by omega,?_,hall⟩)
  ·have hlt : i < ps'.length:=Int.ofNat_lt.1 hlt
   have w:=Lj (show i < 9223372036854775807 by have:=hps.2; omega)
   have hpl:=hps.2
   refine .chk (by simp; omega) ((YH hc (i:=(i : Int)) (ps:=ps') (by omega) (by omega) hps hm0 hm).bind fun f hf=>.chk (by simp; omega) (.cnt ⟨⟨hf.1,rfl,i + 1,w,hlt,by simp; omega,?_⟩,by simp only [w]; omega⟩))
   intro j g hg
   simp only [List.nil_append] at hg
   by_cases e : j < fs.length
   ·rw [List.getElem?_append_left e] at hg; exact hall j g hg
   ·have hj : j = i:=by
     have:=(List.getElem?_eq_some_iff.1 hg).1
     simp at this; omega
    subst hj
    rw [List.getElem?_append_right (by omega),hfl] at hg
    simp at hg
    subst hg
    exact hf.2
  ·have hlt : ¬ i < ps'.length:=fun h=>hlt (Int.ofNat_lt.2 h)
   simp only; omega
end Go.Proofs.YtjjmcedpoolghaaDoor
namespace Go.Proofs.YtjjmcedpoolghaaDoor
open Go Go.Dw Go.Proofs
attribute [local simp] Lz Bool.cond_eq_ite
def Nf (f : Ku) (k : Nat) : Kq:=(f.Code[k]?).getD default
def KT (x : Kq) (k : Int) : List Int :=
 if x.Op = 20 then [x.A] else if x.Op = 23 ∨ x.Op = 24 then [] else
 if x.Op = 21 then (if x.B < k + 1 then [x.B,k + 1] else if k + 1 < x.B then [k + 1,x.B] else [k + 1]) else [k + 1]
theorem Xi {f : Ku} {k : Nat} {x : Kq} (h : f.Code[k]? = some x) (hk : k < 9223372036854775807) : My f (k : Int) = some (KT x k):=by
 obtain ⟨hl,hx⟩:=List.getElem?_eq_some_iff.1 h
 have hnl : ¬ f.Code.length ≤ k:=by omega
 have w : IntKind.i64.wrap ((k : Int) + 1) = (k : Int) + 1:=wrap64 (by omega) (by omega)
 unfold My QI KT
 obtain ⟨op,a,b,c,i⟩:=x
 by_cases h20 : op = 20
 ·subst h20; simp [hx,hl,hnl,show ¬ (k : Int) < 0 by omega]
 ·have e20 : (op == 20) = false:=by simpa using h20
  by_cases h23 : op = 23
  ·subst h23; simp [hx,hl,hnl,show ¬ (k : Int) < 0 by omega,LR]
  ·have e23 : (op == 23) = false:=by simpa using h23
   by_cases h24 : op = 24
   ·subst h24; simp [hx,hl,hnl,show ¬ (k : Int) < 0 by omega,LR]
   ·have e24 : (op == 24) = false:=by simpa using h24
    by_cases h21 : op = 21
    ·subst h21
     by_cases hb : b < (k : Int) + 1
     ·simp [hx,hl,hnl,show ¬ (k : Int) < 0 by omega,LR,w,hb]
     ·by_cases hb' : (k : Int) + 1 < b
      ·simp [hx,hl,hnl,show ¬ (k : Int) < 0 by omega,LR,w,hb,hb']
      ·simp [hx,hl,hnl,show ¬ (k : Int) < 0 by omega,LR,w,hb,hb']
    ·have e21 : (op == 21) = false:=by simpa using h21
     simp [hx,hl,hnl,show ¬ (k : Int) < 0 by omega,LR,w,h20,h23,h24,h21]
def LC (x : Kq) : List Int:=if x.Op = 15 ∨ x.Op = 17 then [x.B] else []
structure Ln (f : Ku) : Prop where
 len : 1 ≤ f.Code.length
 len' : f.Code.length ≤ 10000
 slots : f.Slots.length ≤ 500
 next : ∀ (k : Nat) x,f.Code[k]? = some x → ∀ j ∈ KT x k,0 ≤ j ∧ j < f.Code.length
 uses : ∀ x ∈ f.Code,∀ v ∈ LC x,0 ≤ v ∧ v < f.Slots.length
theorem Re.Adr {ps : List Int} {i most : Int} {f : Ku} (h : Re ps i most f) (hm : most ≤ 1000) : Ln f:=by
 have hl:=h.len
 have hl':=h.len'
 have hs:=h.slots
 refine ⟨hl,by omega,by omega,fun k x hx j hj=>?_,fun x hx v hv=>?_⟩
 ·have hkl:=(List.getElem?_eq_some_iff.1 hx).1
  by_cases hk : k + 1 < f.Code.length
  ·have hins:=h.body k x hx hk
   cases hins with
   | jump t h1=>simp [KT] at hj; subst hj; exact h1
   | branch a t h0 h1 =>
    simp [KT] at hj
    have : j = t ∨ j = (k : Int) + 1:=by
     split at hj
     ·simpa using hj
     ·split at hj
      ·simp at hj; omega
      ·simp at hj; omega
    rcases this with rfl | rfl <;> omega
   | bin op a b c h1 h2 h3 h4 h5 h6 =>
    simp [KT,show op ≠ 20 by omega,show op ≠ 23 by omega,show op ≠ 24 by omega,show op ≠ 21 by omega] at hj
    subst hj; omega
   | un op a h1 h2 =>
    simp [KT,show op ≠ 20 by omega,show op ≠ 23 by omega,show op ≠ 24 by omega,show op ≠ 21 by omega] at hj
    subst hj; omega
   | _=>simp [KT] at hj; subst hj; omega
  ·have he:=h.last x (by rw [show f.Code.length - 1 = k by omega]; exact hx)
   rcases he with rfl | ⟨w,_,rfl⟩ <;> simp [KT] at hj
 ·obtain ⟨k,hk⟩:=List.getElem?_of_mem hx
  have hkl:=(List.getElem?_eq_some_iff.1 hk).1
  by_cases hk1 : k + 1 < f.Code.length
  ·have hins:=h.body k x hk hk1
   cases hins with
   | load a b h0 h1 h2=>simp [LC] at hv; subst hv; exact ⟨h1,h2⟩
   | move a b h0 h1 h2=>simp [LC] at hv; subst hv; exact ⟨h1,h2⟩
   | bin op a b c h1 h2 h3 h4 h5 h6=>simp [LC,show op ≠ 15 by omega,show op ≠ 17 by omega] at hv
   | un op a h1 h2=>simp [LC,show op ≠ 15 by omega,show op ≠ 17 by omega] at hv
   | _=>simp [LC] at hv
  ·have he:=h.last x (by rw [show f.Code.length - 1 = k by omega]; exact hk)
   rcases he with rfl | ⟨w,_,rfl⟩ <;> simp [LC] at hv
end Go.Proofs.YtjjmcedpoolghaaDoor
namespace Go.Proofs.YtjjmcedpoolghaaDoor
open Go Go.Dw Go.Proofs
attribute [local simp] Lz Bool.cond_eq_ite
def Lk (n : Int) (s : List Int) : Prop:=Lh s ∧ ∀ x ∈ s,x < n
theorem Lk.nil (n : Int) : Lk n []:=⟨Lh.nil,fun x hx=>by cases hx⟩
theorem Lk.add {n m : Int} {s : List Int} (h : Lk n s) (hm : 0 ≤ m ∧ m < n) (hn : n ≤ 512) : Lk n (MZ m s) ∧ OE s m = some (MZ m s):=by
 have hl:=h.1.length_le
 refine ⟨?_,add_eq s m (by omega)⟩
 unfold MZ
 rw [if_pos (by omega)]
 refine ⟨h.1.NF (by omega),fun x hx=>?_⟩
 rw [RX] at hx
 rcases hx with rfl | hx
 ·exact hm.2
 ·exact h.2 x hx
def RowsIn (n : Int) (g : List (List Int)) : Prop:=∀ s ∈ g,Lk n s
theorem RowsIn.set {n : Int} {g : List (List Int)} (h : RowsIn n g) {i : Nat} {s : List Int} (hs : Lk n s) : RowsIn n (g.set i s):=by
 intro x hx
 rcases List.mem_or_eq_of_mem_set hx with h1 | rfl
 ·exact h x h1
 ·exact hs
end Go.Proofs.YtjjmcedpoolghaaDoor
namespace Go.Proofs.YtjjmcedpoolghaaDoor
open Go Go.Dw Go.Proofs
attribute [local simp] Lz Bool.cond_eq_ite
def inN (x : Kq) (s : List Int) : List Int:=LQ (if x.Op = 16 ∨ x.Op = 17 then s.filter (· != x.A) else s) (LC x)
theorem AdM (x : Kq) (s : List Int) (h : s.length ≤ 900000) : Sf x s = some (inN x s):=by
 obtain ⟨op,a,b,c,i⟩:=x
 have hu : MO ⟨op,a,b,c,i⟩ = some (LC ⟨op,a,b,c,i⟩):=by
  unfold MO LC
  by_cases h15 : op = 15
  ·simp [h15]
  ·have e15 : (op == 15) = false:=by simpa using h15
   by_cases h17 : op = 17
   ·simp [h17]
   ·have e17 : (op == 17) = false:=by simpa using h17
    simp [h15,e15,h17,e17]
 have hul : (LC ⟨op,a,b,c,i⟩).length ≤ 1:=by unfold LC; split <;> simp
 have hfl : (s.filter (· != a)).length ≤ s.length:=List.length_filter_le ..
 have hr:=Zv s a (by omega)
 have hu1:=union_eq (s.filter (· != a)) (LC ⟨op,a,b,c,i⟩) (by omega)
 have hu2:=union_eq s (LC ⟨op,a,b,c,i⟩) (by omega)
 unfold Sf MB MX inN
 by_cases h16 : op = 16
 ·subst h16; simp [hr,hu,hu1]
 ·have e16 : (op == 16) = false:=by simpa using h16
  by_cases h17 : op = 17
  ·subst h17; simp [hr,hu,hu1]
  ·have e17 : (op == 17) = false:=by simpa using h17
   simp [h16,e16,h17,e17,hu,hu2]
theorem NG {f : Ku} (hf : Ln f) {x : Kq} (hx : x ∈ f.Code) {s : List Int} (hs : Lk f.Slots.length s) :
  Lk f.Slots.length (inN x s) ∧ ∀ v,v ∈ inN x s ↔ (v ∈ s ∧ ¬ ((x.Op = 16 ∨ x.Op = 17) ∧ x.A = v)) ∨ v ∈ LC x:=by
 have hsl:=hf.slots
 have h0 : Lk f.Slots.length (if x.Op = 16 ∨ x.Op = 17 then s.filter (· != x.A) else s):=by
  split
  ·exact ⟨hs.1.filter _,fun v hv=>hs.2 v (List.mem_filter.1 hv).1⟩
  ·exact hs
 obtain ⟨h1,h2⟩:=ON (n:=f.Slots.length) (by omega) (b:=LC x) h0 (hf.uses x hx)
 refine ⟨h1,fun v=>?_⟩
 unfold inN
 rw [h2]
 by_cases hd : x.Op = 16 ∨ x.Op = 17
 ·simp only [hd,if_true,List.mem_filter,true_and]
  constructor
  ·rintro (⟨h3,h4⟩ | h3)
   ·exact .inl ⟨h3,fun e=>by simp [e] at h4⟩
   ·exact .inr h3
  ·rintro (⟨h3,h4⟩ | h3)
   ·exact .inl ⟨h3,by simpa using fun e : v = x.A=>h4 e.symm⟩
   ·exact .inr h3
 ·simp [hd]
def Kz (f : Ku) (j : Int) : Kq:=(f.Code[j.toNat]?).getD default
def KE (l : List (List Int)) (j : Int) : List Int:=(l[j.toNat]?).getD []
def Le (f : Ku) (l : List (List Int)) (k : Int) : List Int:=(KT (Kz f k) k).foldl (fun o j=>LQ o (inN (Kz f j) (KE l j))) []
def LH (f : Ku) (l : List (List Int)) : List (List Int):=(List.range f.Code.length).map fun k=>Le f l (k : Nat)
def LK (f : Ku) (l : List (List Int)) : Prop:=l.length = f.Code.length ∧ ∀ s ∈ l,Lk f.Slots.length s
theorem Xe {f : Ku} (hf : Ln f) {l : List (List Int)} (hl : LK f l) : ∀ {js : List Int} {o : List Int},(∀ j ∈ js,0 ≤ j ∧ j < f.Code.length) → Lk f.Slots.length o →
  Lk f.Slots.length (js.foldl (fun o j=>LQ o (inN (Kz f j) (KE l j))) o) ∧ ∀ v,v ∈ js.foldl (fun o j=>LQ o (inN (Kz f j) (KE l j))) o ↔ v ∈ o ∨ ∃ j ∈ js,v ∈ inN (Kz f j) (KE l j)
 | [],o,_,ho=>⟨ho,fun v=>by simp⟩
 | j :: js,o,hj,ho=>by
  have hsl:=hf.slots
  have h0:=hj j (List.mem_cons_self ..)
  have hc : Kz f j ∈ f.Code:=by
   unfold Kz
   rw [List.getElem?_eq_getElem (show j.toNat < f.Code.length by omega)]
   exact List.getElem_mem _
  have ho' : Lk f.Slots.length (KE l j):=by
   unfold KE
   rw [List.getElem?_eq_getElem (show j.toNat < l.length by have:=hl.1; omega)]
   exact hl.2 _ (List.getElem_mem _)
  obtain ⟨h1,h2⟩:=NG hf hc ho'
  obtain ⟨h3,h4⟩:=ON (n:=f.Slots.length) (by omega) (b:=inN (Kz f j) (KE l j)) ho fun x hx=>⟨(h1.1.2 x hx).1,h1.2 x hx⟩
  obtain ⟨h5,h6⟩:=Xe hf hl (fun q hq=>hj q (List.mem_cons_of_mem _ hq)) h3
  refine ⟨h5,fun v=>?_⟩
  simp only [List.foldl_cons]
  rw [h6,h4]
  simp only [List.mem_cons,exists_eq_or_imp,or_assoc]
theorem LJ {f : Ku} (hf : Ln f) {l : List (List Int)} (hl : LK f l) {k : Nat} (hk : k < f.Code.length) :
  Lk f.Slots.length (Le f l k) ∧ ∀ v,v ∈ Le f l k ↔ ∃ j ∈ KT (Kz f k) k,v ∈ inN (Kz f j) (KE l j):=by
 have hx : f.Code[k]? = some (Kz f k):=by simp [Kz,hk]
 obtain ⟨h1,h2⟩:=Xe hf hl (js:=KT (Kz f k) k) (hf.next k _ hx) (Lk.nil _)
 exact ⟨h1,fun v=>by unfold Le; rw [h2]; simp⟩
theorem Yu {f : Ku} (hf : Ln f) {l : List (List Int)} (hl : LK f l) : LK f (LH f l):=by
 refine ⟨by simp [LH],fun s hs=>?_⟩
 obtain ⟨k,hk,rfl⟩:=List.mem_map.1 hs
 exact (LJ hf hl (List.mem_range.1 hk)).1
theorem step_eq {f : Ku} (hf : Ln f) {l : List (List Int)} (hl : LK f l) : Qc f ⟨l⟩ = some ⟨LH f l⟩:=by
 have hlen:=hf.len'
 unfold Qc
 rw [Lz (by omega)]
 have key : Hs (Lb (fun s : List (List Int) × Int=>NJ f ⟨l⟩ s.1 s.2) (List.replicate (f.Code.length : Int).toNat ([] : List Int),0)) fun r=>r = ⟨LH f l⟩:=by
  refine Hs.loop (fun s=>s.1.length = f.Code.length ∧ ∃ k : Nat,s.2 = (k : Int) ∧ k ≤ f.Code.length ∧ ∀ (j : Nat) r,s.1[j]? = some r → r = if j < k then Le f l j else []) (fun s=>f.Code.length - s.2.toNat) ⟨by simp,0,rfl,Nat.zero_le _,fun j r hj=>?_⟩ ?_
  ·have:=List.mem_of_getElem? hj
   rw [List.mem_replicate] at this
   simp [this.2]
  rintro ⟨x,k'⟩ ⟨hxl,k,hke,hk,hall⟩
  simp only at hxl hke hall
  subst hke
  by_cases hlt : k < f.Code.length
  ·have w:=Lj (show k < 9223372036854775807 by omega)
   have hx : f.Code[k]? = some (Kz f k):=by simp [Kz,hlt]
   have hxk : x[k]? = some []:=by
    have h1 : x[k]? = some (x[k]'(by omega)):=List.getElem?_eq_getElem _
    have:=hall k _ h1
    rw [h1,this,if_neg (by omega)]
   have hset : x.set k [] = x:=by
    obtain ⟨h1,h2⟩:=List.getElem?_eq_some_iff.1 hxk
    rw [← h2]; exact List.set_getElem_self h1
   have inner:=PI (body:=fun s : List (List Int) × Int=>NK (KT (Kz f k) k) k f ⟨l⟩ s.1 s.2) (KT (Kz f k) k) (fun (o : List Int) i=>(x.set k o,i)) (fun o _=>Lk f.Slots.length o)
    (fun o js=>some (.inl (x.set k (js.foldl (fun o j=>LQ o (inN (Kz f j) (KE l j))) o),((k + 1 : Nat) : Int))))
    (fun o _=>⟨_,by simp [NK,QK,w]; rfl,by simp⟩) (fun o i j r ho hd hi hj=>by
     left
     have wi:=Lj (show i < 9223372036854775807 by
      have : (KT (Kz f k) k).length ≤ 2:=by unfold KT; (repeat' split) <;> simp
      omega)
     have hjm:=hf.next k _ hx j (List.mem_of_getElem? hj)
     have hjc : f.Code[j.toNat]? = some (Kz f j):=by simp [Kz,show j.toNat < f.Code.length by omega]
     have hjl : j.toNat < l.length:=by have:=hl.1; omega
     have hjo : l[j.toNat]? = some (KE l j):=by simp [KE,hjl]
     have hos : Lk f.Slots.length (KE l j):=hl.2 _ (List.mem_of_getElem? hjo)
     have hsl:=hf.slots
     obtain ⟨g1,g2⟩:=NG hf (List.mem_of_getElem? hjc) hos
     obtain ⟨g3,g4⟩:=ON (n:=f.Slots.length) (by omega) (b:=inN (Kz f j) (KE l j)) ho fun x hx=>⟨(g1.1.2 x hx).1,g1.2 x hx⟩
     have e1:=AdM (Kz f j) (KE l j) (by have:=hos.1.length_le; omega)
     have e2:=union_eq o (inN (Kz f j) (KE l j)) (by have:=ho.1.length_le; have:=g1.1.length_le; omega)
     obtain ⟨_,hje⟩:=List.getElem?_eq_some_iff.1 hj
     refine ⟨LQ o (inN (Kz f j) (KE l j)),g3,?_,by simp⟩
     simp [NK,hi,hje,hxl,hlt,RS _ hjm.1,hjc,hjo,e1,e2,wi]) [] (Lk.nil _)
   simp only [hset] at inner
   refine ⟨.inl (x.set k (Le f l k),((k + 1 : Nat) : Int)),?_,⟨by simpa using hxl,k + 1,rfl,hlt,fun j r hj=>?_⟩,by simp only; omega⟩
   ·simp only [NJ,decide_eq_true (Int.ofNat_lt.2 hlt),cond_true,Xi hx (by omega),Option.bind_some]
    exact inner
   ·simp only at hj
    by_cases e : k = j
    ·subst e
     rw [List.getElem?_set_self (by omega)] at hj
     obtain rfl:=Option.some.inj hj
     rw [if_pos (by omega)]
    ·rw [List.getElem?_set_ne e] at hj
     rw [hall j r hj]
     by_cases e2 : j < k
     ·rw [if_pos e2,if_pos (by omega)]
     ·rw [if_neg e2,if_neg (by omega)]
  ·refine ⟨.inr ⟨x⟩,by simp [NJ,hlt],?_⟩
   show KL.mk x = ⟨LH f l⟩
   congr 1
   refine List.ext_getElem (by simp [LH,hxl]) fun j h1 h2=>?_
   have:=hall j _ (List.getElem?_eq_getElem h1)
   rw [this,if_pos (by omega)]
   simp [LH]
 obtain ⟨r,h1,rfl⟩:=key
 exact h1
def LE (a b : List (List Int)) : Prop:=∀ (k : Nat) s t,a[k]? = some s → b[k]? = some t → ∀ v ∈ s,v ∈ t
theorem LE.trans {a b c : List (List Int)} (h1 : LE a b) (h2 : LE b c) (hl : a.length = b.length) : LE a c:=by
 intro k s t hs ht v hv
 have hk:=(List.getElem?_eq_some_iff.1 hs).1
 have hb : b[k]? = some (b[k]'(by omega)):=List.getElem?_eq_getElem _
 exact h2 k _ t hb ht v (h1 k s _ hs hb v hv)
theorem Yv : ∀ {a b : List (List Int)},a.length = b.length → (∀ s ∈ a,Lh s) → (∀ s ∈ b,Lh s) → LE a b → (a.map List.length).sum ≤ (b.map List.length).sum ∧ ((a.map List.length).sum = (b.map List.length).sum → a = b)
 | [],[],_,_,_,_=>⟨Nat.le_refl _,fun _=>rfl⟩
 | [],y :: b,h,_,_,_=>by simp at h
 | x :: a,[],h,_,_,_=>by simp at h
 | x :: a,y :: b,h,ha,hb,hle=>by
  have hsub:=(ha x (List.mem_cons_self ..)).sub (hb y (List.mem_cons_self ..)) (hle 0 x y rfl rfl)
  obtain ⟨h1,h2⟩:=Yv (a:=a) (b:=b) (by simpa using h) (fun s hs=>ha s (List.mem_cons_of_mem _ hs)) (fun s hs=>hb s (List.mem_cons_of_mem _ hs)) fun k s t hs ht=>hle (k + 1) s t (by simpa using hs) (by simpa using ht)
  have hlen:=hsub.length_le
  simp only [List.map_cons,List.sum_cons]
  refine ⟨by omega,fun he=>?_⟩
  rw [h2 (by omega),hsub.eq_of_length (by omega)]
theorem Wq : ∀ {a : List (List Int)},(∀ s ∈ a,Lh s) → (a.map List.length).sum ≤ 512 * a.length
 | [],_=>by simp
 | x :: a,ha=>by
  have h1:=(ha x (List.mem_cons_self ..)).length_le
  have h2:=Wq (a:=a) fun s hs=>ha s (List.mem_cons_of_mem _ hs)
  simp only [List.map_cons,List.sum_cons,List.length_cons]
  omega
theorem AaI {f : Ku} (hf : Ln f) {x : Kq} (hx : x ∈ f.Code) {s t : List Int} (hs : Lk f.Slots.length s) (ht : Lk f.Slots.length t) (h : ∀ v ∈ s,v ∈ t) : ∀ v ∈ inN x s,v ∈ inN x t:=by
 intro v hv
 rw [(NG hf hx hs).2] at hv
 rw [(NG hf hx ht).2]
 rcases hv with ⟨h1,h2⟩ | h1
 ·exact .inl ⟨h v h1,h2⟩
 ·exact .inr h1
theorem SG {f : Ku} (hf : Ln f) {a b : List (List Int)} (ha : LK f a) (hb : LK f b) (h : LE a b) : LE (LH f a) (LH f b):=by
 intro k s t hs ht v hv
 have hk : k < f.Code.length:=by have:=(List.getElem?_eq_some_iff.1 hs).1; simpa [LH] using this
 have e1 : s = Le f a k:=by simp [LH,hk] at hs; exact hs.symm
 have e2 : t = Le f b k:=by simp [LH,hk] at ht; exact ht.symm
 subst e1 e2
 rw [(LJ hf ha hk).2] at hv
 rw [(LJ hf hb hk).2]
 obtain ⟨j,hj,hv⟩:=hv
 have hx : f.Code[k]? = some (Kz f k):=by simp [Kz,hk]
 have hjm:=hf.next k _ hx j hj
 have hjc : f.Code[j.toNat]? = some (Kz f j):=by simp [Kz,show j.toNat < f.Code.length by omega]
 have hja : a[j.toNat]? = some (KE a j):=by simp [KE,show j.toNat < a.length by have:=ha.1; omega]
 have hjb : b[j.toNat]? = some (KE b j):=by simp [KE,show j.toNat < b.length by have:=hb.1; omega]
 exact ⟨j,hj,AaI hf (List.mem_of_getElem? hjc) (ha.2 _ (List.mem_of_getElem? hja)) (hb.2 _ (List.mem_of_getElem? hjb)) (h _ _ _ hja hjb) v hv⟩
structure OU (f : Ku) (l : List (List Int)) : Prop where
 ok : LK f l
 fix : LH f l = l
 least : ∀ b,LK f b → LE (LH f b) b → LE l b
theorem AaR {f : Ku} (hf : Ln f) : Hs (OX f) fun l=>OU f l.Out:=by
 have hlen:=hf.len'
 unfold OX
 refine .chk (by omega) ?_
 refine Hs.loop (fun l=>LK f l ∧ LE l (LH f l) ∧ ∀ b,LK f b → LE (LH f b) b → LE l b) (fun l=>512 * f.Code.length - (l.map List.length).sum) ⟨⟨by simp,fun s hs=>?_⟩,fun k s t hs ht v hv=>?_,fun b _ _ k s t hs ht v hv=>?_⟩ ?_
 ·rw [List.mem_replicate] at hs; rw [hs.2]; exact Lk.nil _
 ·have:=List.mem_of_getElem? hs; rw [List.mem_replicate] at this; rw [this.2] at hv; cases hv
 ·have:=List.mem_of_getElem? hs; rw [List.mem_replicate] at this; rw [this.2] at hv; cases hv
 ·rintro l ⟨hl,hle,hleast⟩
  have hl':=Yu hf hl
  have e1:=step_eq hf hl
  have e2 : Qa ⟨LH f l⟩ ⟨l⟩ = some (decide (LH f l = l)):=by
   unfold Qa
   rw [Za _ _ (by have:=hl'.1; simp only; omega) (fun s hs=>by have:=(hl'.2 s hs).1.length_le; omega)]
   rfl
  obtain ⟨s1,s2⟩:=Yv (by rw [hl.1,hl'.1]) (fun s hs=>(hl.2 s hs).1) (fun s hs=>(hl'.2 s hs).1) hle
  have s3:=Wq fun s hs=>(hl'.2 s hs).1
  rw [hl'.1] at s3
  unfold Qb
  rw [e1,Option.bind_some,e2,Option.bind_some]
  by_cases he : LH f l = l
  ·simp only [he,decide_true,cond_true]
   exact .lft (.pure ⟨hl,he,hleast⟩)
  ·simp only [he,decide_false,cond_false]
   refine .cnt ⟨⟨hl',SG hf hl hl' hle,fun b hb hb'=>(SG hf hl hb (hleast b hb hb')).trans hb' (by rw [hl'.1,(Yu hf hb).1])⟩,?_⟩
   have : (l.map List.length).sum ≠ ((LH f l).map List.length).sum:=fun e=>he (s2 e).symm
   simp only
   omega
end Go.Proofs.YtjjmcedpoolghaaDoor
namespace Go.Proofs.YtjjmcedpoolghaaDoor
open Go Go.Dw Go.Proofs
def I64 (v : Int) : Prop:=-9223372036854775808 ≤ v ∧ v ≤ 9223372036854775807
def Zg (l : List (List Int)) : Prop:=∀ s ∈ l,s.length ≤ 512 ∧ ∀ v ∈ s,I64 v
def Yb (l : List (List Int)) : Prop:=∀ s ∈ l,Lh s
theorem Yb.set {l : List (List Int)} (h : Yb l) {k : Nat} {s : List Int} (hs : Lh s) : Yb (l.set k s):=by
 intro t ht
 rcases List.mem_or_eq_of_mem_set ht with h1 | rfl
 ·exact h t h1
 ·exact hs
theorem Lh.add {s : List Int} (h : Lh s) (n : Int) : Lh (MZ n s):=by
 unfold MZ
 split
 ·exact h.NF (by assumption)
 ·exact h
end Go.Proofs.YtjjmcedpoolghaaDoor
namespace Go.Proofs.YtjjmcedpoolghaaDoor
open Go Go.Dw Go.Proofs
end Go.Proofs.YtjjmcedpoolghaaDoor
namespace Go.Proofs.YtjjmcedpoolghaaDoor
open Go Go.Dw Go.Proofs
attribute [local simp] Lz Bool.cond_eq_ite
theorem WJ : Lib.compact ([] : List Int) = []:=by simp [Lib.compact,Lib.compactUpTo]
theorem WK (a : Int) : Lib.compact [a] = [a]:=by simp [Lib.compact,Lib.compactUpTo,List.range_succ,Lib.keeps]
theorem Uw (a b : Int) : Lib.compact [a,b] = if a = b then [a] else [a,b]:=by
 by_cases h : a = b
 ·subst h; simp [Lib.compact,Lib.compactUpTo,List.range_succ,Lib.keeps]
 ·have h' : ¬ b = a:=fun e=>h e.symm
  simp [Lib.compact,Lib.compactUpTo,List.range_succ,Lib.keeps,h,h']
theorem Yt (a : Int) : LL [a] = [a]:=by simp [LL]
theorem Ys : LL [] = []:=by simp [LL]
theorem AaS (a b : Int) : LL [a,b] = if a ≤ b then [a,b] else [b,a]:=by
 unfold LL List.mergeSort
 by_cases h : a ≤ b <;> simp [List.MergeSort.Internal.splitInTwo,h]
theorem Yj {f : Ku} {k : Nat} {x : Kq} (h : f.Code[k]? = some x) (hk : k < 9223372036854775807) : PE f (k : Int) = some (KT x k):=by
 obtain ⟨hl,hx⟩:=List.getElem?_eq_some_iff.1 h
 have hnl : ¬ f.Code.length ≤ k:=by omega
 have w : IntKind.i64.wrap ((k : Int) + 1) = (k : Int) + 1:=wrap64 (by omega) (by omega)
 unfold PE Rr PF KT Ow
 obtain ⟨op,a,b,c,i⟩:=x
 by_cases h20 : op = 20
 ·subst h20; simp [hx,hl,hnl,show ¬ (k : Int) < 0 by omega,Yt,WK]
 ·have e20 : (op == 20) = false:=by simpa using h20
  by_cases h23 : op = 23
  ·subst h23; simp [hx,hl,hnl,show ¬ (k : Int) < 0 by omega,Ys,WJ]
  ·have e23 : (op == 23) = false:=by simpa using h23
   by_cases h24 : op = 24
   ·subst h24; simp [hx,hl,hnl,show ¬ (k : Int) < 0 by omega,Ys,WJ]
   ·have e24 : (op == 24) = false:=by simpa using h24
    by_cases h21 : op = 21
    ·subst h21
     simp [hx,hl,hnl,show ¬ (k : Int) < 0 by omega,w,AaS]
     by_cases hb : b < (k : Int) + 1
     ·simp [hb,show ¬ (k : Int) + 1 ≤ b by omega,Uw,show ¬ b = (k : Int) + 1 by omega]
     ·by_cases hb' : (k : Int) + 1 < b
      ·simp [hb,hb',show (k : Int) + 1 ≤ b by omega,Uw,show ¬ (k : Int) + 1 = b by omega]
      ·simp [Uw,show (k : Int) + 1 = b by omega]
    ·have e21 : (op == 21) = false:=by simpa using h21
     simp [hx,hl,hnl,show ¬ (k : Int) < 0 by omega,w,e24,h20,h23,h24,h21,Yt,WK]
end Go.Proofs.YtjjmcedpoolghaaDoor
namespace Go.Proofs.YtjjmcedpoolghaaDoor
open Go Go.Dw Go.Proofs
def Tq (k : Nat) (l : List (List Int)) (j : Int) : List (List Int):=l.set j.toNat ((l[j.toNat]?).getD [] ++ [(k : Int)])
def Ss (k : Nat) (l : List (List Int)) (nx : List Int) : List (List Int):=nx.foldl (Tq k) l
def RL (f : Ku) : Nat → List (List Int)
 | 0=>List.replicate f.Code.length []
 | k + 1=>Ss k (RL f k) (KT (Nf f k) k)
theorem Yh (k : Nat) (l : List (List Int)) (j : Int) : (Tq k l j).length = l.length:=by simp [Tq]
theorem SK (k : Nat) : ∀ (nx : List Int) (l : List (List Int)),(Ss k l nx).length = l.length
 | [],_=>rfl
 | j :: nx,l=>(SK k nx _).trans (Yh k l j)
theorem YE {k m : Nat} {l : List (List Int)} (h : ∀ q ∈ l,q.length ≤ m) (j : Int) : ∀ q ∈ Tq k l j,q.length ≤ m + 1:=by
 intro q hq
 rcases List.mem_or_eq_of_mem_set hq with hq | hq
 ·exact Nat.le_succ_of_le (h q hq)
 ·subst hq
  cases hx : l[j.toNat]? with
  | none=>simp
  | some q=>have:=h q (List.mem_of_getElem? hx); simp; omega
theorem TB {k : Nat} : ∀ (nx : List Int) (m : Nat) (l : List (List Int)),(∀ q ∈ l,q.length ≤ m) → ∀ q ∈ Ss k l nx,q.length ≤ m + nx.length
 | [],m,l,h=>h
 | j :: nx,m,l,h=>fun q hq=>by
  have:=TB nx (m + 1) _ (YE h j) q hq
  simp only [List.length_cons]; omega
theorem YF {k i : Nat} {l : List (List Int)} {nx : List Int} {y : Int} (h : nx[i]? = some y) : Ss k l (nx.take (i + 1)) = Tq k (Ss k l (nx.take i)) y:=by
 simp [Ss,List.take_add_one,h,List.foldl_append]
theorem WG (f : Ku) : ∀ k,(RL f k).length = f.Code.length
 | 0=>by simp [RL]
 | k + 1=>(SK k _ _).trans (WG f k)
theorem NH (x : Kq) (k : Int) : (KT x k).length ≤ 2:=by unfold KT; (repeat' split) <;> simp
theorem Vj (f : Ku) : ∀ k,∀ q ∈ RL f k,q.length ≤ 2 * k
 | 0,q,hq=>by simp only [RL,List.mem_replicate] at hq; simp [hq.2]
 | k + 1,q,hq=>by
  have:=TB _ _ _ (Vj f k) q hq
  have:=NH (Nf f k) k
  omega
theorem Zk {k : Nat} {l : List (List Int)} {y : Int} {j : Nat} {q : List Int} (hy : 0 ≤ y) (h : l[j]? = some q) : ∃ q',(Tq k l y)[j]? = some q' ∧ ∀ x,x ∈ q' ↔ x ∈ q ∨ (x = (k : Int) ∧ y = (j : Int)):=by
 obtain ⟨hl,_⟩:=List.getElem?_eq_some_iff.1 h
 by_cases e : y.toNat = j
 ·subst e
  refine ⟨q ++ [(k : Int)],by simp only [Tq,h,Option.getD_some]; exact List.getElem?_set_self hl,fun x=>?_⟩
  simp only [List.mem_append,List.mem_singleton]
  constructor
  ·rintro (h | h)
   ·exact .inl h
   ·exact .inr ⟨h,by omega⟩
  ·rintro (h | h)
   ·exact .inl h
   ·exact .inr h.1
 ·refine ⟨q,by simp only [Tq]; rw [List.getElem?_set_ne e]; exact h,fun x=>?_⟩
  constructor
  ·exact .inl
  ·rintro (h | h)
   ·exact h
   ·omega
theorem Xj {k : Nat} {j : Nat} : ∀ (nx : List Int) (l : List (List Int)) (q : List Int),(∀ y ∈ nx,0 ≤ y) → l[j]? = some q → ∃ q',(Ss k l nx)[j]? = some q' ∧ ∀ x,x ∈ q' ↔ x ∈ q ∨ (x = (k : Int) ∧ (j : Int) ∈ nx)
 | [],l,q,_,h=>⟨q,h,fun x=>by simp⟩
 | y :: nx,l,q,hn,h=>by
  obtain ⟨q1,h1,m1⟩:=Zk (k:=k) (hn y (by simp)) h
  obtain ⟨q2,h2,m2⟩:=Xj nx _ q1 (fun z hz=>hn z (by simp [hz])) h1
  refine ⟨q2,h2,fun x=>?_⟩
  rw [m2,m1]
  simp only [List.mem_cons]
  constructor
  ·rintro ((h | h) | h)
   ·exact .inl h
   ·exact .inr ⟨h.1,.inl h.2.symm⟩
   ·exact .inr ⟨h.1,.inr h.2⟩
  ·rintro (h | ⟨h,h' | h'⟩)
   ·exact .inl (.inl h)
   ·exact .inl (.inr ⟨h,h'.symm⟩)
   ·exact .inr ⟨h,h'⟩
theorem Yd {f : Ku} (hf : Ln f) {j : Nat} (hj : j < f.Code.length) : ∀ k,k ≤ f.Code.length → ∃ q,(RL f k)[j]? = some q ∧ ∀ x,x ∈ q ↔ ∃ i : Nat,i < k ∧ x = (i : Int) ∧ (j : Int) ∈ KT (Nf f i) i
 | 0,_=>⟨[],by simp [RL,hj],fun x=>by simp⟩
 | k + 1,hk=>by
  obtain ⟨q,h1,m1⟩:=Yd hf hj k (by omega)
  have hcode : f.Code[k]? = some (Nf f k):=by simp [Nf,show k < f.Code.length by omega]
  obtain ⟨q2,h2,m2⟩:=Xj (k:=k) (KT (Nf f k) k) _ q (fun y hy=>(hf.next k _ hcode y hy).1) h1
  refine ⟨q2,h2,fun x=>?_⟩
  rw [m2,m1]
  constructor
  ·rintro (⟨i,h3,h4,h5⟩ | ⟨h3,h4⟩)
   ·exact ⟨i,by omega,h4,h5⟩
   ·exact ⟨k,by omega,h3,h4⟩
  ·rintro ⟨i,h3,h4,h5⟩
   by_cases e : i = k
   ·subst e; exact .inr ⟨h4,h5⟩
   ·exact .inl ⟨i,by omega,h4,h5⟩
theorem YU {f : Ku} (hf : Ln f) : Ob f = some (RL f f.Code.length):=by
 have hlen:=hf.len
 have hlen':=hf.len'
 have : Hs (Ob f) (· = RL f f.Code.length):=by
  unfold Ob
  refine .chk (by omega) ?_
  refine Hs.loop (fun s=>∃ k : Nat,s.2 = (k : Int) ∧ k ≤ f.Code.length ∧ s.1 = RL f k) (fun s=>f.Code.length - s.2.toNat) ⟨0,rfl,Nat.zero_le _,by simp [RL]⟩ ?_
  rintro ⟨l,k'⟩ ⟨k,rfl,hk,rfl⟩
  unfold PU
  dsimp only
  refine .dec (fun hlt=>?_) fun hlt=>.lft (.pure ?_)
  ·have hlt : k < f.Code.length:=Int.ofNat_lt.1 hlt
   have wk:=Lj (show k < 9223372036854775807 by omega)
   have hcode : f.Code[k]? = some (Nf f k):=by simp [Nf,hlt]
   have hnx:=hf.next k _ hcode
   have hnl:=NH (Nf f k) k
   have hb:=Vj f k
   have hbl:=WG f k
   rw [Yj hcode (by omega),Option.bind_some]
   refine Hs.loop (fun s=>∃ i : Nat,s.2 = (i : Int) ∧ i ≤ (KT (Nf f k) k).length ∧ s.1 = Ss k (RL f k) ((KT (Nf f k) k).take i)) (fun s=>(KT (Nf f k) k).length - s.2.toNat) ⟨0,rfl,Nat.zero_le _,rfl⟩ ?_
   rintro ⟨l,i'⟩ ⟨i,rfl,hi,rfl⟩
   unfold PV
   dsimp only
   refine .dec (fun hil=>?_) fun hil=>.lft (.cnt ⟨⟨k + 1,wk,hlt,?_⟩,?_⟩)
   ·have hil : i < (KT (Nf f k) k).length:=Int.ofNat_lt.1 hil
    have wi:=Lj (show i < 9223372036854775807 by omega)
    refine .chk (by omega) ((Hs.get (i:=(i : Int)) (by omega) (by omega) fun z hz=>hz).bind fun y hy=>?_)
    simp only [Int.toNat_natCast] at hy
    have hyr:=hnx y (List.mem_of_getElem? hy)
    have hl2:=SK k ((KT (Nf f k) k).take i) (RL f k)
    refine .chk (by omega) ((Hs.get (i:=y) (by omega) (by omega) fun z hz=>hz).bind fun q hq=>?_)
    have hqb:=TB _ _ _ hb q (List.mem_of_getElem? hq)
    simp only [List.length_take] at hqb
    refine .chk (by simp only [List.length_singleton]; omega) (.chk (by omega) (.cnt ⟨⟨i + 1,wi,hil,?_⟩,by simp only [wi]; omega⟩))
    rw [YF hy,Tq,hq]; rfl
   ·have : i = (KT (Nf f k) k).length:=by have : ¬ i < (KT (Nf f k) k).length:=fun h=>hil (Int.ofNat_lt.2 h); omega
    subst this
    simp only [List.take_length]; rfl
   ·simp only [wk]; omega
  ·have : k = f.Code.length:=by have : ¬ k < f.Code.length:=fun h=>hlt (Int.ofNat_lt.2 h); omega
   rw [this]; rfl
 obtain ⟨r,h1,h2⟩:=this
 rw [h1,h2]
end Go.Proofs.YtjjmcedpoolghaaDoor
namespace Go.Proofs.YtjjmcedpoolghaaDoor
open Go Go.Dw Go.Proofs
attribute [local simp] Lz Bool.cond_eq_ite
theorem ZE (n : Int) : Mz n = some (decide (0 ≤ n ∧ n < 512)):=by
 unfold Mz
 by_cases h : 0 ≤ n <;> simp [h]
end Go.Proofs.YtjjmcedpoolghaaDoor
namespace Go.Proofs.YtjjmcedpoolghaaDoor
open Go Go.Dw Go.Proofs
attribute [local simp] Lz Bool.cond_eq_ite
def NL (l : List Int) (p : Int → Prop) : Prop:=Lh l ∧ ∀ v,v ∈ l ↔ (0 ≤ v ∧ v < 512) ∧ p v
theorem NL.eq {l m : List Int} {p q : Int → Prop} (h : NL l p) (k : NL m q) (e : ∀ v,0 ≤ v → v < 512 → (p v ↔ q v)) : l = m :=
 h.1.ext k.1 fun v=>by
  rw [h.2,k.2]
  exact ⟨fun ⟨a,b⟩=>⟨a,(e v a.1 a.2).1 b⟩,fun ⟨a,b⟩=>⟨a,(e v a.1 a.2).2 b⟩⟩
theorem NL.Yp {l : List Int} (h : Lh l) : NL l (· ∈ l):=⟨h,fun v=>⟨fun k=>⟨h.2 v k,k⟩,fun k=>k.2⟩⟩
theorem NL.mono {l : List Int} {p q : Int → Prop} (h : NL l p) (e : ∀ v,0 ≤ v → v < 512 → (p v ↔ q v)) : NL l q :=
 ⟨h.1,fun v=>by rw [h.2]; exact ⟨fun ⟨a,b⟩=>⟨a,(e v a.1 a.2).1 b⟩,fun ⟨a,b⟩=>⟨a,(e v a.1 a.2).2 b⟩⟩⟩
abbrev BS:=Ks
def ME (t : BS) : Prop:=∀ w ∈ t.toList,WW w
theorem BS.len (t : BS) : t.toList.length = 8:=rfl
def NU (t : BS) (i : Nat) : Int:=(t.toList[i]?).getD 0
def hasB (t : BS) (v : Int) : Bool:=RM (NU t (v.toNat / 64)) (v.toNat % 64)
theorem SI {t : BS} {i : Nat} (h : i < 8) : t.toList[i]? = some (NU t i):=by
 have : t.toList[i]? = some (t.toList[i]'(show i < 8 from h)):=List.getElem?_eq_getElem _
 simp [NU,this]
theorem ME.word {t : BS} (h : ME t) {i : Nat} (hi : i < 8) : WW (NU t i):=h _ (List.mem_of_getElem? (SI hi))
theorem XO {t : BS} {i j : Nat} {w : Int} (hi : i < 8) : NU (t.set i w) j = if i = j then w else NU t j:=by
 unfold NU
 rw [Mq,List.getElem?_set]
 by_cases h : i = j
 ·subst h
  simp [show i < (Ks.toList t).length from hi]
 ·simp [h]
theorem ME.set {t : BS} (h : ME t) {i : Nat} {w : Int} (hw : WW w) : ME (t.set i w):=by
 intro x hx
 rw [Mq] at hx
 rcases List.mem_or_eq_of_mem_set hx with h1 | rfl
 ·exact h x h1
 ·exact hw
theorem ME.zero : ME ⟨0,0,0,0,0,0,0,0⟩:=by
 intro w hw
 simp [Ks.toList] at hw
 subst hw
 exact ⟨by omega,by omega⟩
theorem Zm (v : Int) : hasB ⟨0,0,0,0,0,0,0,0⟩ v = false:=by
 have : NU ⟨0,0,0,0,0,0,0,0⟩ (v.toNat / 64) = 0:=by
  unfold NU
  have hl : ∀ i : Nat,(([0,0,0,0,0,0,0,0] : List Int)[i]?).getD 0 = 0:=by
   intro i
   match i with
   | 0 | 1 | 2 | 3 | 4 | 5 | 6 | 7=>rfl
   | n + 8=>rfl
  exact hl _
 unfold hasB
 rw [this]
 simp [RM]
theorem AaY (n : Int) : 0 ≤ (IntKind.u64.wrap n).tmod 64 ∧ (0 ≤ n → n < 512 → ((IntKind.u64.wrap n).tmod 64).toNat = n.toNat % 64):=by
 obtain ⟨h0,h1⟩:=WB n
 rw [Int.tmod_eq_emod_of_nonneg h0]
 refine ⟨by omega,fun ha hb=>?_⟩
 rw [ZA ⟨ha,by omega⟩]
 omega
theorem AaX {n : Int} (h0 : 0 ≤ n) (h1 : n < 512) : IntKind.i64.wrap (n.tdiv 64) = ((n.toNat / 64 : Nat) : Int):=by
 rw [Int.tdiv_eq_ediv_of_nonneg h0,wrap64 (by omega) (by omega)]
 omega
theorem AbD {n : Int} (h0 : 0 ≤ n) (h1 : n < 512) : IntKind.u64.wrap (1 * 2 ^ (Nat.min ((IntKind.u64.wrap n).tmod 64).toNat IntKind.u64.bits)) = ((2 ^ (n.toNat % 64) : Nat) : Int):=by
 rw [(AaY n).2 h0 h1]
 have e : Nat.min (n.toNat % 64) IntKind.u64.bits = n.toNat % 64:=Nat.min_eq_left (by show n.toNat % 64 ≤ 64; omega)
 rw [e,Int.one_mul]
 have hp : 2 ^ (n.toNat % 64) < 18446744073709551616:=by
  have:=Nat.pow_lt_pow_right (a:=2) (by decide) (show n.toNat % 64 < 64 by omega)
  simpa using this
 have:=Tu hp
 rw [Int.natCast_pow] at this ⊢
 exact this
theorem Yq (j : Nat) (h : j < 64) : 2 ^ j < 18446744073709551616:=by
 have:=Nat.pow_lt_pow_right (a:=2) (by decide) h
 simpa using this
theorem Ads {n v : Int} (h0 : 0 ≤ n) (h0' : 0 ≤ v) (hne : v ≠ n) (h : n.toNat / 64 = v.toNat / 64) : v.toNat % 64 ≠ n.toNat % 64:=by omega
theorem Zu {t : BS} (ht : ME t) (n : Int) (b : Bool) : Hs (LN t n b) fun r=>ME r ∧ ∀ v,0 ≤ v → v < 512 → hasB r v = if v = n then b else hasB t v:=by
 unfold LN
 refine .chk (AaY n).1 ?_
 rw [ZE,Option.bind_some]
 by_cases h : 0 ≤ n ∧ n < 512
 ·rw [decide_eq_true h]
  obtain ⟨h0,h1⟩:=h
  have hi : n.toNat / 64 < 8:=by omega
  have hb:=AbD h0 h1
  have hw:=ht.word hi
  have hp : WW ((2 ^ (n.toNat % 64) : Nat) : Int):=WW.nat (Yq _ (by omega))
  have fin : ∀ (x : Nat),x < 18446744073709551616 → (∀ j,j < 64 → x.testBit j = if j = n.toNat % 64 then b else (NU t (n.toNat / 64)).toNat.testBit j) →
    ME (t.set (n.toNat / 64) (x : Int)) ∧ ∀ v,0 ≤ v → v < 512 → hasB (t.set (n.toNat / 64) (x : Int)) v = if v = n then b else hasB t v:=by
   intro x hx hbit
   refine ⟨ht.set (WW.nat hx),fun v hv0 hv1=>?_⟩
   unfold hasB
   rw [XO hi]
   by_cases he : v = n
   ·subst he
    rw [if_pos rfl,if_pos rfl]
    show (x : Int).toNat.testBit _ = b
    rw [Int.toNat_natCast,hbit _ (by omega),if_pos rfl]
   ·rw [if_neg he]
    by_cases hq : n.toNat / 64 = v.toNat / 64
    ·rw [if_pos hq]
     show (x : Int).toNat.testBit _ = _
     rw [Int.toNat_natCast,hbit _ (by omega),if_neg (Ads h0 hv0 he hq),hq]
     rfl
    ·rw [if_neg hq]
  cases b with
  | true =>
   simp only [Bool.not_true,cond_false,cond_true]
   rw [AaX h0 h1]
   refine .chk (by omega) ?_
   rw [Int.toNat_natCast,SI hi,Option.bind_some]
   refine .chk (by omega) ?_
   rw [Option.bind_some]
   refine .pure ?_
   rw [hb,Adu hw hp,Int.toNat_natCast]
   refine fin _ (Zr hw.toNat_lt (Yq _ (by omega))) fun j hj=>?_
   rw [Nat.testBit_or,Nat.testBit_two_pow]
   by_cases e : j = n.toNat % 64
   ·simp [e]
   ·rw [if_neg e]
    simp [show ¬ n.toNat % 64 = j from fun h=>e h.symm]
  | false =>
   simp only [Bool.not_true,cond_false]
   rw [AaX h0 h1]
   refine .chk (by omega) ?_
   rw [Int.toNat_natCast,SI hi,Option.bind_some]
   refine .chk (by omega) ?_
   rw [Option.bind_some]
   refine .pure ?_
   rw [hb,ZG hw hp,Int.toNat_natCast]
   refine fin _ (YM hw.toNat_lt) fun j hj=>?_
   rw [ZK hw.toNat_lt (Yq _ (by omega)),Nat.testBit_two_pow]
   by_cases e : j = n.toNat % 64
   ·simp [e]
   ·rw [if_neg e]
    simp [show ¬ n.toNat % 64 = j from fun h=>e h.symm]
 ·rw [decide_eq_false h]
  simp only [Bool.not_false,cond_true]
  exact .pure ⟨ht,fun v h0 h1=>by rw [if_neg (fun e=>h (by omega))]⟩
theorem XZ (l : List Int) (hl : l.length ≤ 9000000000000000000) : Hs (Mf l) fun r=>ME r ∧ ∀ v,0 ≤ v → v < 512 → hasB r v = decide (v ∈ l):=by
 unfold Mf
 refine Hs.loop (fun s=>ME s.1 ∧ ∃ k : Nat,s.2 = (k : Int) ∧ k ≤ l.length ∧ ∀ v,0 ≤ v → v < 512 → hasB s.1 v = decide (v ∈ l.take k)) (fun s=>l.length - s.2.toNat) ⟨ME.zero,0,rfl,Nat.zero_le _,fun v _ _=>by simp [Zm]⟩ ?_
 rintro ⟨t,k'⟩ ⟨ht,k,hk',hk,hall⟩
 simp only at ht hk' hall
 subst hk'
 unfold OG
 refine .dec (fun hlt=>?_) fun hge=>?_
 ·have hlt : k < l.length:=by omega
  refine Hs.bind (P:=fun x=>l[k]? = some x) ⟨l[k],by simp [hlt],by simp [hlt]⟩ fun x hx=>(Zu ht x true).bind fun r hr=>.cnt ?_
  rw [Lj (by omega)]
  refine ⟨⟨hr.1,k + 1,rfl,hlt,fun v h0 h1=>?_⟩,by simp only; omega⟩
  simp only
  rw [hr.2 v h0 h1,hall v h0 h1,List.take_add_one,hx]
  by_cases e : v = x
  ·simp [e]
  ·simp [e]
 ·have : k = l.length:=by omega
  subst this
  exact .lft (.pure ⟨ht,fun v h0 h1=>by rw [hall v h0 h1,List.take_length]⟩)
theorem Lh.snoc {l : List Int} (h : Lh l) {z : Int} (h0 : 0 ≤ z ∧ z < 512) (hz : ∀ x ∈ l,x < z) : Lh (l ++ [z]):=by
 refine ⟨List.pairwise_append.2 ⟨h.1,List.pairwise_singleton _ _,fun a ha b hb=>?_⟩,fun x hx=>?_⟩
 ·simp only [List.mem_singleton] at hb; subst hb; exact hz a ha
 ·simp only [List.mem_append,List.mem_singleton] at hx
  rcases hx with h1 | rfl
  ·exact h.2 x h1
  ·exact h0
theorem Vl {t : BS} (ht : ME t) : Hs (Lx t) fun r=>r.2 = t ∧ NL r.1 (fun v=>hasB t v = true):=by
 unfold Lx
 refine Hs.loop (fun s=>∃ i : Nat,s.2 = (i : Int) ∧ i ≤ 8 ∧ NL s.1 (fun v=>v < 64 * i ∧ hasB t v = true)) (fun s=>8 - s.2.toNat) ⟨0,rfl,by omega,⟨Lh.nil,fun v=>by simp; omega⟩⟩ ?_
 rintro ⟨l,i'⟩ ⟨i,hi',hi,hs⟩
 simp only at hi' hs
 subst hi'
 unfold MJ
 refine .dec (fun hlt=>?_) fun hge=>?_
 ·have hlt : i < 8:=by omega
  refine .chk (by omega) ?_
  rw [Int.toNat_natCast,SI hlt,Option.bind_some]
  have hw:=ht.word hlt
  refine Hs.loop (fun s=>WW s.2 ∧ ∃ c : Nat,c ≤ 64 ∧ NL s.1 (fun v=>v < 64 * i + c ∧ hasB t v = true) ∧ ∀ j,j < 64 → RM s.2 j = (decide (c ≤ j) && RM (NU t i) j)) (fun s=>s.2.toNat) ⟨hw,0,by omega,by simpa using hs,fun j _=>by simp⟩ ?_
  rintro ⟨m,x⟩ ⟨hx,c,hc,hm,hb⟩
  simp only at hx hm hb
  unfold MK
  refine .bne (fun hne=>?_) fun he=>?_
  ·have hx0 : 0 < x.toNat:=by have:=hx.1; omega
   obtain ⟨k1,k2,k3,k4⟩:=AaL hx0 hx.toNat_lt
   generalize hk : Lib.ctz 64 x.toNat = k at k1 k2 k3 k4
   have ek : Vv x = some (k : Int):=by
    unfold Vv
    rw [Lz (show 0 ≤ x ∧ x < 18446744073709551616 from hx),hk]
   rw [ek,Option.bind_some]
   have hck : c ≤ k:=by
    have:=hb k k1
    unfold RM at this
    rw [k2] at this
    simp at this
    exact this.1
   have hwk : RM (NU t i) k = true:=by
    have:=hb k k1
    unfold RM at this
    rw [k2] at this
    simp at this
    exact this.2
   have e1 : IntKind.i64.wrap (IntKind.i64.wrap (64 * (i : Int)) + (k : Int)) = ((64 * i + k : Nat) : Int):=by
    rw [wrap64 (n:=64 * (i : Int)) (by omega) (by omega),wrap64 (by omega) (by omega)]; omega
   have e2 : IntKind.u64.wrap (x - 1) = x - 1:=ZA ⟨by omega,by have:=hx.2; omega⟩
   have e3 : (x - 1).toNat = x.toNat - 1:=by omega
   have hz : ∀ v ∈ m,v < ((64 * i + k : Nat) : Int):=fun v hv=>by
    have:=((hm.2 v).1 hv).2.1
    omega
   have hlen:=hm.1.length_le
   refine .chk (by simp; omega) (.cnt ?_)
   rw [e1,e2,Adx hx ⟨by omega,by have:=hx.2; omega⟩,e3]
   refine ⟨⟨WW.nat (YM hx.toNat_lt),k + 1,by omega,⟨hm.1.snoc (by omega) hz,fun v=>?_⟩,fun j hj=>?_⟩,?_⟩
   ·simp only [List.mem_append,List.mem_singleton,hm.2]
    constructor
    ·rintro (⟨a,b,d⟩ | rfl)
     ·exact ⟨a,by omega,d⟩
     ·refine ⟨by omega,by omega,?_⟩
      unfold hasB
      have q1 : (((64 * i + k : Nat) : Int).toNat) / 64 = i:=by omega
      have q2 : (((64 * i + k : Nat) : Int).toNat) % 64 = k:=by omega
      rw [q1,q2]
      exact hwk
    ·rintro ⟨a,b,d⟩
     by_cases e : v = ((64 * i + k : Nat) : Int)
     ·exact .inr e
     ·refine .inl ⟨a,?_,d⟩
      refine Int.not_le.1 fun hle=>?_
      have q1 : v.toNat / 64 = i:=by omega
      have q3 : v.toNat % 64 < k:=by omega
      have q4 : c ≤ v.toNat % 64:=by omega
      have q5:=hb (v.toNat % 64) (by omega)
      unfold RM at q5
      rw [k3 _ q3] at q5
      unfold hasB at d
      rw [q1] at d
      unfold RM at d
      rw [d] at q5
      simp [q4] at q5
   ·simp only
    unfold RM
    rw [Int.toNat_natCast,k4]
    have q:=hb j hj
    unfold RM at q
    by_cases h1 : j < k
    ·rw [k3 _ h1]
     simp [show ¬ k + 1 ≤ j by omega]
    ·by_cases h2 : j = k
     ·subst h2
      simp [show ¬ j + 1 ≤ j by omega]
     ·rw [q]
      simp [h2,show c ≤ j by omega,show k + 1 ≤ j by omega]
   ·simp only [Int.toNat_natCast]
    have : x.toNat &&& (x.toNat - 1) ≤ x.toNat - 1:=Nat.and_le_right
    omega
  ·have he : x = 0:=he
   subst he
   refine .lft (.cnt ?_)
   rw [Lj (by omega)]
   refine ⟨⟨i + 1,rfl,hlt,hm.mono fun v h0 h1=>⟨fun ⟨a,b⟩=>⟨by omega,b⟩,fun ⟨a,b⟩=>⟨?_,b⟩⟩⟩,by simp only; omega⟩
   refine Int.not_le.1 fun hle=>?_
   have q1 : v.toNat / 64 = i:=by omega
   have q4 : c ≤ v.toNat % 64:=by omega
   have q5:=hb (v.toNat % 64) (by omega)
   unfold hasB at b
   rw [q1] at b
   rw [b] at q5
   simp [q4,RM] at q5
 ·have : i = 8:=by omega
  subst this
  exact .lft (.pure ⟨rfl,hs.mono fun v h0 h1=>⟨fun h=>h.2,fun h=>⟨by omega,h⟩⟩⟩)
theorem ZC {x y : Int} (hx : WW x) (hy : WW y) : Nj x y = some ((x.toNat ||| y.toNat : Nat) : Int):=by
 unfold Nj; rw [Adu hx hy]
theorem Abw {s t : BS} (hs : ME s) (ht : ME t) (g : Nat → Nat → Nat) (hg : ∀ x y,x < 18446744073709551616 → y < 18446744073709551616 → g x y < 18446744073709551616) (p : Bool → Bool → Bool)
  (hp : ∀ x y j,x < 18446744073709551616 → y < 18446744073709551616 → j < 64 → (g x y).testBit j = p (x.testBit j) (y.testBit j))
  {body : BS × Int → Option ((BS × Int) ⊕ (BS × BS × BS))} (hend : ∀ x,body (x,8) = some (.inr (x,s,t)))
  (hstep : ∀ x (i : Nat),i < 8 → body (x,(i : Int)) = some (.inl (x.set i ((g (NU s i).toNat (NU t i).toNat : Nat) : Int),((i + 1 : Nat) : Int)))) :
  Hs (Lb body (⟨0,0,0,0,0,0,0,0⟩,0)) fun r=>ME r.1 ∧ ∀ v,0 ≤ v → v < 512 → hasB r.1 v = p (hasB s v) (hasB t v):=by
 refine Hs.loop (fun q=>ME q.1 ∧ ∃ i : Nat,q.2 = (i : Int) ∧ i ≤ 8 ∧ ∀ j,j < i → NU q.1 j = ((g (NU s j).toNat (NU t j).toNat : Nat) : Int)) (fun q=>8 - q.2.toNat) ⟨ME.zero,0,rfl,by omega,fun j hj=>by omega⟩ ?_
 rintro ⟨x,i'⟩ ⟨hx,i,hi',hi,hall⟩
 simp only at hx hi' hall
 subst hi'
 by_cases hlt : i < 8
 ·refine ⟨_,hstep x i hlt,⟨hx.set (WW.nat (hg _ _ (hs.word hlt).toNat_lt (ht.word hlt).toNat_lt)),i + 1,rfl,hlt,fun j hj=>?_⟩,by simp only; omega⟩
  simp only
  rw [XO hlt]
  by_cases e : i = j
  ·subst e; rw [if_pos rfl]
  ·rw [if_neg e]; exact hall j (by omega)
 ·obtain rfl : i = 8:=by omega
  refine ⟨_,hend x,hx,fun v h0 h1=>?_⟩
  have hv : v.toNat / 64 < 8:=by omega
  unfold hasB
  simp only
  rw [hall _ hv]
  unfold RM
  rw [Int.toNat_natCast,hp _ _ _ (hs.word hv).toNat_lt (ht.word hv).toNat_lt (by omega)]
theorem XX {s t : BS} (hs : ME s) (ht : ME t) : Hs (Lr s t) fun r=>ME r.1 ∧ ∀ v,0 ≤ v → v < 512 → hasB r.1 v = (hasB s v || hasB t v):=by
 unfold Lr
 refine Abw hs ht (· ||| ·) (fun x y=>Zr) (· || ·) (fun x y j _ _ _=>Nat.testBit_or ..) (fun x=>by simp [Ls]) fun x i hi=>?_
 have w:=Lj (show i < 9223372036854775807 by omega)
 simp [Ls,SI hi,ZC (hs.word hi) (ht.word hi),w,show (i : Int) < 8 by omega]
theorem ZI (l : List Int) (hl : l.length ≤ 9000000000000000000) : Hs (OB l) fun r=>NL r (· ∈ l):=by
 unfold OB
 exact (XZ l hl).bind fun r hr=>(Vl hr.1).bind fun q hq=>.pure (hq.2.mono fun v h0 h1=>by rw [hr.2 v h0 h1]; simp)
theorem Yg (l : List Int) (n : Int) (hl : l.length ≤ 9000000000000000000) : Hs (Na l n) fun r=>NL r (fun v=>v ∈ l ∧ v ≠ n):=by
 unfold Na
 refine (XZ l hl).bind fun r hr=>(Zu hr.1 n false).bind fun u hu=>(Vl hu.1).bind fun q hq=>.pure (hq.2.mono fun v h0 h1=>?_)
 rw [hu.2 v h0 h1,hr.2 v h0 h1]
 by_cases e : v = n <;> simp [e]
theorem YD (a b : List Int) (ha : a.length ≤ 9000000000000000000) (hb : b.length ≤ 9000000000000000000) : Hs (Mr a b) fun r=>NL r (fun v=>v ∈ a ∨ v ∈ b):=by
 unfold Mr
 refine (XZ a ha).bind fun r hr=>(XZ b hb).bind fun u hu=>(XX hr.1 hu.1).bind fun x hx=>(Vl hx.1).bind fun q hq=>.pure (hq.2.mono fun v h0 h1=>?_)
 rw [hx.2 v h0 h1,hr.2 v h0 h1,hu.2 v h0 h1]; simp
theorem Yf {s : List Int} (hs : Lh s) (n : Int) : Na s n = some (s.filter (· != n)):=by
 obtain ⟨r,h1,h2⟩:=Yg s n (by have:=hs.length_le; omega)
 rw [h1,h2.eq (NL.Yp (hs.filter (· != n))) fun v _ _=>by simp [List.mem_filter]]
theorem Uv {a b : List Int} (ha : Lh a) (hb : ∀ x ∈ b,0 ≤ x ∧ x < 512) (hl : b.length ≤ 1000) : Mr a b = some (LQ a b):=by
 obtain ⟨r,h1,h2⟩:=YD a b (by have:=ha.length_le; omega) (by omega)
 obtain ⟨h3,h4⟩:=ON (n:=512) (by omega) (b:=b) ⟨ha,fun x hx=>(ha.2 x hx).2⟩ hb
 rw [h1,h2.eq (NL.Yp h3.1) fun v _ _=>by rw [h4]]
theorem ZH {b : List Int} (hb : ∀ x ∈ b,0 ≤ x ∧ x < 512) (hl : b.length ≤ 1000) : OB b = some (LQ [] b):=by
 obtain ⟨r,h1,h2⟩:=ZI b (by omega)
 obtain ⟨h3,h4⟩:=ON (n:=512) (by omega) (b:=b) ⟨Lh.nil,fun x hx=>by cases hx⟩ hb
 rw [h1,h2.eq (NL.Yp h3.1) fun v _ _=>by rw [h4]; simp]
end Go.Proofs.YtjjmcedpoolghaaDoor
namespace Go.Proofs.YtjjmcedpoolghaaDoor
open Go Go.Dw Go.Proofs
attribute [local simp] Lz Bool.cond_eq_ite
theorem AaF (x : Kq) : Oa x = some (LC x):=by
 obtain ⟨op,a,b,c,i⟩:=x
 unfold Oa LC
 by_cases h15 : op = 15
 ·simp [h15]
 ·have e15 : (op == 15) = false:=by simpa using h15
  by_cases h17 : op = 17
  ·simp [h17]
  ·have e17 : (op == 17) = false:=by simpa using h17
   simp [h15,e15,h17,e17]
theorem Abe (x : Kq) : Nk x = some (if x.Op = 16 ∨ x.Op = 17 then (x.A,true) else (0,false)):=by
 obtain ⟨op,a,b,c,i⟩:=x
 unfold Nk
 by_cases h16 : op = 16
 ·simp [h16]
 ·have e16 : (op == 16) = false:=by simpa using h16
  by_cases h17 : op = 17
  ·simp [h17]
  ·have e17 : (op == 17) = false:=by simpa using h17
   simp [h16,e16,h17,e17]
theorem YQ (x : Kq) : (LC x).length ≤ 1:=by unfold LC; split <;> simp
theorem ZD (x : Kq) (hu : ∀ v ∈ LC x,0 ≤ v ∧ v < 512) : LQ [] (LC x) = LC x:=by
 unfold LC at hu ⊢
 split
 ·rename_i h
  rw [if_pos h] at hu
  have:=hu x.B (by simp)
  simp [LQ,MZ,NF,this]
 ·rfl
theorem Adp {x : Kq} {s : List Int} (hs : Lh s) (hu : ∀ v ∈ LC x,0 ≤ v ∧ v < 512) : Rb x s = some (inN x s):=by
 have hl:=YQ x
 have h1:=ZH hu (by omega)
 rw [ZD x hu] at h1
 have h2:=Yf hs x.A
 have h3:=Uv (hs.filter (· != x.A)) hu (by omega)
 have h4:=Uv hs hu (by omega)
 unfold Rb inN
 rw [Abe,Option.bind_some,AaF]
 by_cases h : x.Op = 16 ∨ x.Op = 17
 ·simp only [h,if_true,cond_true,Option.bind_some,h1,h2,h3]
 ·simp only [h,if_false,cond_false,Option.bind_some,h1,h4]
end Go.Proofs.YtjjmcedpoolghaaDoor
namespace Go.Proofs.YtjjmcedpoolghaaDoor
open Go Go.Dw Go.Proofs
def KND (m : List (Int × Bool)) : Prop:=(m.map Prod.fst).Nodup
theorem Xn {y : Int} : ∀ {m : List (Int × Bool)},y ∉ m.map Prod.fst → Lv false y m = false
 | [],_=>rfl
 | (k,u) :: r,h=>by
  simp only [List.map_cons,List.mem_cons,not_or] at h
  simp only [Lv]
  rw [if_neg (fun e=>h.1 e.symm)]
  exact Xn h.2
theorem Xo (x y : Int) : ∀ m : List (Int × Bool),Lv false y (Me x true m) = if y = x then true else Lv false y m
 | []=>by
  simp only [Me,Lv]
  by_cases e : x = y
  ·rw [if_pos e,if_pos e.symm]
  ·rw [if_neg e,if_neg (fun h=>e h.symm)]
 | (k,u) :: r=>by
  simp only [Me]
  by_cases e : k = x
  ·subst e
   rw [if_pos rfl]
   simp only [Lv]
   by_cases e2 : k = y
   ·rw [if_pos e2,if_pos e2.symm]
   ·rw [if_neg e2,if_neg (fun h=>e2 h.symm),if_neg e2]
  ·rw [if_neg e]
   simp only [Lv]
   by_cases e2 : k = y
   ·subst e2
    rw [if_pos rfl,if_neg e,if_pos rfl]
   ·rw [if_neg e2,if_neg e2]
    exact Xo x y r
theorem Ym (x y : Int) (u : Bool) : ∀ m : List (Int × Bool),y ∈ (Me x u m).map Prod.fst ↔ y = x ∨ y ∈ m.map Prod.fst
 | []=>by simp [Me]
 | (k,u') :: r=>by
  simp only [Me]
  by_cases e : k = x
  ·subst e
   rw [if_pos rfl]
   simp only [List.map_cons,List.mem_cons]
   constructor
   ·exact .inr
   ·rintro (h | h)
    ·exact .inl h
    ·exact h
  ·rw [if_neg e]
   simp only [List.map_cons,List.mem_cons,Ym x y u r]
   constructor
   ·rintro (h | h | h)
    ·exact .inr (.inl h)
    ·exact .inl h
    ·exact .inr (.inr h)
   ·rintro (h | h | h)
    ·exact .inr (.inl h)
    ·exact .inl h
    ·exact .inr (.inr h)
theorem KND.set {m : List (Int × Bool)} (h : KND m) (x : Int) (u : Bool) : KND (Me x u m):=by
 induction m with
 | nil=>simp [KND,Me]
 | cons p r ih =>
  obtain ⟨k,u'⟩:=p
  simp only [KND,List.map_cons,List.nodup_cons] at h
  simp only [Me]
  by_cases e : k = x
  ·rw [if_pos e]
   exact List.nodup_cons.2 h
  ·rw [if_neg e]
   refine List.nodup_cons.2 ⟨fun hm=>?_,ih h.2⟩
   rcases (Ym x k u r).1 hm with h' | h'
   ·exact e h'
   ·exact h.1 h'
theorem Yl (x y : Int) : ∀ m : List (Int × Bool),y ∈ (LO x m).map Prod.fst → y ∈ m.map Prod.fst
 | [],h=>h
 | (k,u') :: r,h=>by
  simp only [LO] at h
  split at h
  ·exact List.mem_cons_of_mem _ h
  ·rcases List.mem_cons.1 h with h | h
   ·exact List.mem_cons.2 (.inl h)
   ·exact List.mem_cons_of_mem _ (Yl x y r h)
theorem KND.del {m : List (Int × Bool)} (h : KND m) (x : Int) : KND (LO x m):=by
 induction m with
 | nil=>exact h
 | cons p r ih =>
  obtain ⟨k,u'⟩:=p
  simp only [KND,List.map_cons,List.nodup_cons] at h
  simp only [LO]
  split
  ·exact h.2
  ·exact List.nodup_cons.2 ⟨fun hm=>h.1 (Yl x k r hm),ih h.2⟩
theorem YX {m : List (Int × Bool)} (h : KND m) (x y : Int) : Lv false y (LO x m) = if y = x then false else Lv false y m:=by
 induction m with
 | nil=>simp [LO,Lv]
 | cons p r ih =>
  obtain ⟨k,u'⟩:=p
  simp only [KND,List.map_cons,List.nodup_cons] at h
  simp only [LO]
  by_cases e : k = x
  ·subst e
   rw [if_pos rfl]
   by_cases e2 : y = k
   ·subst e2
    rw [if_pos rfl]
    exact Xn h.1
   ·rw [if_neg e2]
    simp only [Lv]
    rw [if_neg (fun h=>e2 h.symm)]
  ·rw [if_neg e]
   simp only [Lv]
   by_cases e2 : k = y
   ·subst e2
    rw [if_pos rfl,if_neg e,if_pos rfl]
   ·rw [if_neg e2,if_neg e2]
    exact ih h.2
structure WL (n : Nat) (m : List (Int × Bool)) (w : List Int) : Prop where
 nd : KND m
 iff : ∀ x,Lv false x m = true ↔ x ∈ w
 uniq : w.Nodup
 rng : ∀ x ∈ w,0 ≤ x ∧ x < (n : Int)
theorem WL.nil (n : Nat) : WL n [] []:=⟨List.nodup_nil,fun x=>by simp [Lv],List.nodup_nil,fun x h=>by cases h⟩
theorem WL.len {n : Nat} {m : List (Int × Bool)} {w : List Int} (h : WL n m w) : w.length ≤ n:=by
 have h1 : (w.map Int.toNat).Nodup:=by
  refine List.pairwise_map.2 (List.Pairwise.imp_of_mem (fun {a b} ha hb hab e=>hab ?_) h.uniq)
  have:=h.rng a ha
  have:=h.rng b hb
  omega
 have:=h1.length_le_of_subset (l₂:=List.range n) fun x hx=>by
  obtain ⟨y,hy,rfl⟩:=List.mem_map.1 hx
  have:=h.rng y hy
  simp only [List.mem_range]
  omega
 simpa using this
theorem WL.put {n : Nat} {m : List (Int × Bool)} {w : List Int} (h : WL n m w) {x : Int} (hx : x ∉ w) (hr : 0 ≤ x ∧ x < (n : Int)) : WL n (Me x true m) (w ++ [x]):=by
 refine ⟨h.nd.set x true,fun y=>?_,?_,fun y hy=>?_⟩
 ·rw [Xo]
  by_cases e : y = x
  ·subst e; simp
  ·rw [if_neg e,h.iff]; simp [e]
 ·refine List.nodup_append.2 ⟨h.uniq,by simp,fun a ha b hb=>?_⟩
  simp only [List.mem_singleton] at hb
  subst hb
  exact fun e=>hx (e ▸ ha)
 ·simp only [List.mem_append,List.mem_singleton] at hy
  rcases hy with hy | rfl
  ·exact h.rng y hy
  ·exact hr
theorem WL.take {n : Nat} {m : List (Int × Bool)} {w : List Int} {x : Int} (h : WL n m (w ++ [x])) : WL n (LO x m) w:=by
 obtain ⟨u1,_,u3⟩:=List.nodup_append.1 h.uniq
 refine ⟨h.nd.del x,fun y=>?_,u1,fun y hy=>h.rng y (List.mem_append_left _ hy)⟩
 rw [YX h.nd]
 by_cases e : y = x
 ·subst e
  rw [if_pos rfl]
  constructor
  ·intro h; cases h
  ·intro hy; exact absurd rfl (u3 y hy y (by simp))
 ·rw [if_neg e,h.iff]; simp [e]
theorem AaE (s t : List Int) (hs : s.length ≤ 9223372036854775807) : LX s t = some (decide (s = t)):=by
 unfold LX
 by_cases hl : s.length = t.length
 ·have : Hs (Lb (fun q=>LY s t q) 0) fun b=>b = decide (s = t):=by
   refine Hs.loop (fun q=>∃ k : Nat,q = (k : Int) ∧ k ≤ s.length ∧ s.take k = t.take k) (fun q=>s.length - q.toNat) ⟨0,rfl,Nat.zero_le _,by simp⟩ ?_
   rintro _ ⟨k,rfl,hk,he⟩
   unfold LY
   refine .dec (fun hlt=>?_) fun hge=>.lft (.pure ?_)
   ·have hlt : k < s.length:=Int.ofNat_lt.1 hlt
    have e1 : s[k]? = some s[k]:=List.getElem?_eq_getElem hlt
    have e2 : t[k]? = some (t[k]'(by omega)):=List.getElem?_eq_getElem _
    rw [Tv,e1,Option.bind_some,Tv,e2,Option.bind_some]
    refine .bne (fun hne=>.lft (.pure ?_)) fun hee=>?_
    ·have : s ≠ t:=by rintro rfl; exact hne rfl
     show false = decide (s = t)
     simp [this]
    ·rw [Lj (by omega)]
     refine .cnt ⟨⟨k + 1,rfl,hlt,?_⟩,by simp only; omega⟩
     rw [List.take_add_one,List.take_add_one,e1,e2,he,hee]
   ·have hkn : k = s.length:=by omega
    subst hkn
    have : s = t:=by
     have h2 : t.take s.length = t:=List.take_of_length_le (by omega)
     rw [List.take_length,h2] at he
     exact he
    show true = decide (s = t)
    simp [this]
  obtain ⟨r,h1,rfl⟩:=this
  simp only [hl,bne_self_eq_false,cond_false]
  exact h1
 ·have hne : s ≠ t:=fun e=>hl (by rw [e])
  have hb : ((s.length : Int) != (t.length : Int)) = true:=by simp; omega
  rw [hb,cond_true]
  simp [hne]
theorem XM {l : List (List Int)} {k : Nat} {s : List Int} (hk : k < l.length) {j : Int} (hj : 0 ≤ j) : KE (l.set k s) j = if j = (k : Int) then s else KE l j:=by
 unfold KE
 by_cases e : j = (k : Int)
 ·subst e
  rw [if_pos rfl,Int.toNat_natCast,List.getElem?_set_self hk]
  rfl
 ·rw [if_neg e,List.getElem?_set_ne (by omega)]
theorem XV {f : Ku} (hf : Ln f) {l l' : List (List Int)} (hl : LK f l) (hl' : LK f l') {k : Nat} (hk : k < f.Code.length) (h : ∀ j ∈ KT (Kz f k) k,KE l j = KE l' j) : Le f l k = Le f l' k:=by
 have h1:=LJ hf hl hk
 have h2:=LJ hf hl' hk
 refine h1.1.1.ext h2.1.1 fun v=>?_
 rw [h1.2,h2.2]
 constructor
 ·rintro ⟨j,hj,hv⟩; exact ⟨j,hj,by rw [← h j hj]; exact hv⟩
 ·rintro ⟨j,hj,hv⟩; exact ⟨j,hj,by rw [h j hj]; exact hv⟩
theorem LK.row {f : Ku} {l : List (List Int)} (h : LK f l) {k : Nat} (hk : k < f.Code.length) : l[k]? = some (KE l k) ∧ Lk f.Slots.length (KE l k):=by
 have hkl : k < l.length:=by have:=h.1; omega
 have e : KE l (k : Int) = l[k]:=by simp [KE,hkl]
 rw [e]
 exact ⟨List.getElem?_eq_getElem hkl,h.2 _ (List.getElem_mem hkl)⟩
theorem LK.setRow {f : Ku} {l : List (List Int)} (h : LK f l) {k : Nat} {s : List Int} (hs : Lk f.Slots.length s) : LK f (l.set k s) :=
 ⟨by simpa using h.1,fun t ht=>(List.mem_or_eq_of_mem_set ht).elim (h.2 t) fun e=>e ▸ hs⟩
theorem Mn {f : Ku} {l : List (List Int)} {k : Nat} (hk : k < f.Code.length) : (LH f l)[k]? = some (Le f l k):=by simp [LH,hk]
structure Up (f : Ku) (l : List (List Int)) (w : List Int) : Prop where
 ok : LK f l
 le : LE l (LH f l)
 least : ∀ b,LK f b → LE (LH f b) b → LE l b
 done : ∀ k : Nat,k < f.Code.length → (k : Int) ∉ w → Le f l k = KE l k
theorem Up.set {f : Ku} (hf : Ln f) {l : List (List Int)} {w w' : List Int} {k : Nat} (h : Up f l (w ++ [(k : Int)])) (hk : k < f.Code.length) (hw : ∀ x ∈ w,x ∈ w') (hb : ∀ i : Nat,i < f.Code.length → (k : Int) ∈ KT (Kz f i) i → (i : Int) ∈ w') :
  Up f (l.set k (Le f l k)) w' ∧ LE l (l.set k (Le f l k)):=by
 have hs:=LJ hf h.ok hk
 have hok:=h.ok.setRow (k:=k) hs.1
 have hlen : k < l.length:=by have:=h.ok.1; omega
 obtain ⟨g1,g2⟩:=h.ok.row hk
 have hsub : ∀ v ∈ KE l k,v ∈ Le f l k:=h.le k _ _ g1 (Mn hk)
 have hLE : LE l (l.set k (Le f l k)):=by
  intro q s t hq ht v hv
  by_cases e : q = k
  ·subst e
   rw [List.getElem?_set_self hlen] at ht
   cases ht
   rw [g1] at hq; cases hq
   exact hsub v hv
  ·rw [List.getElem?_set_ne (fun h=>e h.symm),hq] at ht
   cases ht; exact hv
 have hmono:=SG hf h.ok hok hLE
 refine ⟨⟨hok,fun q s t hq ht v hv=>?_,fun b hb1 hb2=>?_,fun q hq hqw=>?_⟩,hLE⟩
 ·have hql : q < f.Code.length:=by have:=(List.getElem?_eq_some_iff.1 hq).1; have:=hok.1; omega
  by_cases e : q = k
  ·subst e
   rw [List.getElem?_set_self hlen] at hq
   cases hq
   exact hmono q _ t (Mn hql) ht v hv
  ·rw [List.getElem?_set_ne (fun h=>e h.symm)] at hq
   exact hmono q _ t (Mn hql) ht v (h.le q s _ hq (Mn hql) v hv)
 ·have hlb:=h.least b hb1 hb2
  have hsb:=SG hf h.ok hb1 hlb
  intro q s t hq ht v hv
  by_cases e : q = k
  ·subst e
   rw [List.getElem?_set_self hlen] at hq
   cases hq
   exact hb2 q _ t (Mn hk) ht v (hsb q _ _ (Mn hk) (Mn hk) v hv)
  ·rw [List.getElem?_set_ne (fun h=>e h.symm)] at hq
   exact hlb q s t hq ht v hv
 ·have hkn : (k : Int) ∉ KT (Kz f q) q:=fun hm=>hqw (hb q hq hm)
  have hq0 : f.Code[q]? = some (Kz f q):=by simp [Kz,hq]
  have e1 : Le f (l.set k (Le f l k)) q = Le f l q:=by
   refine XV hf hok h.ok hq fun j hj=>?_
   rw [XM hlen (hf.next q _ hq0 j hj).1,if_neg (fun e : j = (k : Int)=>hkn (e ▸ hj))]
  rw [e1,XM hlen (by omega)]
  by_cases e : (q : Int) = (k : Int)
  ·rw [if_pos e]
   have : q = k:=by omega
   rw [this]
  ·rw [if_neg e]
   refine h.done q hq fun hm=>?_
   simp only [List.mem_append,List.mem_singleton] at hm
   rcases hm with hm | hm
   ·exact hqw (hw _ hm)
   ·exact e hm
theorem Up.same {f : Ku} {l : List (List Int)} {w : List Int} {k : Nat} (h : Up f l (w ++ [(k : Int)])) (he : Le f l k = KE l k) : Up f l w:=by
 refine ⟨h.ok,h.le,h.least,fun q hq hqw=>?_⟩
 by_cases e : q = k
 ·subst e; exact he
 ·refine h.done q hq fun hm=>?_
  simp only [List.mem_append,List.mem_singleton] at hm
  rcases hm with hm | hm
  ·exact hqw hm
  ·omega
theorem Up.end_ {f : Ku} {l : List (List Int)} (h : Up f l []) : OU f l:=by
 refine ⟨h.ok,?_,h.least⟩
 apply List.ext_getElem?
 intro k
 by_cases hk : k < f.Code.length
 ·rw [Mn hk,(h.ok.row hk).1,h.done k hk (by simp)]
 ·rw [List.getElem?_eq_none (by simp [LH]; omega),List.getElem?_eq_none (by have:=h.ok.1; omega)]
theorem XK {f : Ku} (hf : Ln f) : Hs (MH f) fun l=>OU f l.Out:=by
 have hlen:=hf.len
 have hlen':=hf.len'
 have hsl:=hf.slots
 unfold MH
 refine .chk (by omega) ?_
 rw [YU hf,Option.bind_some]
 refine Hs.loop (fun s=>∃ k : Nat,s.2.2 = (k : Int) ∧ k ≤ f.Code.length ∧ WL f.Code.length s.1 s.2.1 ∧ ∀ x,x ∈ s.2.1 ↔ 0 ≤ x ∧ x < (k : Int)) (fun s=>f.Code.length - s.2.2.toNat) ⟨0,rfl,Nat.zero_le _,WL.nil _,fun x=>⟨fun h=>(by cases h),fun h=>(by omega)⟩⟩ ?_
 rintro ⟨m,w,_⟩ ⟨k,rfl,hk,hw,hwk⟩
 simp only at hw hwk
 unfold Of
 dsimp only
 refine .dec (fun hlt=>?_) fun hge=>.lft ?_
 ·have hlt : k < f.Code.length:=Int.ofNat_lt.1 hlt
  have hn : Lv false (k : Int) m = false:=by
   cases h : Lv false (k : Int) m
   ·rfl
   ·have:=(hwk _).1 ((hw.iff _).1 h); omega
  have hwl:=hw.len
  have hnw : (k : Int) ∉ w:=fun h=>by have:=(hwk _).1 h; omega
  rw [hn,Bool.not_false,cond_true]
  refine .chk (by simp only [List.length_singleton]; omega) ?_
  unfold Nh
  rw [Lj (by omega)]
  exact .cnt ⟨⟨k + 1,rfl,hlt,hw.put hnw ⟨by omega,by omega⟩,fun x=>by simp only [List.mem_append,List.mem_singleton,hwk]; omega⟩,by simp only; omega⟩
 have hkn : k = f.Code.length:=by
  have : ¬ k < f.Code.length:=fun h=>hge (Int.ofNat_lt.2 h)
  omega
 subst hkn
 have h0 : LK f (List.replicate (f.Code.length : Int).toNat ([] : List Int)):=⟨by simp,fun s hs=>by rw [List.mem_replicate] at hs; rw [hs.2]; exact Lk.nil _⟩
 have hnil : ∀ (q : Nat) s,(List.replicate (f.Code.length : Int).toNat ([] : List Int))[q]? = some s → s = []:=fun q s hq=>by
  have:=List.mem_of_getElem? hq
  rw [List.mem_replicate] at this
  exact this.2
 refine Hs.loop (fun s=>Up f s.1 s.2.2 ∧ WL f.Code.length s.2.1 s.2.2) (fun s=>(512 * f.Code.length - (s.1.map List.length).sum) * (f.Code.length + 1) + s.2.2.length)
  ⟨⟨h0,fun q s t hq _ v hv=>(by have:=hnil q s hq; subst this; cases hv),fun b _ _ q s t hq _ v hv=>(by have:=hnil q s hq; subst this; cases hv),fun q hq hqw=>absurd ((hwk _).2 ⟨by omega,by omega⟩) hqw⟩,hw⟩ ?_
 show ∀ s,_ → Hs _ (Rnd _ _ s fun r : KL=>OU f r.Out)
 clear h0 hnil hwk hw hge hk w m
 rintro ⟨l,m,w⟩ ⟨hu,hw⟩
 simp only at hu hw
 unfold Og
 dsimp only
 refine .dec (fun hpos=>?_) fun hz=>.lft (.pure ?_)
 ·have hpos : 0 < w.length:=by omega
  have hwl:=hw.len
  have ew : IntKind.i64.wrap ((w.length : Int) - 1) = ((w.length - 1 : Nat) : Int):=by rw [wrap64 (by omega) (by omega)]; omega
  rw [ew]
  have hx : w[w.length - 1]? = some (w[w.length - 1]'(by omega)):=List.getElem?_eq_getElem _
  generalize hxx : w[w.length - 1]'(by omega) = x at hx
  have hxr:=hw.rng x (List.mem_of_getElem? hx)
  obtain ⟨k,rfl⟩ : ∃ k : Nat,x = (k : Int):=⟨x.toNat,by omega⟩
  have hk : k < f.Code.length:=by omega
  have hcode : f.Code[k]? = some (Kz f k):=by simp [Kz,hk]
  have hnx:=hf.next k _ hcode
  have hsplit : w = w.take (w.length - 1) ++ [(k : Int)]:=by
   have:=List.take_add_one (l:=w) (i:=w.length - 1)
   rw [hx,show w.length - 1 + 1 = w.length by omega,List.take_length] at this
   exact this
  generalize hw0 : w.take (w.length - 1) = w0 at *
  have hw0l : w0.length + 1 = w.length:=by rw [hsplit]; simp
  rw [hsplit] at hu hw
  have hwt:=hw.take
  refine .chk (by omega) ?_
  simp only [Int.toNat_natCast]
  rw [hx,Option.bind_some]
  refine .chk (by omega) ?_
  rw [Yj hcode (by omega),Option.bind_some]
  have hnl:=NH (Kz f k) k
  refine Hs.loop (fun s=>∃ i : Nat,s.1 = (i : Int) ∧ i ≤ (KT (Kz f k) k).length ∧ s.2 = ((KT (Kz f k) k).take i).foldl (fun o j=>LQ o (inN (Kz f j) (KE l j))) []) (fun s=>(KT (Kz f k) k).length - s.1.toNat) ⟨0,rfl,Nat.zero_le _,rfl⟩ ?_
  rintro ⟨_,s⟩ ⟨i,rfl,hi,hs⟩
  simp only at hs
  unfold Oh
  dsimp only
  refine .dec (fun hlt=>?_) fun hge=>.lft ?_
  ·have hlt : i < (KT (Kz f k) k).length:=Int.ofNat_lt.1 hlt
   have hg : (KT (Kz f k) k)[i]? = some ((KT (Kz f k) k)[i]):=List.getElem?_eq_getElem hlt
   generalize (KT (Kz f k) k)[i] = j at hg
   have hj:=hnx j (List.mem_of_getElem? hg)
   have hjc : f.Code[j.toNat]? = some (Kz f j):=by simp [Kz,show j.toNat < f.Code.length by omega]
   obtain ⟨o1,o2⟩:=hu.ok.row (k:=j.toNat) (by omega)
   rw [Int.toNat_of_nonneg hj.1] at o1 o2
   have hll:=hu.ok.1
   have hf1:=Xe hf hu.ok (js:=(KT (Kz f k) k).take i) (o:=[]) (fun y hy=>hnx y (List.mem_of_mem_take hy)) (Lk.nil _)
   have huse:=hf.uses _ (List.mem_of_getElem? hjc)
   have hin:=NG hf (List.mem_of_getElem? hjc) o2
   have hinl:=hin.1.1.length_le
   refine .chk (by omega) ?_
   rw [Int.toNat_natCast,hg,Option.bind_some,RS _ hj.1,hjc,Option.bind_some]
   refine .chk (by omega) ?_
   rw [o1,Option.bind_some,Adp o2.1 (fun v hv=>by have:=huse v hv; omega),Option.bind_some,hs,Uv hf1.1.1 (fun v hv=>hin.1.1.2 v hv) (by omega),Option.bind_some,Lj (by omega)]
   refine .cnt ⟨⟨i + 1,rfl,hlt,?_⟩,by simp only; omega⟩
   rw [List.take_add_one,hg]
   simp [List.foldl_append]
  ·have hil : i = (KT (Kz f k) k).length:=by
    have : ¬ i < (KT (Kz f k) k).length:=fun h=>hge (Int.ofNat_lt.2 h)
    omega
   subst hil
   rw [List.take_length] at hs
   have hs : s = Le f l k:=hs
   subst hs
   obtain ⟨g1,g2⟩:=hu.ok.row hk
   have hsr:=LJ hf hu.ok hk
   have hsrl:=hsr.1.1.length_le
   have hll:=hu.ok.1
   unfold Oj
   refine .chk (by omega) ?_
   rw [Int.toNat_natCast,g1,Option.bind_some,AaE _ _ (by omega),Option.bind_some,ew]
   simp only [Int.toNat_natCast,hw0]
   refine .dec (fun heq=>?_) fun hne=>?_
   ·exact .cnt ⟨⟨hu.same heq,hwt⟩,by simp only; omega⟩
   ·refine .chk (by omega) ?_
    rw [Option.bind_some]
    obtain ⟨row,hrow,hmem⟩:=Yd hf hk f.Code.length (Nat.le_refl _)
    rw [Tv,hrow,Option.bind_some]
    have hrr : ∀ y ∈ row,0 ≤ y ∧ y < (f.Code.length : Int):=fun y hy=>by
     obtain ⟨i,h1,rfl,_⟩:=(hmem y).1 hy
     omega
    have hrl : row.length ≤ 2 * f.Code.length:=Vj f _ row (List.mem_of_getElem? hrow)
    have hsum:=Yv (a:=l) (b:=l.set k (Le f l k)) (by simp) (fun s hs=>(hu.ok.2 s hs).1) (fun s hs=>((hu.ok.setRow hsr.1).2 s hs).1)
    refine Hs.loop (fun s=>∃ i : Nat,s.2.2 = (i : Int) ∧ i ≤ row.length ∧ WL f.Code.length s.1 s.2.1 ∧ (∀ x ∈ w0,x ∈ s.2.1) ∧ ∀ x ∈ row.take i,x ∈ s.2.1) (fun s=>row.length - s.2.2.toNat) ⟨0,rfl,Nat.zero_le _,hwt,fun _ h=>h,fun x hx=>by simp at hx⟩ ?_
    rintro ⟨m2,w2,_⟩ ⟨i,rfl,hi2,hw2,hsub,hin⟩
    simp only at hw2 hsub hin
    unfold Oi
    dsimp only
    refine .dec (fun hlt=>?_) fun hge2=>.lft ?_
    ·have hlt : i < row.length:=Int.ofNat_lt.1 hlt
     have hg : row[i]? = some row[i]:=List.getElem?_eq_getElem hlt
     generalize row[i] = y at hg
     have hyr:=hrr y (List.mem_of_getElem? hg)
     rw [Tv,hg,Option.bind_some]
     have hw2l:=hw2.len
     have w1:=Lj (show i < 9223372036854775807 by omega)
     cases hgy : Lv false y m2 with
     | true =>
      rw [Bool.not_true,cond_false]
      unfold MA
      rw [w1]
      refine .cnt ⟨⟨i + 1,rfl,hlt,hw2,hsub,fun x hx=>?_⟩,by simp only; omega⟩
      rw [List.take_add_one,hg] at hx
      simp only [Option.toList_some,List.mem_append,List.mem_singleton] at hx
      rcases hx with hx | rfl
      ·exact hin x hx
      ·exact (hw2.iff _).1 hgy
     | false =>
      have hny : y ∉ w2:=fun h=>by rw [(hw2.iff _).2 h] at hgy; cases hgy
      rw [Bool.not_false,cond_true]
      refine .chk (by simp only [List.length_singleton]; omega) ?_
      unfold MA
      rw [w1]
      refine .cnt ⟨⟨i + 1,rfl,hlt,hw2.put hny hyr,fun x hx=>List.mem_append_left _ (hsub x hx),fun x hx=>?_⟩,by simp only; omega⟩
      rw [List.take_add_one,hg] at hx
      simp only [Option.toList_some,List.mem_append,List.mem_singleton] at hx ⊢
      rcases hx with hx | rfl
      ·exact .inl (hin x hx)
      ·exact .inr rfl
    ·have hil : i = row.length:=by
      have : ¬ i < row.length:=fun h=>hge2 (Int.ofNat_lt.2 h)
      omega
     subst hil
     rw [List.take_length] at hin
     have hup:=hu.set hf hk hsub fun q hq hm=>hin _ ((hmem _).2 ⟨q,hq,rfl,hm⟩)
     obtain ⟨s1,s2⟩:=hsum hup.2
     have hb:=Wq (a:=l.set k (Le f l k)) fun s hs=>(hup.1.ok.2 s hs).1
     have hw2l:=hw2.len
     have hlt : (l.map List.length).sum < ((l.set k (Le f l k)).map List.length).sum:=by
      refine Nat.lt_of_le_of_ne s1 fun e=>hne ?_
      have:=s2 e
      have h1 : (l.set k (Le f l k))[k]? = some (Le f l k):=List.getElem?_set_self (by omega)
      rw [← this,g1] at h1
      exact (Option.some.inj h1).symm
     refine .cnt ⟨⟨hup.1,hw2⟩,?_⟩
     simp only [List.length_set,hll,Int.toNat_natCast] at hb ⊢
     generalize ((l.set k (Le f l k)).map List.length).sum = A at *
     generalize (l.map List.length).sum = B at *
     have hm1 : (512 * f.Code.length - A + 1) * (f.Code.length + 1) ≤ (512 * f.Code.length - B) * (f.Code.length + 1):=Nat.mul_le_mul_right _ (by omega)
     rw [Nat.add_mul] at hm1
     omega
 ·have hz : w.length = 0:=by omega
  rw [List.eq_nil_of_length_eq_zero hz] at hu
  exact hu.end_
end Go.Proofs.YtjjmcedpoolghaaDoor
namespace Go.Proofs.YtjjmcedpoolghaaDoor
open Go Go.Dw Go.Proofs
attribute [local simp] Lz
def Ts (f : Ku) (l : List (List Int)) (k : Int) : List Int :=
 (KT (Kz f k) k).foldl (fun o j=>LQ o ((inN (Kz f j) (KE l j)).filter fun v=>!decide (v ∈ KE l k))) []
theorem LK.at {f : Ku} {l : List (List Int)} (h : LK f l) {j : Int} (h0 : 0 ≤ j) (h1 : j < f.Code.length) : l[j.toNat]? = some (KE l j) ∧ Lk f.Slots.length (KE l j):=by
 have hl : j.toNat < l.length:=by have:=h.1; omega
 have : l[j.toNat]? = some (KE l j):=by simp [KE,hl]
 exact ⟨this,h.2 _ (List.mem_of_getElem? this)⟩
theorem Ln.at {f : Ku} (_h : Ln f) {j : Int} (h0 : 0 ≤ j) (h1 : j < f.Code.length) : f.Code[j.toNat]? = some (Kz f j) ∧ Kz f j ∈ f.Code:=by
 have : f.Code[j.toNat]? = some (Kz f j):=by simp [Kz,show j.toNat < f.Code.length by omega]
 exact ⟨this,List.mem_of_getElem? this⟩
theorem Zq {f : Ku} (hf : Ln f) {l : List (List Int)} (hl : LK f l) {k j : Int} (_hk : 0 ≤ k ∧ k < f.Code.length) (hj : 0 ≤ j ∧ j < f.Code.length) {o : List Int} (ho : Lk f.Slots.length o) :
  Lk f.Slots.length (LQ o ((inN (Kz f j) (KE l j)).filter fun v=>!decide (v ∈ KE l k))) ∧ ∀ v,v ∈ LQ o ((inN (Kz f j) (KE l j)).filter fun v=>!decide (v ∈ KE l k)) ↔ v ∈ o ∨ (v ∈ inN (Kz f j) (KE l j) ∧ v ∉ KE l k):=by
 have hsl:=hf.slots
 obtain ⟨g1,g2⟩:=NG hf (hf.at hj.1 hj.2).2 (hl.at hj.1 hj.2).2
 obtain ⟨g3,g4⟩:=ON (n:=f.Slots.length) (by omega) (b:=(inN (Kz f j) (KE l j)).filter fun v=>!decide (v ∈ KE l k)) ho fun x hx=>⟨(g1.1.2 x (List.mem_filter.1 hx).1).1,g1.2 x (List.mem_filter.1 hx).1⟩
 exact ⟨g3,fun v=>by rw [g4]; simp [List.mem_filter]⟩
theorem XL {f : Ku} (hf : Ln f) {l : List (List Int)} (hl : LK f l) {k : Int} (hk : 0 ≤ k ∧ k < f.Code.length) : ∀ {js : List Int} {o : List Int},(∀ j ∈ js,0 ≤ j ∧ j < f.Code.length) → Lk f.Slots.length o →
  Lk f.Slots.length (js.foldl (fun o j=>LQ o ((inN (Kz f j) (KE l j)).filter fun v=>!decide (v ∈ KE l k))) o) ∧ ∀ v,v ∈ js.foldl (fun o j=>LQ o ((inN (Kz f j) (KE l j)).filter fun v=>!decide (v ∈ KE l k))) o ↔ v ∈ o ∨ ∃ j ∈ js,v ∈ inN (Kz f j) (KE l j) ∧ v ∉ KE l k
 | [],o,_,ho=>⟨ho,fun v=>by simp⟩
 | j :: js,o,hj,ho=>by
  obtain ⟨h1,h2⟩:=Zq hf hl hk (hj j (List.mem_cons_self ..)) ho
  obtain ⟨h5,h6⟩:=XL hf hl hk (fun q hq=>hj q (List.mem_cons_of_mem _ hq)) h1
  refine ⟨h5,fun v=>?_⟩
  simp only [List.foldl_cons]
  rw [h6,h2]
  simp only [List.mem_cons,exists_eq_or_imp,or_assoc]
theorem Vr {f : Ku} (hf : Ln f) {l : List (List Int)} (hl : LK f l) {k : Nat} (hk : k < f.Code.length) : Lk f.Slots.length (Ts f l k) ∧ ∀ v,v ∈ Ts f l k ↔ ∃ j ∈ KT (Kz f k) k,v ∈ inN (Kz f j) (KE l j) ∧ v ∉ KE l k:=by
 have hx : f.Code[k]? = some (Kz f k):=by simp [Kz,hk]
 obtain ⟨h1,h2⟩:=XL hf hl (k:=(k : Int)) ⟨by omega,by omega⟩ (hf.next k _ hx) (Lk.nil _)
 exact ⟨h1,fun v=>by unfold Ts; rw [h2]; simp⟩
def Ze (f : Ku) (l : List (List Int)) (r : Int × Int × Bool) : Prop :=
 (LK f l ∧ ∃ (k : Nat) (v : Int),k < f.Code.length ∧ (∀ j : Nat,j < k → Ts f l j = []) ∧ (Ts f l k)[0]? = some v ∧ r = ((k : Int),v,true)) ∨
 ((LK f l → ∀ j : Nat,j < f.Code.length → Ts f l j = []) ∧ r = (0,0,false))
def Acc (f : Ku) (l : List (List Int)) : Prop:=LK f l ∧ ∀ j : Nat,j < f.Code.length → Ts f l j = []
theorem Ze.acc {f : Ku} {l : List (List Int)} {r : Int × Int × Bool} (h : Ze f l r) (hl : LK f l) : r.2.2 = false ↔ Acc f l:=by
 rcases h with ⟨h0,i,v,h1,h2,h3,rfl⟩ | ⟨h1,rfl⟩
 ·exact ⟨fun h=>(by cases h),fun h=>by rw [h.2 i h1] at h3; cases h3⟩
 ·exact ⟨fun _=>⟨hl,h1 hl⟩,fun _=>rfl⟩
def AaV (l : List (List Int)) : Prop:=l.length ≤ maxLen ∧ ∀ s ∈ l,s.length ≤ maxLen
theorem LK.len {f : Ku} (hf : Ln f) {l : List (List Int)} (h : LK f l) : AaV l:=by
 have hm : (100000 : Nat) ≤ maxLen:=by decide
 have:=hf.len'; have:=h.1
 exact ⟨by omega,fun s hs=>by have:=(h.2 s hs).1.length_le; omega⟩
theorem Aba {f : Ku} (hf : Ln f) {l : List (List Int)} (hl : LK f l) : Acc f l ↔ LE (LH f l) l:=by
 constructor
 ·rintro ⟨_,h⟩ k s t hs ht v hv
  have hk : k < f.Code.length:=by have:=(List.getElem?_eq_some_iff.1 ht).1; have:=hl.1; omega
  have e1 : s = Le f l k:=by simp [LH,hk] at hs; exact hs.symm
  have e2 : t = KE l k:=by simp [KE,ht]
  subst e1 e2
  rw [(LJ hf hl hk).2] at hv
  obtain ⟨j,hj,hv⟩:=hv
  refine Classical.byContradiction fun hn=>?_
  have : v ∈ Ts f l k:=((Vr hf hl hk).2 v).2 ⟨j,hj,hv,hn⟩
  rw [h k hk] at this; cases this
 ·intro h
  refine ⟨hl,fun k hk=>?_⟩
  refine List.eq_nil_iff_forall_not_mem.2 fun v hv=>?_
  obtain ⟨j,hj,h1,h2⟩:=((Vr hf hl hk).2 v).1 hv
  refine h2 (h k (Le f l k) (KE l k) (by simp [LH,hk]) ?_ v (((LJ hf hl hk).2 v).2 ⟨j,hj,h1⟩))
  have:=(hl.at (j:=(k : Int)) (by omega) (by omega)).1
  simpa using this
theorem Acc.mem {f : Ku} (hf : Ln f) {l : List (List Int)} (h : Acc f l) {k : Nat} (hk : k < f.Code.length) {j v : Int} (hj : j ∈ KT (Kz f k) k) (hv : v ∈ inN (Kz f j) (KE l j)) : v ∈ KE l k:=by
 refine Classical.byContradiction fun hn=>?_
 have : v ∈ Ts f l k:=((Vr hf h.1 hk).2 v).2 ⟨j,hj,hv,hn⟩
 rw [h.2 k hk] at this; cases this
theorem OU.acc {f : Ku} (hf : Ln f) {l : List (List Int)} (h : OU f l) : Acc f l:=by
 rw [Aba hf h.ok,h.fix]
 intro k s t hs ht v hv
 rw [hs] at ht; cases ht; exact hv
end Go.Proofs.YtjjmcedpoolghaaDoor
namespace Go.Proofs.YtjjmcedpoolghaaDoor
open Go Go.Dw Go.Proofs
theorem Zg.len {f : Ku} (hf : Ln f) {l : List (List Int)} (h1 : l.length ≤ f.Code.length) (h2 : Zg l) : AaV l:=by
 have hm : (100000 : Nat) ≤ maxLen:=by decide
 have:=hf.len'
 exact ⟨by omega,fun s hs=>by have:=(h2 s hs).1; omega⟩
theorem AbA {f : Ku} (hf : Ln f) {l : List (List Int)} (hl : LK f l) (h : ∀ k : Nat,k < f.Code.length → ∀ j ∈ KT (Kz f k) k,∀ v ∈ inN (Kz f j) (KE l j),v ∈ KE l k) : Acc f l:=by
 refine ⟨hl,fun k hk=>List.eq_nil_iff_forall_not_mem.2 fun v hv=>?_⟩
 obtain ⟨j,hj,h1,h2⟩:=((Vr hf hl hk).2 v).1 hv
 exact h2 (h k hk j hj v h1)
theorem Abj {f : Ku} (hf : Ln f) {k : Nat} (hk : k < f.Code.length) {j : Int} (hj : j ∈ KT (Kz f k) k) : 0 ≤ j ∧ j < f.Code.length :=
 hf.next k _ (by simp [Kz,hk]) j hj
theorem Zs {l : List (List Int)} {g : List Int → List Int} {j : Int} (h1 : j.toNat < l.length) : KE (l.map g) j = g (KE l j):=by
 simp [KE,h1]
theorem AaZ {f : Ku} (hf : Ln f) {l : List (List Int)} (h : Acc f l) {u : Int} (hu : 0 ≤ u ∧ u < f.Slots.length) : Acc f (l.map (MZ u)):=by
 have hsl:=hf.slots
 have hl : LK f (l.map (MZ u)):=by
  refine ⟨by simpa using h.1.1,fun s hs=>?_⟩
  obtain ⟨t,ht,rfl⟩:=List.mem_map.1 hs
  exact (Lk.add (h.1.2 t ht) hu (by omega)).1
 have mem : ∀ s,Lk f.Slots.length s → ∀ v,v ∈ MZ u s ↔ v = u ∨ v ∈ s:=fun s hs=>(Lk.AbB (n:=f.Slots.length) hs hu (by omega)).2.2
 refine AbA hf hl fun k hk j hj v hv=>?_
 have hjm:=Abj hf hk hj
 have hll:=h.1.1
 obtain ⟨o1,o2⟩:=h.1.at hjm.1 hjm.2
 obtain ⟨q1,q2⟩:=h.1.at (j:=(k : Int)) (by omega) (by omega)
 obtain ⟨p1,p2⟩:=hl.at hjm.1 hjm.2
 rw [Zs (by omega)] at hv p2 ⊢
 rw [(NG hf (hf.at hjm.1 hjm.2).2 p2).2,mem _ o2] at hv
 rw [mem _ q2]
 by_cases e : v = u
 ·exact .inl e
 ·refine .inr (h.mem hf hk hj ?_)
  rw [(NG hf (hf.at hjm.1 hjm.2).2 o2).2]
  rcases hv with ⟨h1,h2⟩ | h1
  ·rcases h1 with h1 | h1
   ·exact (e h1).elim
   ·exact .inl ⟨h1,h2⟩
  ·exact .inr h1
def QE (u : Int) (l : List (List Int)) (k : Nat) : List (List Int):=(l.take k).map (MZ u) ++ l.drop k
theorem YS (u : Int) (l : List (List Int)) : QE u l 0 = l:=by simp [QE]
theorem Zh (u : Int) (l : List (List Int)) : QE u l l.length = l.map (MZ u):=by simp [QE]
theorem Yc (u : Int) (l : List (List Int)) {k : Nat} (hk : k ≤ l.length) : (QE u l k).length = l.length:=by simp [QE]; omega
theorem Zi {u : Int} {l : List (List Int)} {k : Nat} (hk : k < l.length) : (QE u l k)[k]? = some l[k]:=by
 unfold QE
 rw [List.getElem?_append_right (by simp; omega)]
 simp [show min k l.length = k by omega,hk]
theorem Zj {u : Int} {l : List (List Int)} {k : Nat} (hk : k < l.length) : (QE u l k).set k (MZ u l[k]) = QE u l (k + 1):=by
 unfold QE
 rw [List.set_append_right _ _ (by simp; omega)]
 have e1 : k - ((l.take k).map (MZ u)).length = 0:=by simp; omega
 rw [e1,List.drop_eq_getElem_cons hk,List.set_cons_zero,List.take_succ_eq_append_getElem hk,List.map_append,List.append_assoc]
 rfl
end Go.Proofs.YtjjmcedpoolghaaDoor
namespace Go.Proofs.YtjjmcedpoolghaaDoor
open Go Go.Dw Go.Proofs
theorem AaK {c : Ed} (h : okC c) {f : Ku} (hf : Ln f) : Hs (MF c f) fun p=>okC p.2 ∧ Acc f p.1.Out:=by
 have hlen:=hf.len
 have hlen':=hf.len'
 have hsl:=hf.slots
 unfold MF
 refine (AaR hf).bind fun l hl=>.chk (by have:=hl.ok.1; simp; omega) ((KU h (by omega) (by omega)).bind fun r hr=>?_)
 refine Hs.loop (fun s=>okC ⟨s.1,s.2.1⟩ ∧ Acc f s.2.2.1 ∧ 0 ≤ s.2.2.2 ∧ s.2.2.2 < 3) (fun s=>s.2.2.2.toNat) ⟨hr.1,by simpa using hl.acc hf,hr.2⟩ ?_
 rintro ⟨l,a,x,n⟩ ⟨hc,hx,hn0,hn1⟩
 simp only at hc hx hn0 hn1
 have w : IntKind.i64.wrap (n - 1) = n - 1:=wrap64 (by omega) (by omega)
 unfold Nu
 refine .dec (fun hlt=>.dec (fun hsl0=>?_) fun _=>.lft (.pure ⟨hc,hx⟩)) fun _=>.lft (.pure ⟨hc,hx⟩)
 have hlt : 0 < n:=hlt
 unfold Nw
 refine (KU hc (by omega) (by omega)).bind fun u hu=>?_
 have hxl:=hx.1.1
 refine Hs.loop (fun s=>∃ k : Nat,s.2 = (k : Int) ∧ k ≤ x.length ∧ s.1 = QE u.1 x k) (fun s=>x.length - s.2.toNat) ⟨0,rfl,Nat.zero_le _,(YS _ _).symm⟩ ?_
 rintro ⟨y,i⟩ ⟨k,hi,hk,hy⟩
 simp only at hi hy
 subst hi hy
 have hyl:=Yc u.1 x hk
 unfold Nv
 refine .dec (fun hlt=>?_) fun hge=>?_
 ·have hlt : k < x.length:=by simp only at hlt; omega
  refine .chk (by omega) ?_
  have hs:=hx.1.2 _ (List.getElem_mem hlt)
  rw [Int.toNat_natCast,Zi hlt,Option.bind_some,add_eq _ _ (by have:=hs.1.length_le; omega),Option.bind_some]
  refine .chk (by omega) ?_
  rw [Option.bind_some,Zj hlt,Lj (by omega)]
  exact .cnt ⟨⟨k + 1,rfl,hlt,rfl⟩,by simp only; omega⟩
 ·obtain rfl : k = x.length:=by simp only at hge; omega
  rw [Zh]
  unfold Nx
  exact .lft (.cnt ⟨⟨hu.1,AaZ hf hx hu.2,by simp only [w]; omega,by simp only [w]; omega⟩,by simp only [w]; omega⟩)
end Go.Proofs.YtjjmcedpoolghaaDoor
namespace Go.Proofs.YtjjmcedpoolghaaDoor
open Go Go.Dw Go.Proofs
theorem Zb (codes : List Int) (hc : qL (MP .u8) codes) : Hs (OW codes) fun p=>okC p.2.2 ∧ (∃ ps i,Re ps i 16 p.1) ∧ Acc p.1 p.2.1.Out:=by
 unfold OW
 obtain ⟨c,e1,hcok⟩:=Adt codes 250 hc (by omega) (by omega)
 rw [e1,Option.bind_some]
 refine (YY hcok (by omega) (by omega) (by omega) (by omega)).bind fun p hp=>?_
 obtain ⟨ps,hps,hz,hp1,hp2,hfl,hall⟩:=hp.2
 refine (KU hp.1 (by omega) (by omega)).bind fun k hk=>?_
 refine (Hs.ix hk.2.1 hk.2.2 fun f hf=>hall _ f hf).bind fun f hf=>?_
 exact (AaK hk.1 (hf.Adr (by omega))).bind fun l hl=>.pure ⟨hl.1,⟨_,_,hf⟩,hl.2⟩
theorem LE.refl (a : List (List Int)) : LE a a:=fun k s t hs ht v hv=>by rw [hs] at ht; cases ht; exact hv
abbrev aw6 : Ku:=Ku.mk 0 ([(KP.mk 8 8)] : List KP) ([(Kq.mk 16 0 0 0 0),(Kq.mk 15 0 0 0 0),(Kq.mk 23 0 0 0 0)] : List Kq)
theorem Xa : Ln aw6:=by
 refine ⟨by simp,by simp,by simp,fun k x hx j hj=>?_,fun x hx v hv=>?_⟩
 ·match k,hx with
  | 0,hx=>simp at hx; subst hx; simp [KT] at hj; subst hj; simp
  | 1,hx=>simp at hx; subst hx; simp [KT] at hj; subst hj; simp
  | 2,hx=>simp at hx; subst hx; simp [KT] at hj
  | n + 3,hx=>simp at hx
 ·simp at hx
  rcases hx with rfl | rfl | rfl <;> simp [LC] at hv <;> subst hv <;> simp
theorem AbC : LK aw6 [[0],[],[]]:=by
 refine ⟨rfl,fun s hs=>?_⟩
 simp at hs
 rcases hs with rfl | rfl
 ·exact ⟨⟨List.pairwise_singleton _ _,fun x hx=>by simp at hx; omega⟩,fun x hx=>by simp at hx; subst hx; simp⟩
 ·exact Lk.nil _
theorem Abb : LH aw6 [[0],[],[]] = [[0],[],[]]:=by decide
theorem Abc : OV = some true:=by
 obtain ⟨r,h1,h2⟩:=XK Xa
 have hle:=h2.least _ AbC (by rw [Abb]; exact LE.refl _)
 obtain ⟨g1,g2⟩:=h2.ok.row (k:=0) (by simp)
 have hmem : (0 : Int) ∈ KE r.Out 0:=by
  have e : Le aw6 r.Out 0 = KE r.Out 0:=by
   have:=Mn (f:=aw6) (l:=r.Out) (k:=0) (by simp)
   rw [h2.fix,g1] at this
   exact (Option.some.inj this).symm
  have hs:=LJ Xa h2.ok (k:=0) (by simp)
  have:=(hs.2 0).2 ⟨1,by decide,by
   have hx : (Kz aw6 1) ∈ aw6.Code:=by decide
   obtain ⟨_,q2⟩:=h2.ok.row (k:=1) (by simp)
   show (0 : Int) ∈ inN (Kz aw6 1) (KE r.Out ((1 : Nat) : Int))
   exact ((NG Xa hx q2).2 0).2 (.inr (by decide))⟩
  exact e ▸ this
 have e0 : KE r.Out 0 = [0]:=by
  have h01 : Lh ([0] : List Int):=⟨List.pairwise_singleton _ _,fun x hx=>by simp at hx; omega⟩
  refine g2.1.ext h01 fun v=>⟨fun hv=>hle 0 _ [0] g1 rfl v hv,fun hv=>?_⟩
  simp only [List.mem_singleton] at hv
  subst hv
  exact hmem
 have hl3 : r.Out.length = 3:=h2.ok.1
 unfold OV
 rw [h1,Option.bind_some,hl3]
 have hg : ixO r.Out 0 = some [0]:=by rw [RS _ (by omega)]; simpa [e0] using g1
 rw [hg]
 rfl
end Go.Proofs.YtjjmcedpoolghaaDoor
namespace Go.Proofs.YtjjmcedpoolghaaDoor
open Go Go.Dw Go.Proofs
theorem AaP (x : Kq) : MO x = some (LC x):=by
 obtain ⟨op,a,b,c,i⟩:=x
 unfold MO LC
 by_cases h15 : op = 15
 ·simp [h15]
 ·have e15 : (op == 15) = false:=by simpa using h15
  by_cases h17 : op = 17
  ·simp [h17]
  ·have e17 : (op == 17) = false:=by simpa using h17
   simp [h15,e15,h17,e17]
theorem AaO (x : Kq) : MB x = some (if x.Op = 16 ∨ x.Op = 17 then (x.A,true) else (0,false)):=by
 obtain ⟨op,a,b,c,i⟩:=x
 unfold MB MX
 by_cases h16 : op = 16
 ·simp [h16]
 ·have e16 : (op == 16) = false:=by simpa using h16
  by_cases h17 : op = 17
  ·simp [h17]
  ·have e17 : (op == 17) = false:=by simpa using h17
   simp [h16,e16,h17,e17]
def Ug (l : List Bool) : Nat:=l.countP (fun b=>!b)
theorem YB : ∀ {l : List Bool} {i : Nat},l[i]? = some false → Ug (l.set i true) + 1 = Ug l
 | [],i,h=>by simp at h
 | b :: r,0,h=>by
  simp only [List.getElem?_cons_zero,Option.some.injEq] at h
  subst h
  simp [Ug]
 | b :: r,i + 1,h=>by
  simp only [List.getElem?_cons_succ] at h
  have:=YB h
  simp only [Ug] at this ⊢
  simp only [List.set_cons_succ,List.countP_cons]
  omega
def Dfs (f : Ku) (j v : Int) : Prop:=((Kz f j).Op = 16 ∨ (Kz f j).Op = 17) ∧ (Kz f j).A = v
def Seen (s : List Bool) (j : Int) : Prop:=s[j.toNat]? = some true
structure Ut (f : Ku) (l : List (List Int)) (k : Nat) (v : Int) (seen : List Bool) (todo : List Int) : Prop where
 len : seen.length = f.Code.length
 rng : ∀ j ∈ todo,0 ≤ j ∧ j < f.Code.length
 sound : ∀ j ∈ todo,v ∈ inN (Kz f j) (KE l j) → v ∈ KE l k
 clo : ∀ j,0 ≤ j → Seen seen j → v ∉ LC (Kz f j) ∧ (¬ Dfs f j v → ∀ i ∈ KT (Kz f j) j,i ∈ todo ∨ Seen seen i)
 first : ∀ i ∈ KT (Kz f k) k,i ∈ todo ∨ Seen seen i
 bound : todo.length + 2 * Ug seen ≤ 2 * f.Code.length + 2
theorem UB {f : Ku} {l : List (List Int)} (h : OU f l) {k : Nat} (hk : k < f.Code.length) : Le f l k = KE l k:=by
 have h1:=Mn (f:=f) (l:=l) hk
 rw [h.fix,(h.ok.row hk).1] at h1
 exact (Option.some.inj h1).symm
theorem Ut.done {f : Ku} (hf : Ln f) {l : List (List Int)} (hl : OU f l) {k : Nat} (hk : k < f.Code.length) {v : Int} {seen : List Bool} (h : Ut f l k v seen []) : v ∉ KE l k:=by
 classical
 let good : Nat → Prop:=fun i=>∀ j ∈ KT (Kz f i) i,Seen seen j
 let b : List (List Int):=(List.range f.Code.length).map fun i=>if good i then (KE l (i : Nat)).filter (· != v) else KE l (i : Nat)
 have hbg : ∀ {i : Nat},i < f.Code.length → b[i]? = some (if good i then (KE l (i : Nat)).filter (· != v) else KE l (i : Nat)):=by
  intro i hi
  simp [b,hi]
 have hrow : ∀ {i : Nat},i < f.Code.length → Lk f.Slots.length (if good i then (KE l (i : Nat)).filter (· != v) else KE l (i : Nat)):=by
  intro i hi
  have h2:=(hl.ok.row hi).2
  split
  ·exact ⟨h2.1.filter _,fun x hx=>h2.2 x (List.mem_filter.1 hx).1⟩
  ·exact h2
 have hbo : LK f b:=by
  refine ⟨by simp [b],fun s hs=>?_⟩
  obtain ⟨i,hi,rfl⟩:=List.mem_map.1 hs
  exact hrow (List.mem_range.1 hi)
 have hob : ∀ {i : Nat},i < f.Code.length → KE b (i : Nat) = if good i then (KE l (i : Nat)).filter (· != v) else KE l (i : Nat):=by
  intro i hi
  have:=(hbo.row hi).1
  rw [hbg hi] at this
  exact (Option.some.inj this).symm
 have hbl : LE b l:=by
  intro i s t hs ht x hx
  have hi : i < f.Code.length:=by have:=(List.getElem?_eq_some_iff.1 ht).1; have:=hl.ok.1; omega
  rw [hbg hi] at hs
  rw [(hl.ok.row hi).1] at ht
  cases hs; cases ht
  split at hx
  ·exact (List.mem_filter.1 hx).1
  ·exact hx
 have hstep : LE (LH f b) b:=by
  intro i s t hs ht x hx
  have hi : i < f.Code.length:=by have:=(List.getElem?_eq_some_iff.1 ht).1; have:=hbo.1; omega
  rw [Mn hi] at hs
  rw [hbg hi] at ht
  cases hs; cases ht
  have hxl : x ∈ KE l (i : Nat):=by
   have:=SG hf hbo hl.ok hbl i _ _ (Mn hi) (Mn hi) x hx
   rwa [UB hl hi] at this
  split
  ·rename_i hgood
   refine List.mem_filter.2 ⟨hxl,?_⟩
   simp only [bne_iff_ne,ne_eq]
   rintro rfl
   obtain ⟨j,hj,hxj⟩:=((LJ hf hbo hi).2 x).1 hx
   have hcode : f.Code[i]? = some (Kz f i):=by simp [Kz,hi]
   have hjr:=hf.next i _ hcode j hj
   have hjc : f.Code[j.toNat]? = some (Kz f j):=by simp [Kz,show j.toNat < f.Code.length by omega]
   have hjn : ((j.toNat : Nat) : Int) = j:=Int.toNat_of_nonneg hjr.1
   obtain ⟨_,q2⟩:=hbo.row (k:=j.toNat) (by omega)
   rw [hjn] at q2
   obtain ⟨c1,c2⟩:=h.clo j hjr.1 (hgood j hj)
   rw [(NG hf (List.mem_of_getElem? hjc) q2).2] at hxj
   rcases hxj with ⟨m1,m2⟩ | m1
   ·have hgj : good j.toNat:=by
     intro i' hi'
     rw [hjn] at hi'
     exact (c2 (fun hd=>m2 ⟨hd.1,hd.2⟩) i' hi').resolve_left (by simp)
    rw [← hjn,hob (i:=j.toNat) (by omega),if_pos hgj] at m1
    simp at m1
   ·exact c1 m1
  ·exact hxl
 have hle:=hl.least b hbo hstep
 intro hv
 have:=hle k _ _ (hl.ok.row hk).1 (hbg hk) v hv
 rw [if_pos (fun j hj=>(h.first j hj).resolve_left (by simp))] at this
 simp at this
theorem Ut.skip {f : Ku} {l : List (List Int)} {k : Nat} {v j : Int} {seen : List Bool} {r : List Int} (h : Ut f l k v seen (j :: r)) (hs : Seen seen j) : Ut f l k v seen r:=by
 have key : ∀ i,i ∈ j :: r ∨ Seen seen i → i ∈ r ∨ Seen seen i:=by
  rintro i (hi | hi)
  ·rcases List.mem_cons.1 hi with rfl | hi
   ·exact .inr hs
   ·exact .inl hi
  ·exact .inr hi
 refine ⟨h.len,fun i hi=>h.rng i (List.mem_cons_of_mem _ hi),fun i hi=>h.sound i (List.mem_cons_of_mem _ hi),fun i h0 hi=>⟨(h.clo i h0 hi).1,fun hd q hq=>key q ((h.clo i h0 hi).2 hd q hq)⟩,fun i hi=>key i (h.first i hi),?_⟩
 have:=h.bound
 simp only [List.length_cons] at this
 omega
theorem Ut.mark {f : Ku} (hf : Ln f) {l : List (List Int)} (hl : OU f l) {k : Nat} {v j : Int} {seen : List Bool} {r nx : List Int} (h : Ut f l k v seen (j :: r)) (hs : seen[j.toNat]? = some false) (hu : v ∉ LC (Kz f j))
  (hnx : (nx = KT (Kz f j) j ∧ ¬ Dfs f j v) ∨ (nx = [] ∧ Dfs f j v)) : Ut f l k v (seen.set j.toNat true) (r ++ nx) ∧ 3 * Ug (seen.set j.toNat true) + (r ++ nx).length < 3 * Ug seen + (j :: r).length:=by
 have hj:=h.rng j (by simp)
 have hjc : f.Code[j.toNat]? = some (Kz f j):=by simp [Kz,show j.toNat < f.Code.length by omega]
 have hjn : ((j.toNat : Nat) : Int) = j:=Int.toNat_of_nonneg hj.1
 have hlt : j.toNat < seen.length:=(List.getElem?_eq_some_iff.1 hs).1
 have hnl : nx.length ≤ 2:=by
  rcases hnx with ⟨rfl,_⟩ | ⟨rfl,_⟩
  ·exact NH _ _
  ·simp
 have hun:=YB hs
 have hb:=h.bound
 simp only [List.length_cons] at hb
 have hse : ∀ i,Seen seen i → Seen (seen.set j.toNat true) i:=by
  intro i hi
  unfold Seen at hi ⊢
  by_cases e : i.toNat = j.toNat
  ·rw [e,List.getElem?_set_self hlt]
  ·rw [List.getElem?_set_ne (fun h=>e h.symm)]; exact hi
 have hsj : Seen (seen.set j.toNat true) j:=by unfold Seen; rw [List.getElem?_set_self hlt]
 have key : ∀ i,i ∈ j :: r ∨ Seen seen i → i ∈ r ++ nx ∨ Seen (seen.set j.toNat true) i:=by
  rintro i (hi | hi)
  ·rcases List.mem_cons.1 hi with rfl | hi
   ·exact .inr hsj
   ·exact .inl (List.mem_append_left _ hi)
  ·exact .inr (hse i hi)
 refine ⟨⟨by simpa using h.len,fun i hi=>?_,fun i hi hv=>?_,fun i h0 hi=>?_,fun i hi=>key i (h.first i hi),by simp only [List.length_append]; omega⟩,by simp only [List.length_append,List.length_cons]; omega⟩
 ·rcases List.mem_append.1 hi with hi | hi
  ·exact h.rng i (List.mem_cons_of_mem _ hi)
  ·rcases hnx with ⟨rfl,_⟩ | ⟨rfl,_⟩
   ·have:=hf.next j.toNat _ hjc i (by rw [hjn]; exact hi)
    exact this
   ·cases hi
 ·rcases List.mem_append.1 hi with hi | hi
  ·exact h.sound i (List.mem_cons_of_mem _ hi) hv
  ·rcases hnx with ⟨rfl,hd⟩ | ⟨rfl,_⟩
   ·refine h.sound j (by simp) ?_
    obtain ⟨_,q2⟩:=hl.ok.row (k:=j.toNat) (by omega)
    have hrow:=(LJ hf hl.ok (k:=j.toNat) (by omega)).2 v
    rw [UB hl (by omega)] at hrow
    rw [hjn] at q2 hrow
    rw [(NG hf (List.mem_of_getElem? hjc) q2).2]
    exact .inl ⟨hrow.2 ⟨i,hi,hv⟩,fun hd'=>hd ⟨hd'.1,hd'.2⟩⟩
   ·cases hi
 ·by_cases e : i = j
  ·subst e
   refine ⟨hu,fun hd q hq=>?_⟩
   rcases hnx with ⟨rfl,_⟩ | ⟨rfl,hd'⟩
   ·exact .inl (List.mem_append_right _ hq)
   ·exact (hd hd').elim
  ·have hi' : Seen seen i:=by
    unfold Seen at hi ⊢
    rwa [List.getElem?_set_ne (by omega)] at hi
   exact ⟨(h.clo i h0 hi').1,fun hd q hq=>key q ((h.clo i h0 hi').2 hd q hq)⟩
theorem Abl {f : Ku} (hf : Ln f) {l : List (List Int)} (hl : OU f l) {k : Nat} (hk : k < f.Code.length) (v : Int) : Hs (PW f (k : Int) v) fun b=>b = decide (v ∈ KE l k):=by
 have hlen':=hf.len'
 have hcode : f.Code[k]? = some (Kz f k):=by simp [Kz,hk]
 have hnl:=NH (Kz f k) k
 unfold PW
 refine .chk (by omega) ?_
 rw [Xi hcode (by omega),Option.bind_some]
 refine Hs.loop (fun s=>Ut f l k v s.1 s.2) (fun s=>3 * Ug s.1 + s.2.length) ⟨by simp,fun j hj=>hf.next k _ hcode j hj,fun j hj hv=>?_,fun j _ hs=>?_,fun i hi=>.inl hi,?_⟩ ?_
 ·rw [← UB hl hk]
  exact ((LJ hf hl.ok hk).2 v).2 ⟨j,hj,hv⟩
 ·unfold Seen at hs
  have:=List.mem_of_getElem? hs
  rw [List.mem_replicate] at this
  cases this.2
 ·have : Ug (List.replicate (f.Code.length : Int).toNat false) = f.Code.length:=by simp [Ug,List.countP_replicate]
  simp only [this]
  omega
 rintro ⟨seen,todo⟩ h
 simp only at h
 unfold QF
 dsimp only
 match todo,h with
 | [],h =>
  refine .dec (fun hp=>absurd hp (by simp)) fun _=>.lft (.pure ?_)
  show false = decide (v ∈ KE l k)
  simp [h.done hf hl hk]
 | j :: r,h =>
  have hb:=h.bound
  simp only [List.length_cons] at hb
  have hj:=h.rng j (by simp)
  have hjn : ((j.toNat : Nat) : Int) = j:=Int.toNat_of_nonneg hj.1
  have hjc : f.Code[j.toNat]? = some (Kz f j):=by simp [Kz,show j.toNat < f.Code.length by omega]
  have hsl:=h.len
  have hnlj:=NH (Kz f j) j
  have hg : seen[j.toNat]? = some (seen[j.toNat]'(by omega)):=List.getElem?_eq_getElem _
  generalize seen[j.toNat]'(by omega) = sj at hg
  have e0 : (0 : Int).toNat = 0:=rfl
  have e1 : (1 : Int).toNat = 1:=rfl
  simp only [e0,e1,List.drop_one,List.tail_cons,List.nil_append,List.getElem?_cons_zero,Option.bind_some,List.length_cons,List.length_nil]
  refine .dec (fun _=>?_) fun hn=>absurd (show ((r.length + 1 : Nat) : Int) > 0 by omega) hn
  refine .chk (by omega) (.chk (by omega) (.chk (by omega) (.chk (by omega) ?_)))
  rw [hg,Option.bind_some]
  refine .cond (fun hsj=>?_) fun hsj=>.chk (by omega) ?_
  ·have hsj : sj = true:=hsj
   subst hsj
   exact .cnt ⟨h.skip hg,by simp only [List.length_cons]; omega⟩
  ·have hsj : sj = false:=hsj
   subst hsj
   have hul : (LC (Kz f j)).length ≤ 1:=YQ _
   simp only [Option.bind_some,RS _ hj.1,hjc,AaP,Zn _ v (show (LC (Kz f j)).length ≤ 9223372036854775807 by omega),AaO]
   refine .dec (fun hu=>.lft (.pure ?_)) fun hu=>?_
   ·obtain ⟨_,q2⟩:=hl.ok.row (k:=j.toNat) (by omega)
    rw [hjn] at q2
    have:=h.sound j (by simp) (((NG hf (List.mem_of_getElem? hjc) q2).2 v).2 (.inr hu))
    show true = decide (v ∈ KE l k)
    simp [this]
   ·have hnext : My f j = some (KT (Kz f j) j):=by
     have:=Xi hjc (by omega)
     rwa [hjn] at this
    have add : ¬ Dfs f j v → Hs ((My f j).bind fun r15=>chk (r.length + r15.length ≤ 16777216) (Go.Dw.cnt (seen.set j.toNat true,r ++ r15))) (Rnd (fun s=>Ut f l k v s.1 s.2) (fun s=>3 * Ug s.1 + s.2.length) (seen,j :: r) fun b : Bool=>b = decide (v ∈ KE l k)):=by
     intro hd
     rw [hnext,Option.bind_some]
     obtain ⟨m1,m2⟩:=h.mark hf hl hg hu (.inl ⟨rfl,hd⟩)
     exact .chk (by omega) (.cnt ⟨m1,m2⟩)
    by_cases hop : (Kz f j).Op = 16 ∨ (Kz f j).Op = 17
    ·rw [if_pos hop]
     simp only [Bool.not_true,cond_false]
     refine .bne (fun hne=>add fun hd=>hne hd.2) fun he=>?_
     obtain ⟨m1,m2⟩:=h.mark hf hl hg hu (nx:=[]) (.inr ⟨rfl,hop,he⟩)
     rw [List.append_nil] at m1 m2
     exact .cnt ⟨m1,m2⟩
    ·rw [if_neg hop]
     simp only [Bool.not_false,cond_true]
     exact add fun hd=>hop hd.1
theorem RT (codes : List Int) (hc : qL (MP .u8) codes) : Hs (Lu codes) fun b=>b = true:=by
 unfold Lu
 rw [Abc]
 simp only [Option.bind_some,Bool.not_true,cond_false]
 refine (Zb codes hc).bind fun p ⟨_,⟨ps,i,hfo⟩,_⟩=>?_
 have hf:=hfo.Adr (by omega)
 have hlen':=hf.len'
 have hsl:=hf.slots
 refine (XK hf).bind fun l hl=>.bne (fun h=>(h (by rw [hl.ok.1])).elim) fun _=>?_
 refine Hs.loop (fun i=>∃ k : Nat,i = (k : Int) ∧ k ≤ p.1.Code.length) (fun i=>p.1.Code.length - i.toNat) ⟨0,rfl,Nat.zero_le _⟩ ?_
 rintro _ ⟨k,rfl,hk⟩
 unfold LU
 refine .dec (fun hlt=>?_) fun _=>.lft (.pure rfl)
 have hlt : k < p.1.Code.length:=Int.ofNat_lt.1 hlt
 obtain ⟨o1,o2⟩:=hl.ok.row hlt
 have ol:=o2.1.length_le
 refine Hs.loop (fun i=>∃ s : Nat,i = (s : Int) ∧ s ≤ p.1.Slots.length) (fun i=>p.1.Slots.length - i.toNat) ⟨0,rfl,Nat.zero_le _⟩ ?_
 rintro _ ⟨s,rfl,hs⟩
 unfold LV
 refine .dec (fun hlt2=>?_) fun _=>.lft ?_
 ·have hlt2 : s < p.1.Slots.length:=Int.ofNat_lt.1 hlt2
  rw [Tv,o1,Option.bind_some,Zn _ _ (by omega),Option.bind_some]
  refine (Abl hf hl hlt (s : Int)).bind fun b hb=>?_
  subst hb
  simp only [beq_self_eq_true,Bool.not_true,cond_false]
  rw [Lj (by omega)]
  exact .cnt ⟨⟨s + 1,rfl,hlt2⟩,by simp only; omega⟩
 ·unfold LW
  rw [Lj (by omega)]
  exact .cnt ⟨⟨k + 1,rfl,hlt⟩,by simp only; omega⟩
theorem Rs (codes : List Int) (hc : qL (MP .u8) codes) : Lu codes = some true:=by
 obtain ⟨r,h,rfl⟩:=RT codes hc
 exact h
end Go.Proofs.YtjjmcedpoolghaaDoor
