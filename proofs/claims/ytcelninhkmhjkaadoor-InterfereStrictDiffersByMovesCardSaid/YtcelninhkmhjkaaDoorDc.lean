/-
  THE LAYER: symbolic semantics of compiled code, and programs on typed data.
-/
import Derived.Test.YtcelninhkmhjkaaDoorDb
import Derived.ProofKit
import Derived.OpenShut
import Derived.Deep.Strs
import Derived.KernelRfl
import Derived.Sort.Row
import Derived.Sort.Grow
import Derived.Lib.SlicesCompact
import Derived.Shelf.Spec.TrailingZeros
import Derived.LaidMore
import Derived.MakeChecks
import Derived.Lib.TrailingZeros
namespace Go.Dw
section
variable {ι R : Type} {body : ι → Option (ι ⊕ R)} {s : ι} {r r' : R} {n m : Nat}
def Cz (body : ι → Option (ι ⊕ R)) : Nat → ι → Option R
 | 0,_=>none
 | n + 1,s=>match body s with
  | none=>none
  | some (.inr r)=>some r
  | some (.inl s')=>Cz body n s'
theorem BD : Cz body (n + 1) s = match body s with
  | none=>none
  | some (.inr r)=>some r
  | some (.inl s')=>Cz body n s':=rfl
theorem DF : ∀ {n m : Nat} {s : ι},Cz body n s = some r → n ≤ m → Cz body m s = some r
 | 0,_,_,h,_=>by cases h
 | n + 1,0,_,_,h'=>by omega
 | n + 1,m + 1,s,h,h'=>by
  rw [BD] at h ⊢
  cases hb : body s with
  | none=>rw [hb] at h; cases h
  | some x =>
   rw [hb] at h
   cases x with
   | inr y=>exact h
   | inl s'=>exact DF h (Nat.le_of_succ_le_succ h')
theorem GU (h : Cz body n s = some r) (h' : Cz body m s = some r') : r = r':=by
 have h1:=DF h (Nat.le_max_left n m)
 have h2:=DF h' (Nat.le_max_right n m)
 rw [h1] at h2
 exact Option.some.inj h2
open Classical in
noncomputable def Ks (body : ι → Option (ι ⊕ R)) (s : ι) : Option R :=
 if h : ∃ r,∃ n,Cz body n s = some r then some (Classical.choose h) else none
theorem DS : Ks body s = some r ↔ ∃ n,Cz body n s = some r:=by
 unfold Ks
 split
 ·rename_i h
  obtain ⟨n,hn⟩:=Classical.choose_spec h
  constructor
  ·intro e
   cases e
   exact ⟨n,hn⟩
  ·rintro ⟨m,hm⟩
   rw [GU hn hm]
 ·rename_i h
  constructor
  ·intro e; cases e
  ·rintro ⟨n,hn⟩; exact (h ⟨r,n,hn⟩).elim
theorem Ys (body : ι → Option (ι ⊕ R)) (s : ι) : Ks body s = match body s with
  | none=>none
  | some (.inr r)=>some r
  | some (.inl s')=>Ks body s':=by
 apply Option.ext
 intro r
 rw [DS]
 cases hb : body s with
 | none =>
  simp only [reduceCtorEq,iff_false,not_exists]
  intro n hn
  cases n with
  | zero=>cases hn
  | succ n=>rw [BD,hb] at hn; cases hn
 | some x =>
  cases x with
  | inr y =>
   constructor
   ·rintro ⟨n,hn⟩
    cases n with
    | zero=>cases hn
    | succ n=>rw [BD,hb] at hn; exact hn
   ·intro e; exact ⟨1,by rw [BD,hb]; exact e⟩
  | inl s' =>
   simp only [DS]
   constructor
   ·rintro ⟨n,hn⟩
    cases n with
    | zero=>cases hn
    | succ n=>rw [BD,hb] at hn; exact ⟨n,hn⟩
   ·rintro ⟨n,hn⟩; exact ⟨n + 1,by rw [BD,hb]; exact hn⟩
theorem AcF (I : ι → Prop) (P : R → Prop) (μ : ι → Nat) (h0 : I s)
  (hb : ∀ s,I s → (∃ s',body s = some (.inl s') ∧ I s' ∧ μ s' < μ s) ∨ ∃ r,body s = some (.inr r) ∧ P r) : ∃ r,Ks body s = some r ∧ P r:=by
 generalize hk : μ s = k
 induction k using Nat.strongRecOn generalizing s with
 | _ k ih =>
  rw [Ys]
  rcases hb s h0 with ⟨s',h1,h2,h3⟩ | ⟨r,h1,h2⟩
  ·rw [h1]
   exact ih (μ s') (by omega) h2 rfl
  ·rw [h1]
   exact ⟨r,rfl,h2⟩
end
def chk {R : Type} (p : Prop) [Decidable p] (t : Option R) : Option R:=if p then t else none
def ixO {α : Type} (l : List α) (i : Int) : Option α:=if i < 0 then none else l[i.toNat]?
def lft {ι R : Type} (t : Option R) : Option (ι ⊕ R):=t.map .inr
def cnt {ι R : Type} (s : ι) : Option (ι ⊕ R):=some (.inl s)
theorem Kx {R : Type} {p : Prop} [Decidable p] {t : Option R} (h : p) : chk p t = t:=if_pos h
theorem FJ {R : Type} {p : Prop} [Decidable p] {t : Option R} {r : R} (h : chk p t = some r) : p ∧ t = some r:=by
 unfold chk at h
 split at h
 ·exact ⟨‹_›,h⟩
 ·cases h
theorem Hn {α : Type} {l : List α} {i : Int} {x : α} (h : ixO l i = some x) : 0 ≤ i ∧ i < l.length ∧ l[i.toNat]? = some x:=by
 unfold ixO at h
 split at h
 ·cases h
 ·have:=(List.getElem?_eq_some_iff.1 h).1
  exact ⟨by omega,by omega,h⟩
section
variable {Γ : At} {R ι γ : Type}
def Has (σ : S) (E : List (Nat × D)) (O : List (Nat × Ab)) : Prop:=∃ n,Chg σ ⟨E,O,n⟩
def Tr (Γ : At) (c : Kb) (K : R → Ar → S → Prop) (σ : S) (t : Option R) : Prop:=∀ r,t = some r → DWp Γ c (K r) σ
def TrX (e : Ar) (K : R → Ar → S → Prop) (σ : S) (t : Option R) : Prop:=∀ r,t = some r → K r e σ
abbrev DR:=List Key × List Key × List Nat
structure KR (R : Type) where
 N : Nat
 K : R → Ar → S → Prop
def TrO (Γ : At) (ops : List Av) (nv : Nat) (σ : S) (d : Bool) (acc : List DR) (K : KR R) (t : Option R) : Prop :=
 ∀ r,t = some r → (d = false → wpS Γ ops nv σ (K.K r .normal)) ∧ (d = true → Dw.wpOps Γ ops nv σ (fun τ=>K.K r .normal { τ with n:=K.N }) ∧ Dq (acc ++ Cm Γ ops nv σ) = true)
def Fe (N : Nat) (K : R → Ar → S → Prop) : KR R:=⟨N,K⟩
def FQ (Γ : At) (b : Kb) (K : R → Ar → S → Prop) : R → Ar → S → Prop:=fun r=>Ar.then (Wk (DWp Γ b (K r))) (K r)
def FP (id : Nat) (K : R → Ar → S → Prop) : R → Ar → S → Prop:=fun r=>Ar.inBlock id (K r)
def GC (E : ι → γ → List (Nat × D)) (O : ι → γ → List (Nat × Ab)) (j : ι → Option R) (K : R → Ar → S → Prop) : R → Ar → S → Prop:=fun r e τ =>
 match e with
 | .normal=>∃ s g,j s = some r ∧ Has τ (E s g) (O s g)
 | e=>K r e τ
def EO (id : Nat) (E : ι → γ → List (Nat × D)) (O : ι → γ → List (Nat × Ab)) (j : ι → Option R) (K : R → Ar → S → Prop) : R → Ar → S → Prop:=fun r e τ =>
 match e with
 | .normal=>∃ s g,j s = some r ∧ Has τ (E s g) (O s g)
 | .exit id'=>if id' = id then ∃ s g,j s = some r ∧ Has τ (E s g) (O s g) else K r (.exit id') τ
 | .ret=>K r .ret τ
def Fx (E : ι → γ → List (Nat × D)) (O : ι → γ → List (Nat × Ab)) (K : R → Ar → S → Prop) : (ι ⊕ R) → Ar → S → Prop:=fun x e τ =>
 match x,e with
 | .inl s,.normal=>∃ g,Has τ (E s g) (O s g)
 | .inl _,_=>False
 | .inr _,.normal=>False
 | .inr r,e=>K r e τ
theorem EY : ∀ (ops : List Av) (nv : Nat) (σ : S) (K K' : S → Prop),(∀ τ,K τ → K' τ) → Dw.wpOps Γ ops nv σ K → Dw.wpOps Γ ops nv σ K'
 | [],_,_,_,_,hK,h=>hK _ h
 | _ :: ops,_,_,_,_,hK,h=>⟨h.1,EY ops _ _ _ _ hK h.2⟩
theorem Wk.mono {f g : S → Prop} (h : ∀ τ,f τ → g τ) {σ : S} : Wk f σ → Wk g σ:=fun ⟨τ,h1,h2⟩=>⟨τ,h1,h τ h2⟩
theorem GK {o : Av} {σ : S} {K K' : S → Prop} (hK : ∀ τ,K τ → K' τ) : EZ Γ o σ K → EZ Γ o σ K':=by
 rintro ⟨h1,fa,args,f,caps,sp,φ,K0,h2,h⟩
 exact ⟨h1,fa,args,f,caps,sp,φ,K0,fun τ hτ=>hK τ (h2 τ hτ),h⟩
theorem EF : ∀ (ops : List Av) (nv : Nat) (σ : S) (K K' : S → Prop),(∀ τ,K τ → K' τ) → wpS Γ ops nv σ K → wpS Γ ops nv σ K'
 | [],_,_,_,_,hK,h=>hK _ h
 | _ :: ops,_,_,_,_,hK,h=>h.imp (fun h=>⟨h.1,EF ops _ _ _ _ hK h.2⟩) (Wk.mono fun _=>GK fun _ ⟨τ,h1,h2⟩=>⟨τ,h1,EF ops _ _ _ _ hK h2⟩)
theorem Bk : ∀ (b : Kb) (Q Q' : Ar → S → Prop) (σ : S),(∀ e τ,Q e τ → Q' e τ) → DWp Γ b Q σ → DWp Γ b Q' σ
 | .skip,_,_,_,h,hd=>h _ _ hd
 | .ret,_,_,_,h,hd=>h _ _ hd
 | .exit _,_,_,_,h,hd=>h _ _ hd
 | .reg ops d,_,_,_,h,hd=>Wk.mono (fun τ hq=>by
   cases d with
   | true=>rw [if_pos rfl] at hq ⊢; exact ⟨EY ops _ _ _ _ (fun _ hq=>h _ _ hq) hq.1,hq.2⟩
   | false=>rw [if_neg (by simp)] at hq ⊢; exact EF ops _ _ _ _ (fun _ hq=>h _ _ hq) hq) hd
 | .seq a b,Q,Q',σ,h,hd=>Bk a _ _ σ (fun e τ hq=>by
   cases e with
   | normal=>exact Wk.mono (fun τ' h'=>Bk b _ _ τ' h h') hq
   | exit id=>exact h _ _ hq
   | ret=>exact h _ _ hq) hd
 | .cond c a b,Q,Q',σ,h,hd=>by
  simp only [DWp] at hd ⊢
  generalize Cx σ c = d at *
  cases d <;> try exact hd.elim
  exact ⟨fun ht=>Bk a _ _ σ h (hd.1 ht),fun ht=>Bk b _ _ σ h (hd.2 ht)⟩
 | .block id b,Q,Q',σ,h,hd=>Bk b _ _ σ (fun e τ hq=>by
   cases e with
   | normal=>exact h _ _ hq
   | ret=>exact h _ _ hq
   | exit id' =>
    simp only [Ar.inBlock] at hq ⊢
    split
    ·rename_i e; rw [if_pos e] at hq; exact Wk.mono (fun τ' h'=>h _ _ h') hq
    ·rename_i e; rw [if_neg e] at hq; exact h _ _ hq) hd
 | .loop b,Q,Q',σ,h,⟨ι,St,μ,i₀,h1,h2⟩=>⟨ι,St,μ,i₀,h1,fun i=>Bk b _ _ _ (fun e τ hq=>by
   cases e with
   | normal=>exact hq
   | exit id=>exact h _ _ hq
   | ret=>exact h _ _ hq) (h2 i)⟩
variable {K : R → Ar → S → Prop} {t t1 t2 : Option R} {e : List (Nat × D)} {o : List (Nat × Ab)} {n N nv : Nat} {σ τ : S} {a b : Kb}
theorem Yn {ops : List Av} {d : Bool} (h : TrO Γ ops n ⟨e,o,n⟩ d [] (Fe (n + ops.length) K) t) : Tr Γ (.reg ops d) K ⟨e,o,n⟩ t :=
 fun r hr=>⟨_,.refl _,by
  cases d with
  | true=>rw [if_pos rfl]; exact (h r hr).2 rfl
  | false=>rw [if_neg (by simp)]; exact (h r hr).1 rfl⟩
theorem Jp {ops : List Av} {d : Bool} {E : List (Nat × D)} {O : List (Nat × Ab)} (hh : Has ⟨e,o,n⟩ E O) (h : ∀ n,TrO Γ ops n ⟨E,O,n⟩ d [] (Fe (n + ops.length) K) t) : Tr Γ (.reg ops d) K ⟨e,o,n⟩ t :=
 fun r hr=>hh.elim fun m hh=>⟨_,hh,by
  cases d with
  | true=>rw [if_pos rfl]; exact (h m r hr).2 rfl
  | false=>rw [if_neg (by simp)]; exact (h m r hr).1 rfl⟩
theorem WH {acc : List DR} (h : TrX .normal K ⟨e,o,nv⟩ t) : TrO Γ [] nv ⟨e,o,n⟩ false acc (Fe N K) t :=
 fun r hr=>⟨fun _=>h r hr,fun hd=>by cases hd⟩
theorem Ki {acc : List DR} (ha : Dq acc = true) (h : TrX .normal K ⟨e,o,N⟩ t) : TrO Γ [] nv ⟨e,o,n⟩ true acc (Fe N K) t :=
 fun r hr=>⟨fun hd=>(by cases hd),fun _=>⟨h r hr,by simpa [Cm] using ha⟩⟩
def TrE (Γ : At) (c : Kb) (K : R → Ar → S → Prop) (σ : S) (t : Option R) : Prop:=∀ r,t = some r → Wk (DWp Γ c (K r)) σ
theorem Kd (h : Tr Γ a K σ t) : TrE Γ a K σ t:=fun r hr=>⟨_,.refl _,h r hr⟩
theorem Yp (h : Tr Γ a (FQ Γ b K) σ t) : Tr Γ (.seq a b) K σ t:=h
theorem WK (h : Tr Γ b K τ t) : TrX .normal (FQ Γ b K) τ t:=fun r hr=>⟨_,.refl _,h r hr⟩
theorem Lu {E : List (Nat × D)} {O : List (Nat × Ab)} (hh : Has τ E O) (h : ∀ n,Tr Γ b K ⟨E,O,n⟩ t) : TrX .normal (FQ Γ b K) τ t :=
 fun r hr=>hh.elim fun n hh=>⟨_,hh,h n r hr⟩
theorem Qr {id : Nat} (h : TrX (.exit id) K τ t) : TrX (.exit id) (FQ Γ b K) τ t:=h
theorem Ri (h : TrX .ret K τ t) : TrX .ret (FQ Γ b K) τ t:=h
theorem Vj {id : Nat} (h : Tr Γ b (FP id K) σ t) : Tr Γ (.block id b) K σ t:=h
theorem OM {id : Nat} (h : TrX .normal K τ t) : TrX .normal (FP id K) τ t:=h
theorem Rh {id : Nat} (h : TrX .ret K τ t) : TrX .ret (FP id K) τ t:=h
theorem Qq {id : Nat} (h : TrX .normal K τ t) : TrX (.exit id) (FP id K) τ t :=
 fun r hr=>by
  show (if id = id then Wk (K r .normal) τ else K r (.exit id) τ)
  rw [if_pos rfl]
  exact ⟨_,.refl _,h r hr⟩
theorem IC {id id' : Nat} (hne : Nat.beq id' id = false) (h : TrX (.exit id') K τ t) : TrX (.exit id') (FP id K) τ t :=
 fun r hr=>by
  show (if id' = id then Wk (K r .normal) τ else K r (.exit id') τ)
  rw [if_neg (fun e=>by subst e; simp at hne)]
  exact h r hr
theorem WO (h : TrX .normal K σ t) : Tr Γ .skip K σ t:=h
theorem Yo (h : TrX .ret K σ t) : Tr Γ .ret K σ t:=h
theorem WM {id : Nat} (h : TrX (.exit id) K σ t) : Tr Γ (.exit id) K σ t:=h
def KN {α : Type} : List (Nat × α) → Nat → Option α
 | [],_=>none
 | (k,x) :: r,t=>bif Nat.beq t k then some x else KN r t
theorem Bn {α : Type} : ∀ (l : List (Nat × α)) (t : Nat),KN l t = look l t
 | [],_=>rfl
 | (k,x) :: r,t=>by
  simp only [KN,look,Bn r t]
  by_cases h : t = k
  ·subst h; simp
  ·have : Nat.beq t k = false:=by
    cases hb : Nat.beq t k
    ·rfl
    ·exact absurd (Nat.eq_of_beq_eq_true hb) h
   simp [h,this]
def Ac (e : List (Nat × D)) : Arg → Option D
 | .t n=>KN e n
 | .c d=>some d
theorem WL {x : Arg} {c : Bool} (hx : Ac e x = some (.bool c)) (h1 : Tr Γ a K ⟨e,o,n⟩ t1) (h2 : Tr Γ b K ⟨e,o,n⟩ t2) : Tr Γ (.cond x a b) K ⟨e,o,n⟩ (bif c then t1 else t2):=by
 intro r hr
 have hv : Cx ⟨e,o,n⟩ x = .bool c:=by cases x <;> simp_all [Ac,Cx,S.ge,Bn]
 simp only [DWp,hv]
 cases c with
 | true=>exact ⟨fun _=>h1 r hr,fun h=>by cases h⟩
 | false=>exact ⟨fun h=>(by cases h),fun _=>h2 r hr⟩
theorem LY {x : Arg} (hx : Ac e x = some (.bool true)) (h1 : Tr Γ a K ⟨e,o,n⟩ t) : Tr Γ (.cond x a b) K ⟨e,o,n⟩ t:=by
 intro r hr
 have hv : Cx ⟨e,o,n⟩ x = .bool true:=by cases x <;> simp_all [Ac,Cx,S.ge,Bn]
 simp only [DWp,hv]
 exact ⟨fun _=>h1 r hr,fun h=>(by cases h)⟩
theorem Nj {x : Arg} (hx : Ac e x = some (.bool false)) (h1 : Tr Γ b K ⟨e,o,n⟩ t) : Tr Γ (.cond x a b) K ⟨e,o,n⟩ t:=by
 intro r hr
 have hv : Cx ⟨e,o,n⟩ x = .bool false:=by cases x <;> simp_all [Ac,Cx,S.ge,Bn]
 simp only [DWp,hv]
 exact ⟨fun h=>(by cases h),fun _=>h1 r hr⟩
variable {E : ι → γ → List (Nat × D)} {O : ι → γ → List (Nat × Ab)} {j : ι → Option R}
theorem SD (h1 : Tr Γ a (GC E O j K) σ t) (h2 : ∀ s g n,Tr Γ b K ⟨E s g,O s g,n⟩ (j s)) : Tr Γ (.seq a b) K σ t:=by
 intro r hr
 refine Bk a _ _ σ (fun e τ hq=>?_) (h1 r hr)
 cases e with
 | normal =>
  obtain ⟨s,g,hj,m,hw⟩:=hq
  exact ⟨_,hw,h2 s g _ r hj⟩
 | exit id=>exact hq
 | ret=>exact hq
theorem WJ {s : ι} (g : γ) (h : Has τ (E s g) (O s g)) : TrX .normal (GC E O j K) τ (j s):=fun _ hr=>⟨s,g,hr,h⟩
theorem NY {id : Nat} (h : TrX (.exit id) K τ t) : TrX (.exit id) (GC E O j K) τ t:=h
theorem Vl (h : TrX .ret K τ t) : TrX .ret (GC E O j K) τ t:=h
theorem Vk {id : Nat} {c : Kb} (h1 : Tr Γ b (EO id E O j K) σ t) (h2 : ∀ s g n,Tr Γ c K ⟨E s g,O s g,n⟩ (j s)) : Tr Γ (.seq (.block id b) c) K σ t:=by
 intro r hr
 refine Bk b _ _ σ (fun e τ hq=>?_) (h1 r hr)
 cases e with
 | normal =>
  obtain ⟨s,g,hj,m,hw⟩:=hq
  exact ⟨_,hw,h2 s g _ r hj⟩
 | exit id' =>
  simp only [EO] at hq
  simp only [Ar.inBlock]
  split
  ·rename_i e
   rw [if_pos e] at hq
   obtain ⟨s,g,hj,m,hw⟩:=hq
   exact ⟨_,hw,_,.refl _,h2 s g _ r hj⟩
  ·rename_i e
   rw [if_neg e] at hq
   exact hq
 | ret=>exact hq
theorem Ng {id : Nat} {s : ι} (g : γ) (h : Has τ (E s g) (O s g)) : TrX .normal (EO id E O j K) τ (j s):=fun _ hr=>⟨s,g,hr,h⟩
theorem AaY {id : Nat} {s : ι} (g : γ) (h : Has τ (E s g) (O s g)) : TrX (.exit id) (EO id E O j K) τ (j s):=fun r hr=>by
 show (if id = id then _ else _)
 rw [if_pos rfl]
 exact ⟨s,g,hr,h⟩
theorem Zw {id : Nat} (h : TrX .ret K τ t) : TrX .ret (EO id E O j K) τ t:=h
theorem Vi {s : ι} (g : γ) (h : Has τ (E s g) (O s g)) : TrX .normal (Fx E O K) τ (cnt s):=fun r hr=>by
 cases hr
 exact ⟨g,h⟩
theorem Pp {id : Nat} (h : TrX (.exit id) K τ t) : TrX (.exit id) (Fx E O K) τ (lft t):=fun r hr=>by
 cases t with
 | none=>cases hr
 | some x=>cases hr; exact h x rfl
theorem Sq (h : TrX .ret K τ t) : TrX .ret (Fx E O K) τ (lft t):=fun r hr=>by
 cases t with
 | none=>cases hr
 | some x=>cases hr; exact h x rfl
theorem WN {body : ι → Option (ι ⊕ R)} {s : ι} (g : γ) (h0 : Has ⟨e,o,n⟩ (E s g) (O s g)) (hb : ∀ s g n,Tr Γ b (Fx E O K) ⟨E s g,O s g,n⟩ (body s)) : Tr Γ (.loop b) K ⟨e,o,n⟩ (Ks body s):=by
 intro r hr
 obtain ⟨k,hk⟩:=DS.1 hr
 refine ⟨{ x : (ι × γ × Nat) × Nat // Cz body x.2 x.1.1 = some r },fun x=>⟨E x.1.1.1 x.1.1.2.1,O x.1.1.1 x.1.1.2.1,x.1.1.2.2⟩,fun x=>x.1.2,⟨((s,g,h0.choose),k),hk⟩,h0.choose_spec,?_⟩
 rintro ⟨⟨⟨s,g,n⟩,k⟩,hk⟩
 simp only at hk
 cases k with
 | zero=>cases hk
 | succ k =>
  rw [BD] at hk
  cases hx : body s with
  | none=>rw [hx] at hk; cases hk
  | some x =>
   rw [hx] at hk
   refine Bk b _ _ _ (fun e τ hq=>?_) (hb s g n x hx)
   cases x with
   | inr r' =>
    cases hk
    cases e with
    | normal=>exact hq.elim
    | exit id=>exact hq
    | ret=>exact hq
   | inl s' =>
    cases e with
    | normal =>
     obtain ⟨g',m,hw⟩:=hq
     exact ⟨⟨((s',g',m),k),hk⟩,Nat.lt_succ_self _,hw⟩
    | exit id=>exact hq.elim
    | ret=>exact hq.elim
end
end Go.Dw
namespace Go.Dw
def rdK : Arg → List Key
 | .t n=>[.e n]
 | .c _=>[]
def lkO (o : List (Nat × Ab)) (g : Nat) : Ab:=(KN o g).getD none
def gOn (e : List (Nat × D)) : Option (Nat × Bool) → Bool
 | none=>true
 | some (t,want)=>match (KN e t).getD .top with
  | .bool b=>b == want
  | .when p (.bool b)=>p && (b == want)
  | _=>false
def Iu (e : List (Nat × D)) : Option (Nat × Bool) → Bool
 | none=>false
 | some (t,want)=>match (KN e t).getD .top with
  | .bool b=>!(b == want)
  | .when p (.bool b)=>!(p && (b == want))
  | _=>false
def gK : Option (Nat × Bool) → List Key
 | none=>[]
 | some (t,_)=>[.e t]
section
variable {Γ : At} {X : Type} {K : KR X} {t t1 t2 : Option X} {e : List (Nat × D)} {o : List (Nat × Ab)} {n nv : Nat} {d : Bool} {acc : List DR}
 {r : List Av} {dst : Nat} {g : Option (Nat × Bool)} {af : List Nat} {α : Type}
@[simp] theorem BJ (x : Arg) : (raw x).run ⟨e,o,n⟩ = (Ac e x).getD .top:=by cases x <;> simp [raw,Ac,Bn,S.ge]
@[simp] theorem ER (x : Arg) : (raw x).rd ⟨e,o,n⟩ = rdK x:=by cases x <;> rfl
@[simp] theorem AA (i : Nat) : (S.mk e o n).go i = lkO o i:=by simp [S.go,lkO,Bn]
@[simp] theorem Aq (x : Arg) : (rdA x).run ⟨e,o,n⟩ = strip ((Ac e x).getD .top):=by simp [rdA]
@[simp] theorem Bz (x : Arg) : (rdA x).rd ⟨e,o,n⟩ = rdK x:=by simp [rdA]
theorem Vg {α : Type} {ops : List Av} {σ : S} {m : Option α} {k : α → Option X} (h : ∀ x,m = some x → TrO Γ ops nv σ d acc K (k x)) : TrO Γ ops nv σ d acc K (m.bind k):=by
 intro r hr
 obtain ⟨x,hx,hk⟩:=Option.bind_eq_some_iff.1 hr
 exact h x hx r hk
theorem WE {ops : List Av} {σ : S} {p : Prop} [Decidable p] (h : p → TrO Γ ops nv σ d acc K t) : TrO Γ ops nv σ d acc K (chk p t):=by
 intro r hr
 obtain ⟨hp,ht⟩:=FJ hr
 exact h hp r ht
theorem An {dst : Option Nat} {op : DOp} {c : Prop} {we : List (Nat × D)} {wo : List (Nat × Ab)} {rd : List Key} (hg : gOn e g = true)
  (hu : (evalOp Γ nv dst op).run ⟨e,o,n⟩ = ⟨c,we,wo⟩) (hrd : (evalOp Γ nv dst op).rd ⟨e,o,n⟩ = rd) (hc : c)
  (h : TrO Γ r (nv + 1) ⟨we ++ e,wo ++ o,n⟩ d (acc ++ [(gK g ++ rd,we.map (fun x=>.e x.1) ++ wo.map (fun x=>.o x.1),af)]) K t) :
  TrO Γ (⟨dst,op,g,af⟩ :: r) nv ⟨e,o,n⟩ d acc K t:=by
 intro x hx
 obtain ⟨h1,h2⟩:=h x hx
 have key : ((Ao Γ nv ⟨dst,op,g,af⟩).run ⟨e,o,n⟩).c ∧ ((Ao Γ nv ⟨dst,op,g,af⟩).run ⟨e,o,n⟩).we = we ∧ ((Ao Γ nv ⟨dst,op,g,af⟩).run ⟨e,o,n⟩).wo = wo ∧
   (Ao Γ nv ⟨dst,op,g,af⟩).rd ⟨e,o,n⟩ = gK g ++ rd:=by
  cases g with
  | none =>
   simp only [Ao,hu,hrd,gK]
   exact ⟨hc,trivial,trivial,rfl⟩
  | some p =>
   obtain ⟨tt,want⟩:=p
   have hg2 : (guardOf ((S.mk e o n).ge tt) want).2 = true ∧ (guardOf ((S.mk e o n).ge tt) want).1:=by
    simp only [gOn,Bn] at hg
    simp only [S.ge]
    generalize (look e tt).getD .top = dd at *
    cases dd <;> simp_all [guardOf]
    rename_i p dd
    cases dd <;> simp_all
   simp only [Ao,R.GZ,R.IH,hg2.1,if_true,R.run_bind,R.AP,R.run_pure,R.Ch,hu,hrd,gK]
   exact ⟨⟨hg2.2,hc⟩,trivial,trivial,by simp⟩
 obtain ⟨k1,k2,k3,k4⟩:=key
 have happ : (S.mk e o n).app ((Ao Γ nv ⟨dst,op,g,af⟩).run ⟨e,o,n⟩) = ⟨we ++ e,wo ++ o,n⟩:=by simp [S.app,k2,k3]
 refine ⟨fun hd=>.inl ⟨k1,by rw [happ]; exact h1 hd⟩,fun hd=>⟨⟨k1,by rw [happ]; exact (h2 hd).1⟩,?_⟩⟩
 have:=(h2 hd).2
 simp only [Cm,k2,k3,k4,happ]
 simpa using this
theorem WI {op : DOp} (hg : Iu e g = true)
  (h : TrO Γ r (nv + 1) ⟨(dst,.when false (.bool false)) :: e,o,n⟩ d (acc ++ [(gK g,[.e dst],af)]) K t) : TrO Γ (⟨some dst,op,g,af⟩ :: r) nv ⟨e,o,n⟩ d acc K t:=by
 intro x hx
 obtain ⟨h1,h2⟩:=h x hx
 cases g with
 | none=>cases hg
 | some p =>
  obtain ⟨tt,want⟩:=p
  have hg2 : (guardOf ((S.mk e o n).ge tt) want).2 = false ∧ (guardOf ((S.mk e o n).ge tt) want).1:=by
   simp only [Iu,Bn] at hg
   simp only [S.ge]
   generalize (look e tt).getD .top = dd at *
   cases dd with
   | bool b=>simp_all [guardOf]
   | when p dd =>
    cases dd with
    | bool b=>cases p <;> simp_all [guardOf]
    | _=>simp at hg
   | _=>simp at hg
  have hu : (Ao Γ nv ⟨some dst,op,some (tt,want),af⟩).run ⟨e,o,n⟩ = ⟨(guardOf ((S.mk e o n).ge tt) want).1,[(dst,.when false (.bool false))],[]⟩:=by
   simp [Ao,hg2.1,Ad]
  have hr : (Ao Γ nv ⟨some dst,op,some (tt,want),af⟩).rd ⟨e,o,n⟩ = [.e tt]:=by
   simp [Ao,hg2.1]
  refine ⟨fun hd=>.inl ⟨by rw [hu]; exact hg2.2,by rw [hu]; exact h1 hd⟩,fun hd=>⟨⟨by rw [hu]; exact hg2.2,by rw [hu]; exact (h2 hd).1⟩,?_⟩⟩
  have:=(h2 hd).2
  simp only [Cm,hu,hr]
  simpa [gK,S.app] using this
def Ee : List (Nat × D) → Nat → D → List (Nat × D)
 | [],_,_=>[]
 | (k,y) :: r,t,v=>bif Nat.beq t k then (k,v) :: r else (k,y) :: Ee r t v
theorem Dj : ∀ {e : List (Nat × D)} {x : Nat} {v : D},KN e x = some v → Ee e x v = e
 | [],_,_,h=>by cases h
 | (k,y) :: r,x,v,h=>by
  simp only [KN] at h
  simp only [Ee]
  cases hb : Nat.beq x k with
  | true =>
   rw [hb] at h
   cases h
   rfl
  | false =>
   rw [hb] at h
   simp only [cond_false] at h ⊢
   rw [Dj h]
theorem TQ {ops : List Av} (x : Nat) {b : Bool} (hx : KN e x = some (.bool b)) (h1 : TrO Γ ops nv ⟨Ee e x (.bool true),o,n⟩ d acc K t1) (h2 : TrO Γ ops nv ⟨Ee e x (.bool false),o,n⟩ d acc K t2) :
  TrO Γ ops nv ⟨e,o,n⟩ d acc K (bif b then t1 else t2):=by
 cases b with
 | true=>rw [Dj hx] at h1; exact h1
 | false=>rw [Dj hx] at h2; exact h2
variable {x y : Arg} {v w : D} {k k' : IntKind} {a b : Int} {s ty gi vi ii off m : Nat} {fz var : Bool} {es : List D} {z z' : D} {l l' : List α} {en : α → D}
attribute [local simp] evalOp Ad AH BE strip Jd
theorem BT (p q u w : Nat) : strip (.optr p q u w) = (true,.optr p q u w):=rfl
theorem CI (p : Bool) : strip (.bool p) = (true,.bool p):=rfl
theorem Yl (hg : gOn e g = true) (hx : Ac e x = some v) (h : TrO Γ r (nv + 1) ⟨(dst,v) :: e,o,n⟩ d (acc ++ [(gK g ++ rdK x,[.e dst],af)]) K t) :
  TrO Γ (⟨some dst,.mv x,g,af⟩ :: r) nv ⟨e,o,n⟩ d acc K t :=
 An hg (c:=True) (we:=[(dst,v)]) (wo:=[]) (rd:=rdK x) (by simp [hx]) (by simp) trivial h
theorem WA (hg : gOn e g = true) (hx : Ac e x = some v) (h : TrO Γ r (nv + 1) ⟨(dst,v) :: e,o,n⟩ d (acc ++ [(gK g ++ rdK x,[.e dst],af)]) K t) :
  TrO Γ (⟨some dst,.asg x none,g,af⟩ :: r) nv ⟨e,o,n⟩ d acc K t :=
 An hg (c:=True) (we:=[(dst,v)]) (wo:=[]) (rd:=rdK x) (by cases v <;> simp [hx]) (by cases v <;> simp [hx]) trivial h
theorem Rf (hg : gOn e g = true) (en : α → D) (hx : Ac e x = some .nils) (h : TrO Γ r (nv + 1) ⟨(dst,.osl dst nv 0 ([] : List α).length) :: e,(dst,some (nv,⟨false,false,s,ty,([] : List α).map en⟩)) :: o,n⟩ d (acc ++ [(gK g ++ rdK x,[.e dst,.o dst],af)]) K t) :
  TrO Γ (⟨some dst,.asg x (some (s,ty)),g,af⟩ :: r) nv ⟨e,o,n⟩ d acc K t :=
 An hg (c:=True) (we:=[(dst,.osl dst nv 0 0)]) (wo:=[(dst,some (nv,⟨false,false,s,ty,[]⟩))]) (rd:=rdK x) (by simp [hx]) (by simp [hx]) trivial h
theorem YB (hg : gOn e g = true) (hx : Ac e x = some (.sl es)) (h : TrO Γ r (nv + 1) ⟨(dst,.sl es) :: e,o,n⟩ d (acc ++ [(gK g ++ rdK x,[.e dst],af)]) K t) :
  TrO Γ (⟨some dst,.asg x (some (s,ty)),g,af⟩ :: r) nv ⟨e,o,n⟩ d acc K t :=
 An hg (c:=True) (we:=[(dst,.sl es)]) (wo:=[]) (rd:=rdK x) (by simp [hx]) (by simp [hx]) trivial h
theorem Rg {s' ty' q : Nat} (hq : q = l.length) (hg : gOn e g = true) (hx : Ac e x = some (.osl gi vi 0 q)) (ho : lkO o gi = some (vi,⟨false,false,s,ty,l.map en⟩))
  (h : TrO Γ r (nv + 1) ⟨(dst,.osl dst nv 0 l.length) :: e,(dst,some (nv,⟨false,false,s,ty,l.map en⟩)) :: (gi,none) :: o,n⟩ d (acc ++ [(gK g ++ (rdK x ++ [.o gi]),[.e dst,.o dst,.o gi],af)]) K t) (hrg : Aa gi = false:=by rfl) :
  TrO Γ (⟨some dst,.asg x (some (s',ty')),g,af⟩ :: r) nv ⟨e,o,n⟩ d acc K t :=
 An hg (c:=True) (we:=[(dst,.osl dst nv 0 l.length)]) (wo:=[(dst,some (nv,⟨false,false,s,ty,l.map en⟩)),(gi,none)]) (rd:=rdK x ++ [Key.o gi]) (by subst hq; simp [hx,ho,hrg,nmR,Dg]; exact List.take_of_length_le (by simp)) (by simp [hx,ho,hrg]) trivial h
def isB : Option D → Bool
 | some (.bool _)=>true
 | some (.when _ (.bool _))=>true
 | _=>false
theorem GS {x : Option D} (h : isB x = true) : ∃ (p q : Bool),strip (x.getD .top) = (p,.bool q):=by
 unfold isB at h
 split at h
 ·exact ⟨_,_,rfl⟩
 ·exact ⟨_,_,rfl⟩
 ·cases h
theorem Po {c : Arg} {p : Bool} (hg : gOn e g = true) (hc : Ac e c = some (.bool true)) (hx : Ac e x = some (.bool p)) (hy : isB (Ac e y) = true)
  (h : TrO Γ r (nv + 1) ⟨(dst,.bool p) :: e,o,n⟩ d (acc ++ [(gK g ++ (rdK c ++ (rdK x ++ rdK y)),[.e dst],af)]) K t) :
  TrO Γ (⟨some dst,.pick c x y,g,af⟩ :: r) nv ⟨e,o,n⟩ d acc K t:=by
 obtain ⟨b1,q,hq'⟩:=GS hy
 refine An hg (c:=True) (we:=[(dst,.bool p)]) (wo:=[]) (rd:=rdK c ++ (rdK x ++ rdK y)) ?_ ?_ trivial h
 ·simp only [evalOp,R.run_bind,Aq,hc,hx,hq',Option.getD_some,CI,R.run_pure,Ad]
  simp
 ·simp only [evalOp,R.AP,Aq,Bz,hc,hx,hq',Option.getD_some,CI,R.Ch,List.append_nil]
theorem OL {c : Arg} {p : Bool} (hg : gOn e g = true) (hc : Ac e c = some (.bool false)) (hx : isB (Ac e x) = true) (hy : Ac e y = some (.bool p))
  (h : TrO Γ r (nv + 1) ⟨(dst,.bool p) :: e,o,n⟩ d (acc ++ [(gK g ++ (rdK c ++ (rdK x ++ rdK y)),[.e dst],af)]) K t) :
  TrO Γ (⟨some dst,.pick c x y,g,af⟩ :: r) nv ⟨e,o,n⟩ d acc K t:=by
 obtain ⟨b1,q,hq'⟩:=GS hx
 refine An hg (c:=True) (we:=[(dst,.bool p)]) (wo:=[]) (rd:=rdK c ++ (rdK x ++ rdK y)) ?_ ?_ trivial h
 ·simp only [evalOp,R.run_bind,Aq,hc,hy,hq',Option.getD_some,CI,R.run_pure,Ad]
  simp
 ·simp only [evalOp,R.AP,Aq,Bz,hc,hy,hq',Option.getD_some,CI,R.Ch,List.append_nil]
theorem WG (hg : gOn e g = true) (h : TrO Γ r (nv + 1) ⟨(dst,.optr dst nv 0 0) :: e,(dst,some (nv,⟨false,true,s,ty,[z]⟩)) :: o,n⟩ d (acc ++ [(gK g ++ [],[.e dst,.o dst],af)]) K t) :
  TrO Γ (⟨some dst,.new z s ty,g,af⟩ :: r) nv ⟨e,o,n⟩ d acc K t :=
 An hg (c:=True) (we:=[(dst,.optr dst nv 0 0)]) (wo:=[(dst,some (nv,⟨false,true,s,ty,[z]⟩))]) (rd:=[]) (by simp) (by simp) trivial h
theorem WD (hg : gOn e g = true) (hx : Ac e x = some v) (hw : strip v = (true,v)) (hk : known v = true) (hl : (cells v).length = s)
  (h : TrO Γ r (nv + 1) ⟨(dst,.optr dst nv 0 0) :: e,(dst,some (nv,⟨false,true,s,ty,[v]⟩)) :: o,n⟩ d (acc ++ [(gK g ++ rdK x,[.e dst,.o dst],af)]) K t) :
  TrO Γ (⟨some dst,.box x s ty,g,af⟩ :: r) nv ⟨e,o,n⟩ d acc K t :=
 An hg (c:=True) (we:=[(dst,.optr dst nv 0 0)]) (wo:=[(dst,some (nv,⟨false,true,s,ty,[v]⟩))]) (rd:=rdK x) (by simp only [evalOp,R.run_bind,Aq,Option.getD_some,hx,hw,R.run_pure,hk,hl,Ad,AH,Option.getD_some]; simp) (by simp) trivial h
def DH (e : List (Nat × D)) : List (Nat × Nat × Arg) → List (Nat × Nat × D)
 | []=>[]
 | (a,b,x) :: r=>(a,b,(Ac e x).getD .top) :: DH e r
def CT : List (Nat × Nat × Arg) → List Key
 | []=>[]
 | (_,_,x) :: r=>rdK x ++ CT r
def Eg : Nat → List (Nat × Nat × D) → Bool
 | _,[]=>true
 | n,(off,s,d) :: r=>known d && (Nat.beq (cells d).length s && (Nat.ble (off + s) n && Eg n r))
theorem EM : ∀ {n : Nat} {l : List (Nat × Nat × D)},Eg n l = true → Ds n l
 | _,[],_=>trivial
 | n,(off,s,d) :: r,h=>by
  simp only [Eg,Bool.and_eq_true] at h
  exact ⟨h.1,Nat.eq_of_beq_eq_true h.2.1,Nat.le_of_ble_eq_true h.2.2.1,EM h.2.2.2⟩
theorem Et : ∀ parts : List (Nat × Nat × Arg),(BA parts).run ⟨e,o,n⟩ = DH e parts
 | []=>rfl
 | (a,b,x) :: r=>by simp [BA,DH,Et r]
theorem EV : ∀ parts : List (Nat × Nat × Arg),(BA parts).rd ⟨e,o,n⟩ = CT parts
 | []=>rfl
 | (a,b,x) :: r=>by simp [BA,CT,EV r]
theorem WC {zs cs : List D} {parts : List (Nat × Nat × Arg)} {ps : List (Nat × Nat × D)} (hg : gOn e g = true) (hp : DH e parts = ps) (hf : Eg zs.length ps = true) (hz : DE zs ps = cs)
  (h : TrO Γ r (nv + 1) ⟨(dst,.agg cs) :: e,o,n⟩ d (acc ++ [(gK g ++ CT parts,[.e dst],af)]) K t) :
  TrO Γ (⟨some dst,.bld zs parts,g,af⟩ :: r) nv ⟨e,o,n⟩ d acc K t :=
 An hg (c:=Ds zs.length ps) (we:=[(dst,.agg cs)]) (wo:=[]) (rd:=CT parts) (by simp [Et,hp,hz]) (by simp [EV]) (EM hf) h
def Hl (s len : Nat) (ps : List (Nat × D)) : Bool:=ps.all fun p=>known p.2 && (Nat.beq (cells p.2).length s && Nat.blt p.1 len)
theorem Xv {c : Prop} {len : Nat} {parts : List (Nat × Arg)} {ps : List (Nat × D)} {wo : List (Nat × Ab)} {rk : List Key} (l : List α) (en : α → D) (hg : gOn e g = true) (hr : (AV parts).run ⟨e,o,n⟩ = (c,ps,wo)) (hk : (AV parts).rd ⟨e,o,n⟩ = rk) (hc : c)
  (hp : Hl s len ps = true) (hes : Cb (List.replicate len z) ps = l.map en) (hlen : l.length = len)
  (h : TrO Γ r (nv + 1) ⟨(dst,.osl dst nv 0 l.length) :: e,(dst,some (nv,⟨false,false,s,ty,l.map en⟩)) :: (wo ++ o),n⟩ d (acc ++ [(gK g ++ rk,[.e dst,.o dst] ++ wo.map (fun x=>.o x.1),af)]) K t) :
  TrO Γ (⟨some dst,.bldS s ty z len parts,g,af⟩ :: r) nv ⟨e,o,n⟩ d acc K t:=by
 have h1 : ∀ p ∈ ps,known p.2 = true ∧ (cells p.2).length = s ∧ p.1 < len:=by
  intro p hp'
  have:=List.all_eq_true.1 hp p hp'
  simp only [Bool.and_eq_true] at this
  exact ⟨this.1,Nat.eq_of_beq_eq_true this.2.1,by simpa using this.2.2⟩
 subst hlen
 exact An hg (c:=c ∧ ∀ p ∈ ps,known p.2 = true ∧ (cells p.2).length = s ∧ p.1 < l.length) (we:=[(dst,.osl dst nv 0 l.length)]) (wo:=(dst,some (nv,⟨false,false,s,ty,l.map en⟩)) :: wo) (rd:=rk) (by simp [hr,hes]) (by simp [hk]) ⟨hc,h1⟩ (by simpa using h)
theorem Mt {i : Nat} {q : α} (h : l[i]? = some q) : (l.map en)[i]? = some (en q):=by simp [h]
theorem QO {agg : Bool} {i : Nat} (hg : gOn e g = true) (hx : Ac e x = some (.optr gi vi i off)) (ho : lkO o gi = some (vi,⟨fz,var,s,ty,es⟩)) (hz : es[i]? = some z) (hb : Nat.ble (off + m) (cells z).length = true) (hv : Je (cells z) off m agg = v)
  (h : TrO Γ r (nv + 1) ⟨(dst,v) :: e,o,n⟩ d (acc ++ [(gK g ++ (rdK x ++ [.o gi]),[.e dst],af)]) K t) (hpl : (plain v || !Aa gi) = true:=by rfl) :
  TrO Γ (⟨some dst,.ld m agg x,g,af⟩ :: r) nv ⟨e,o,n⟩ d acc K t:=by
 obtain ⟨hi,rfl⟩:=List.getElem?_eq_some_iff.1 hz
 have hb':=Nat.le_of_ble_eq_true hb
 have hgd : es.getD i .top = es[i]:=by simp [hi]
 refine An hg (c:=True) (we:=[(dst,v)]) (wo:=[]) (rd:=rdK x ++ [Key.o gi]) ?_ ?_ trivial h
 ·simp only [evalOp,R.run_bind,Aq,Option.getD_some,hx,strip,R.BB,AA,ho,Ad,hgd,hv]
  cases hrg : Aa gi with
  | false=>simp [hi,hb']
  | true=>cases v <;> first | (simp [hi,hb']; done) | (rw [hrg] at hpl; cases hpl)
 ·simp only [evalOp,R.AP,Aq,Bz,Option.getD_some,hx,strip,R.CA,AA,ho,hgd,hv]
  cases hrg : Aa gi with
  | false=>simp
  | true=>cases v <;> first | (simp; done) | (rw [hrg] at hpl; cases hpl)
theorem TB {agg : Bool} (hg : gOn e g = true) (hx : Ac e x = some (.fptr z off)) (hb : Nat.ble (off + m) (cells z).length = true) (hv : Je (cells z) off m agg = v)
  (h : TrO Γ r (nv + 1) ⟨(dst,v) :: e,o,n⟩ d (acc ++ [(gK g ++ rdK x,[.e dst],af)]) K t) :
  TrO Γ (⟨some dst,.ld m agg x,g,af⟩ :: r) nv ⟨e,o,n⟩ d acc K t:=by
 have hb':=Nat.le_of_ble_eq_true hb
 refine An hg (c:=True) (we:=[(dst,v)]) (wo:=[]) (rd:=rdK x) ?_ ?_ trivial h
 ·simp only [evalOp,R.run_bind,Aq,Option.getD_some,hx,strip,Jd,R.Bj,R.run_pure,Ad]
  simp [hb',hv]
 ·simp only [evalOp,R.AP,Aq,Bz,Option.getD_some,hx,strip,Jd,R.Dv,R.Ch]
  simp
theorem QP (hg : gOn e g = true) (hx : Ac e x = some (.optr gi vi 0 off)) (hy : Ac e y = some v) (hw : strip v = (true,v)) (ho : lkO o gi = some (vi,⟨false,true,s,ty,[z]⟩)) (hk : known v = true) (hl : (cells v).length = m)
  (hb : Nat.ble (off + m) (cells z).length = true) (hz : Lj z off (cells v) = z')
  (h : TrO Γ r (nv + 1) ⟨e,(gi,some (vi,⟨false,true,s,ty,[z']⟩)) :: o,n⟩ d (acc ++ [(gK g ++ (rdK x ++ (rdK y ++ [.o gi])),[.o gi],af)]) K t) (hrg : Aa gi = false:=by rfl) :
  TrO Γ (⟨none,.st m x y,g,af⟩ :: r) nv ⟨e,o,n⟩ d acc K t:=by
 have hb':=Nat.le_of_ble_eq_true hb
 refine An hg (c:=True) (we:=[]) (wo:=[(gi,some (vi,⟨false,true,s,ty,[z']⟩))]) (rd:=rdK x ++ (rdK y ++ [Key.o gi])) ?_ ?_ trivial h
 ·simp only [evalOp,R.run_bind,Aq,Option.getD_some,hx,hy,hw,BT,R.BB,AA,ho,R.Bj,hrg,Bool.false_eq_true,if_false,if_true,hk,hl]
  simp [hb',hz]
 ·simp only [evalOp,R.AP,Aq,Bz,Option.getD_some,hx,hy,hw,BT,R.CA,AA,ho,R.Dv,hrg,Bool.false_eq_true,if_false,if_true]
theorem Aaa {i : Nat} {q q' : α} {c : Prop} {v' : D} {wo : List (Nat × Ab)} {rk : List Key} (hg : gOn e g = true) (hx : Ac e x = some (.optr gi vi i off)) (hy : Ac e y = some v) (hw : strip v = (true,v)) (ho : lkO o gi = some (vi,⟨false,false,s,ty,l.map en⟩))
  (hr : (res v).run ⟨e,o,n⟩ = (c,v',wo)) (hrd : (res v).rd ⟨e,o,n⟩ = rk) (hc : c) (hi : l[i]? = some q) (hk : known v' = true) (hl : (cells v').length = m) (hb : Nat.ble (off + m) (cells (en q)).length = true)
  (hz : Lj (en q) off (cells v') = en q') (hwo : wo.all (fun x=>x.1 != gi) = true)
  (h : TrO Γ r (nv + 1) ⟨e,(gi,some (vi,⟨false,false,s,ty,(l.set i q').map en⟩)) :: (wo ++ o),n⟩ d (acc ++ [(gK g ++ (rdK x ++ (rdK y ++ (.o gi :: rk))),.o gi :: wo.map (fun x=>.o x.1),af)]) K t) (hrg : Aa gi = false:=by rfl) :
  TrO Γ (⟨none,.st m x y,g,af⟩ :: r) nv ⟨e,o,n⟩ d acc K t:=by
 have hb':=Nat.le_of_ble_eq_true hb
 obtain ⟨hi',rfl⟩:=List.getElem?_eq_some_iff.1 hi
 refine An hg (c:=True) (we:=[]) (wo:=(gi,some (vi,⟨false,false,s,ty,(l.set i q').map en⟩)) :: wo) (rd:=rdK x ++ (rdK y ++ (Key.o gi :: rk))) ?_ ?_ trivial (by simpa using h)
 ·simp only [evalOp,R.run_bind,Aq,Option.getD_some,hx,hy,hw,BT,R.BB,AA,ho,hrg,Bool.false_eq_true,if_false,hr,R.run_pure]
  have hq : (l.map en).getD i .top = en l[i]:=by simp [hi']
  rw [hq,hz]
  simp [hc,hi',hb',hk,hl,hwo,← List.map_set]
 ·simp only [evalOp,R.AP,Aq,Bz,Option.getD_some,hx,hy,hw,BT,R.CA,AA,ho,hrg,Bool.false_eq_true,if_false,hrd,hr,R.Ch]
  simp
theorem Zv (hg : gOn e g = true) (hx : Ac e x = some v) (hv : (match v with | .optr .. | .fptr ..=>true | _=>false) = true) (h : TrO Γ r (nv + 1) ⟨(dst,v) :: e,o,n⟩ d (acc ++ [(gK g ++ rdK x,[.e dst],af)]) K t) :
  TrO Γ (⟨some dst,.nilck x,g,af⟩ :: r) nv ⟨e,o,n⟩ d acc K t :=
 An hg (c:=True) (we:=[(dst,v)]) (wo:=[]) (rd:=rdK x) (by cases v <;> simp [hx] at hv ⊢) (by cases v <;> simp [hx] at hv ⊢) trivial h
theorem WB {op : BinOp} {c : Prop} (hg : gOn e g = true) (hx : Ac e x = some (.int k a)) (hy : Ac e y = some (.int k' b)) (hb : FG op (.int k a) (.int k' b) = (c,v)) (hc : c)
  (h : TrO Γ r (nv + 1) ⟨(dst,v) :: e,o,n⟩ d (acc ++ [(gK g ++ (rdK x ++ rdK y),[.e dst],af)]) K t) :
  TrO Γ (⟨some dst,.bin op x y,g,af⟩ :: r) nv ⟨e,o,n⟩ d acc K t :=
 An hg (c:=c) (we:=[(dst,v)]) (wo:=[]) (rd:=rdK x ++ rdK y) (by simp [hx,hy,hb]) (by simp) hc h
theorem IU {neg p q : Bool} (hg : gOn e g = true) (hx : Ac e x = some (.bool p)) (hy : Ac e y = some (.bool q))
  (h : TrO Γ r (nv + 1) ⟨(dst,.bool (if neg then !(p == q) else (p == q))) :: e,o,n⟩ d (acc ++ [(gK g ++ (rdK x ++ rdK y),[.e dst],af)]) K t) :
  TrO Γ (⟨some dst,.eqB neg x y,g,af⟩ :: r) nv ⟨e,o,n⟩ d acc K t :=
 An hg (c:=True) (we:=[(dst,.bool (if neg then !(p == q) else (p == q)))]) (wo:=[]) (rd:=rdK x ++ rdK y) (by simp [hx,hy]) (by simp [hx,hy]) trivial h
theorem JE {neg p : Bool} {c : Prop} {cs cs' : List D} (hg : gOn e g = true) (hx : Ac e x = some (.agg cs)) (hy : Ac e y = some (.agg cs')) (hq : eqL cs cs' = (c,p)) (hc : c) (hn : Nat.beq cs.length m = true)
  (h : TrO Γ r (nv + 1) ⟨(dst,.bool (if neg then !p else p)) :: e,o,n⟩ d (acc ++ [(gK g ++ (rdK x ++ rdK y),[.e dst],af)]) K t) :
  TrO Γ (⟨some dst,.eqA m neg x y,g,af⟩ :: r) nv ⟨e,o,n⟩ d acc K t:=by
 have hn':=Nat.eq_of_beq_eq_true hn
 exact An hg (c:=True) (we:=[(dst,.bool (if neg then !p else p))]) (wo:=[]) (rd:=rdK x ++ rdK y) (by simp [hx,hy,hq,hc,hn']) (by simp [hx,hy]) trivial h
theorem Ym {op : UnOp} {c : Prop} (hg : gOn e g = true) (hx : Ac e x = some v) (hw : strip v = (true,v)) (hb : unD op v = (c,w)) (hc : c)
  (h : TrO Γ r (nv + 1) ⟨(dst,w) :: e,o,n⟩ d (acc ++ [(gK g ++ rdK x,[.e dst],af)]) K t) :
  TrO Γ (⟨some dst,.un op x,g,af⟩ :: r) nv ⟨e,o,n⟩ d acc K t :=
 An hg (c:=c) (we:=[(dst,w)]) (wo:=[]) (rd:=rdK x) (by simp only [evalOp,R.run_bind,Aq,Option.getD_some,hx,hw,hb,R.run_pure,BE,Ad]; simp) (by simp) hc h
theorem Aca (hg : gOn e g = true) (hx : Ac e x = some (.int k' a)) (h : TrO Γ r (nv + 1) ⟨(dst,.int k (k.wrap a)) :: e,o,n⟩ d (acc ++ [(gK g ++ rdK x,[.e dst],af)]) K t) :
  TrO Γ (⟨some dst,.cvt k x,g,af⟩ :: r) nv ⟨e,o,n⟩ d acc K t :=
 An hg (c:=True) (we:=[(dst,.int k (k.wrap a))]) (wo:=[]) (rd:=rdK x) (by simp [hx]) (by simp [hx]) trivial h
theorem JG {bytes : Nat} {q : α} (en : α → D) (hg : gOn e g = true) (hx : Ac e x = some (.int k a)) (hy : Ac e y = some (.int k' a)) (hz : z = en q) (hl : 0 ≤ a ∧ a ≤ 16777216) (hby : Nat.ble bytes 65536 = true)
  (h : TrO Γ r (nv + 1) ⟨(dst,.osl dst nv 0 (List.replicate a.toNat q).length) :: e,(dst,some (nv,⟨false,false,s,ty,(List.replicate a.toNat q).map en⟩)) :: o,n⟩ d (acc ++ [(gK g ++ (rdK x ++ rdK y),[.e dst,.o dst],af)]) K t) :
  TrO Γ (⟨some dst,.mkS s ty bytes z x y,g,af⟩ :: r) nv ⟨e,o,n⟩ d acc K t:=by
 have:=Nat.le_of_ble_eq_true hby
 subst hz
 exact An hg (c:=True) (we:=[(dst,.osl dst nv 0 (List.replicate a.toNat q).length)]) (wo:=[(dst,some (nv,⟨false,false,s,ty,(List.replicate a.toNat q).map en⟩))]) (rd:=rdK x ++ rdK y) (by simp [hx,hy,hl,this]) (by simp [hx,hy]) trivial h
theorem Vh (hg : gOn e g = true) {i : Nat} (hx : Ac e x = some (.optr gi vi i off)) (h : TrO Γ r (nv + 1) ⟨(dst,.optr gi vi i (off + m)) :: e,o,n⟩ d (acc ++ [(gK g ++ rdK x,[.e dst],af)]) K t) :
  TrO Γ (⟨some dst,.fldA m x,g,af⟩ :: r) nv ⟨e,o,n⟩ d acc K t :=
 An hg (c:=True) (we:=[(dst,.optr gi vi i (off + m))]) (wo:=[]) (rd:=rdK x) (by simp [hx]) (by simp [hx]) trivial h
theorem YC (hg : gOn e g = true) (hx : Ac e x = some (.fptr z off)) (h : TrO Γ r (nv + 1) ⟨(dst,.fptr z (off + m)) :: e,o,n⟩ d (acc ++ [(gK g ++ rdK x,[.e dst],af)]) K t) :
  TrO Γ (⟨some dst,.fldA m x,g,af⟩ :: r) nv ⟨e,o,n⟩ d acc K t :=
 An hg (c:=True) (we:=[(dst,.fptr z (off + m))]) (wo:=[]) (rd:=rdK x) (by simp [hx]) (by simp [hx]) trivial h
theorem IV {cs : List D} {agg : Bool} (hg : gOn e g = true) (hx : Ac e x = some (.agg cs)) (hb : Nat.ble (off + m) cs.length = true) (hv : Je cs off m agg = v)
  (h : TrO Γ r (nv + 1) ⟨(dst,v) :: e,o,n⟩ d (acc ++ [(gK g ++ rdK x,[.e dst],af)]) K t) :
  TrO Γ (⟨some dst,.fld off m agg x,g,af⟩ :: r) nv ⟨e,o,n⟩ d acc K t:=by
 have hb':=Nat.le_of_ble_eq_true hb
 exact An hg (c:=True) (we:=[(dst,v)]) (wo:=[]) (rd:=rdK x) (by simp [hx,hb',hv]) (by simp [hx]) trivial h
theorem SB {q : α} (hg : gOn e g = true) (hx : Ac e x = some (.sl (l.map en))) (hy : Ac e y = some (.int k a)) (hi : ixO l a = some q) (hs : (cells (en q)).length = s)
  (h : TrO Γ r (nv + 1) ⟨(dst,.fptr (en q) 0) :: e,o,n⟩ d (acc ++ [(gK g ++ (rdK x ++ rdK y),[.e dst],af)]) K t) :
  TrO Γ (⟨some dst,.ixA s x y,g,af⟩ :: r) nv ⟨e,o,n⟩ d acc K t:=by
 obtain ⟨h0,h1,h2⟩:=Hn hi
 refine An hg (c:=True) (we:=[(dst,.fptr (en q) 0)]) (wo:=[]) (rd:=rdK x ++ rdK y) ?_ (by simp [hx,hy]) trivial h
 have hq : (l.map en).getD a.toNat .top = en q:=by simp [h2]
 simp only [evalOp,R.run_bind,Aq,Option.getD_some,hx,hy,strip,R.run_pure,Ad,hq,hs]
 simp [h0,h1]
theorem Tf {q : Nat} (hq : q = l.length) (hg : gOn e g = true) (hx : Ac e x = some (.osl gi vi 0 q)) (hy : Ac e y = some (.int k a)) (ho : lkO o gi = some (vi,⟨fz,false,s,ty,l.map en⟩)) (hi : 0 ≤ a ∧ a < l.length)
  (h : TrO Γ r (nv + 1) ⟨(dst,.optr gi vi a.toNat 0) :: e,o,n⟩ d (acc ++ [(gK g ++ (rdK x ++ (rdK y ++ [.o gi])),[.e dst],af)]) K t) :
  TrO Γ (⟨some dst,.ixA s x y,g,af⟩ :: r) nv ⟨e,o,n⟩ d acc K t:=by
 subst hq
 refine An hg (c:=True) (we:=[(dst,.optr gi vi a.toNat 0)]) (wo:=[]) (rd:=rdK x ++ (rdK y ++ [Key.o gi])) ?_ (by simp [hx,hy,ho]) trivial h
 simp only [evalOp,R.run_bind,Aq,Option.getD_some,hx,hy,strip,R.BB,AA,ho,R.Bj,Ad]
 simp [hi.1,hi.2]
theorem ZC {ds : List D} {i : Nat} (hg : gOn e g = true) (hx : Ac e x = some (.tup ds)) (hi : ds[i]? = some v) (h : TrO Γ r (nv + 1) ⟨(dst,v) :: e,o,n⟩ d (acc ++ [(gK g ++ rdK x,[.e dst],af)]) K t) :
  TrO Γ (⟨some dst,.ext x i,g,af⟩ :: r) nv ⟨e,o,n⟩ d acc K t:=by
 have hl:=(List.getElem?_eq_some_iff.1 hi).1
 exact An hg (c:=True) (we:=[(dst,v)]) (wo:=[]) (rd:=rdK x) (by have:=(List.getElem?_eq_some_iff.1 hi).2; simp [hx,hl,this]) (by simp [hx]) trivial h
theorem SC (hg : gOn e g = true) (hx : Ac e x = some (.sl (l.map en))) (h : TrO Γ r (nv + 1) ⟨(dst,.int .i64 l.length) :: e,o,n⟩ d (acc ++ [(gK g ++ rdK x,[.e dst],af)]) K t) :
  TrO Γ (⟨some dst,.len false x,g,af⟩ :: r) nv ⟨e,o,n⟩ d acc K t :=
 An hg (c:=True) (we:=[(dst,.int .i64 l.length)]) (wo:=[]) (rd:=rdK x) (by simp [hx]) (by simp [hx]) trivial h
theorem Tg {i q : Nat} (hg : gOn e g = true) (hx : Ac e x = some (.osl gi vi i q)) (h : TrO Γ r (nv + 1) ⟨(dst,.int .i64 q) :: e,o,n⟩ d (acc ++ [(gK g ++ rdK x,[.e dst],af)]) K t) :
  TrO Γ (⟨some dst,.len false x,g,af⟩ :: r) nv ⟨e,o,n⟩ d acc K t :=
 An hg (c:=True) (we:=[(dst,.int .i64 q)]) (wo:=[]) (rd:=rdK x) (by simp [hx]) (by simp [hx]) trivial h
theorem ZB {bytes : Nat} {c c' : Prop} {new old : List D} {wo : List (Nat × Ab)} {rk rk' : List Key} (l l' : List α) (en : α → D) (hg : gOn e g = true) (hx : Ac e x = some v) (hy : Ac e y = some w) (hvw : strip v = (true,v)) (hww : strip w = (true,w))
  (hv : (view w).run ⟨e,o,n⟩ = (c,new)) (hvr : (view w).rd ⟨e,o,n⟩ = rk) (hc : c) (hn : new = l'.map en)
  (ht : (target s ty v).run ⟨e,o,n⟩ = (c',old,wo,false)) (htr : (target s ty v).rd ⟨e,o,n⟩ = rk') (hc' : c') (ho : old = l.map en)
  (hs : ∀ q,(cells (en q)).length = s) (hby : Nat.ble bytes 65536 = true) (hl : l.length + l'.length ≤ 16777216)
  (h : TrO Γ r (nv + 1) ⟨(dst,.osl dst nv 0 (l ++ l').length) :: e,(dst,some (nv,⟨false,false,s,ty,(l ++ l').map en⟩)) :: (wo ++ o),n⟩ d (acc ++ [(gK g ++ (rdK x ++ (rdK y ++ (rk ++ rk'))),[.e dst,.o dst] ++ wo.map (fun x=>.o x.1),af)]) K t) :
  TrO Γ (⟨some dst,.app s ty bytes x y,g,af⟩ :: r) nv ⟨e,o,n⟩ d acc K t:=by
 have hb':=Nat.le_of_ble_eq_true hby
 subst hn; subst ho
 refine An hg (c:=True) (we:=[(dst,.osl dst nv 0 (l ++ l').length)]) (wo:=(dst,some (nv,⟨false,false,s,ty,(l ++ l').map en⟩)) :: wo) (rd:=rdK x ++ (rdK y ++ (rk ++ rk'))) ?_ ?_ trivial (by simpa using h)
 ·simp only [evalOp,R.run_bind,Aq,Option.getD_some,hx,hy,hvw,hww,source,hv,ht,R.run_pure,Ad,Dg,nmR,cond_false]
  simp [hc,hc',hl,hb',hs]
 ·simp only [evalOp,R.AP,Aq,Bz,Option.getD_some,hx,hy,hvw,hww,source,hv,hvr,htr,R.Ch]
  simp
theorem Afw (hg : gOn e g = true) (hx : Ac e x = some (.int k a)) (hy : Ac e y = some (.int k b)) (h : TrO Γ r (nv + 1) ⟨(dst,.int k (Uo a b)) :: e,o,n⟩ d (acc ++ [(gK g ++ (rdK x ++ rdK y),[.e dst],af)]) K t) :
  TrO Γ (⟨some dst,.min [x,y],g,af⟩ :: r) nv ⟨e,o,n⟩ d acc K t :=
 An hg (c:=True) (we:=[(dst,.int k (Uo a b))]) (wo:=[]) (rd:=rdK x ++ rdK y) (by simp [AF,hx,hy,FO]) (by simp [AF,hx,hy]) trivial h
theorem AaX {hi : Arg} (hg : gOn e g = true) (hx : Ac e x = some (.sl (l.map en))) (hy : Ac e hi = some (.int k a)) (hs : ∀ q,(cells (en q)).length = s) (hp : Nat.blt 0 s = true) (hl : 0 ≤ a ∧ a ≤ l.length)
  (h : TrO Γ r (nv + 1) ⟨(dst,.sl ((l.take a.toNat).map en)) :: e,o,n⟩ d (acc ++ [(gK g ++ (rdK x ++ rdK hi),[.e dst],af)]) K t) :
  TrO Γ (⟨some dst,.slc s x none (some hi),g,af⟩ :: r) nv ⟨e,o,n⟩ d acc K t:=by
 have hp' : 0 < s:=by simpa using hp
 refine An hg (c:=True) (we:=[(dst,.sl ((l.take a.toNat).map en))]) (wo:=[]) (rd:=rdK x ++ rdK hi) ?_ ?_ trivial h
 ·simp only [evalOp,R.run_bind,Aq,Option.getD_some,hx,hy,strip,BF,R.Bj,R.run_pure,BJ,fits,BQ,bound,BE,Ad]
  simp [hl,hs,hp',List.map_take]
 ·simp [BF,hx,hy,fits]
theorem AaB {lo : Arg} {q : Nat} (hq : q = l.length) (hg : gOn e g = true) (hx : Ac e x = some (.osl gi vi 0 q)) (hy : Ac e lo = some (.int k a)) (ho : lkO o gi = some (vi,⟨fz,var,s,ty,es⟩)) (hp : Nat.blt 0 s = true) (hl : 0 ≤ a ∧ a ≤ l.length)
  (h : TrO Γ r (nv + 1) ⟨(dst,.osl gi vi a.toNat (l.length - a.toNat)) :: e,o,n⟩ d (acc ++ [(gK g ++ (rdK x ++ (rdK lo ++ [.o gi])),[.e dst],af)]) K t) :
  TrO Γ (⟨some dst,.slc s x (some lo) none,g,af⟩ :: r) nv ⟨e,o,n⟩ d acc K t:=by
 subst hq
 have hp' : 0 < s:=by simpa using hp
 refine An hg (c:=True) (we:=[(dst,.osl gi vi a.toNat (l.length - a.toNat))]) (wo:=[]) (rd:=rdK x ++ (rdK lo ++ [Key.o gi])) ?_ ?_ trivial h
 ·simp only [evalOp,R.run_bind,Aq,Option.getD_some,hx,hy,strip,BF,R.Bj,R.run_pure,BJ,fits,R.BB,AA,ho,BQ,bound,BE,Ad]
  simp [hl,hp']
 ·simp [BF,hx,hy,fits,ho]
end
end Go.Dw
namespace Go.Dw
section
variable {A B : Type}
def Ka (ptr : List (Nat × (Nat × Nat))) (kind : Kind) (enc : A → List D) (dec : List D → A) (f : A → Option B) (encR : B → D) (encE : B → List D) : Spec where
 ptr:=ptr
 kind:=kind
 pre:=fun ds=>∃ a b,ds = enc a ∧ f a = some b
 res:=fun ds=>match f (dec ds) with | some b=>encR b | none=>.top
 eff:=fun ds=>match f (dec ds) with | some b=>encE b | none=>[]
variable {ptr : List (Nat × (Nat × Nat))} {kind : Kind} {enc : A → List D} {dec : List D → A} {f : A → Option B} {encR : B → D} {encE : B → List D} {a : A} {b : B}
theorem Bs (hde : ∀ a,dec (enc a) = a) (hf : f a = some b) : (Ka ptr kind enc dec f encR encE).res (enc a) = encR b:=by simp [Ka,hde,hf]
theorem Cg (hde : ∀ a,dec (enc a) = a) (hf : f a = some b) : (Ka ptr kind enc dec f encR encE).eff (enc a) = encE b:=by simp [Ka,hde,hf]
def Kr (ptr : List (Nat × (Nat × Nat))) (kind : Kind) (rs : List AM) (encR : B → D) (encE : B → List D) : B → Ar → S → Prop:=fun b e τ =>
 match e with
 | .exit _=>False
 | _=>Wk (BK ⟨ptr,kind,fun _=>True,fun _=>encR b,fun _=>encE b⟩ rs []) τ
theorem Kl {P : Program} {Γ : At} (hΓ : ∀ k sp,Γ k = some sp → JX P (k % 4096) sp) {k : Nat} {fn : Func} {dc : Kb} {rs : List AM} (hf : P.funcs[k]? = some fn) (hname : (fn.name == "runtime.NumGoroutine") = false)
  (hc : (fn.body.bind (Kc P fn.ntmps)) = some dc) (hr : fn.results.toList.mapM (Kp P) = some rs) {np : Nat} (hnp : np ≤ fn.ntmps) (hde : ∀ a,dec (enc a) = a) (hlen : ∀ a,(enc a).length = np) (hkeys : ∀ a,Bq ptr 0 (enc a) = ptr.map Prod.fst) (hptr : Ej ptr = true)
  (hT : ∀ a,TrE Γ dc (Kr ptr kind rs encR encE) ⟨CH ptr 0 (enc a),Cy ptr 0 (enc a),262144⟩ (f a)) (hni : BO kind = none:=by rfl) (hno : DG kind = none:=by rfl) : JX P k (Ka ptr kind enc dec f encR encE):=by
 refine HX hΓ hf hname hc hr hnp (by rintro ds ⟨a,b,rfl,_⟩; exact ⟨hlen a,hkeys a⟩) hptr ?_ hni hno
 rintro ds ⟨a,b,rfl,hb⟩ _
 have h:=hT a b hb
 refine h.mono fun τ0 h=>Bk _ _ _ _ (fun e τ hq=>?_) h
 have key : ∀ τ,BK ⟨ptr,kind,fun _=>True,fun _=>encR b,fun _=>encE b⟩ rs [] τ → BK (Ka ptr kind enc dec f encR encE) rs (enc a) τ:=by
  simp only [BK,Bs hde hb,Cg hde hb]
  exact fun _ h=>h
 cases e with
 | exit id=>exact hq.elim
 | normal=>exact hq.mono key
 | ret=>exact hq.mono key
end
def Ax (e : List (Nat × D)) : List Arg → List D
 | []=>[]
 | x :: r=>(Ac e x).getD .top :: Ax e r
def BP : List Arg → List Key
 | []=>[]
 | x :: r=>rdK x ++ BP r
section
variable {Γ : At} {X A B : Type} {K : KR X} {t : Option X} {e : List (Nat × D)} {o : List (Nat × Ab)} {n nv : Nat} {d : Bool} {acc : List DR}
 {r : List Av} {dst : Nat} {g : Option (Nat × Bool)} {af : List Nat} {α : Type}
 {ptr : List (Nat × (Nat × Nat))} {kind : Kind} {enc : A → List D} {dec : List D → A} {f : A → Option B} {encR : B → D} {encE : B → List D} {b : B}
 {fa : Arg} {args : List Arg} {caps : List D} {k : Nat} {c : Prop} {ds : List D} {w : List (Nat × Ab)} {ps : List (Nat × Nat × Own)} {rk : List Key} {s ty : Nat}
theorem Bu : ∀ args : List Arg,(AF args).run ⟨e,o,n⟩ = Ax e args
 | []=>rfl
 | x :: r=>by simp [AF,Ax,Bu r]
theorem CS : ∀ args : List Arg,(AF args).rd ⟨e,o,n⟩ = BP args
 | []=>rfl
 | x :: r=>by simp [AF,BP,CS r]
theorem Cu {sp : Spec} {dst : Option Nat} {c2 : Prop} {we : List (Nat × D)} {wo : List (Nat × Ab)} (hg : gOn e g = true) (hf : Ac e fa = some (.clo k caps)) (hΓ : Γ (k + 4096 * Bh (Ax e args)) = some sp) (hr : (Ah sp.ptr 0 (Ax e args ++ caps)).run ⟨e,o,n⟩ = (c,ds,w,ps))
  (hk : (Ah sp.ptr 0 (Ax e args ++ caps)).rd ⟨e,o,n⟩ = rk) (hco : AR dst nv sp c ds w ps = ⟨c2,we,wo⟩) (hc : c2)
  (h : TrO Γ r (nv + 1) ⟨we ++ e,wo ++ o,n⟩ d (acc ++ [(gK g ++ (rdK fa ++ (BP args ++ rk)),we.map (fun x=>.e x.1) ++ wo.map (fun x=>.o x.1),af)]) K t) (hin : BO sp.kind = none:=by rfl) (hkb : Nat.blt k 4096 = true:=by rfl) :
  TrO Γ (⟨dst,.call fa args,g,af⟩ :: r) nv ⟨e,o,n⟩ d acc K t:=by
 refine An hg (c:=c2) (we:=we) (wo:=wo) (rd:=rdK fa ++ (BP args ++ rk)) ?_ ?_ hc h
 ·simp only [evalOp,R.run_bind,BJ,Option.getD_some,hf,hkb,Bu,hΓ,hin,hr,R.run_pure,hco]
 ·simp only [evalOp,R.AP,BJ,ER,Option.getD_some,hf,hkb,Bu,hΓ,hin,CS,hr,hk,R.Ch,List.append_nil]
theorem YD {sp : Spec} {vi gi ty' m : Nat} {l l' : List Int} {fl : List Int → List Int} {fk : List Int → Nat} (hg : gOn e g = true) (hf : Ac e fa = some (.clo k caps)) (hΓ : Γ (k + 4096 * Bh (Ax e args)) = some sp) (hin : BO sp.kind = some (false,fl,fk))
  (hr : Ax e args ++ caps = [.osl gi vi 0 m]) (hm : m = l.length) (ho : lkO o gi = some (vi,⟨false,false,1,ty',l.map (.int .i64)⟩)) (hl : l.length < 4611686018427387904) (hfl : fl l = l')
  (h : TrO Γ r (nv + 1) ⟨(dst,.top) :: e,(gi,some (vi,⟨false,false,1,ty',l'.map (.int .i64)⟩)) :: o,n⟩ d (acc ++ [(gK g ++ (rdK fa ++ (BP args ++ [.o gi])),[.e dst,.o gi],af)]) K t) (hkb : Nat.blt k 4096 = true:=by rfl) :
  TrO Γ (⟨some dst,.call fa args,g,af⟩ :: r) nv ⟨e,o,n⟩ d acc K t:=by
 subst hm hfl
 have hd : (l.map (D.int .i64)).map De = l:=by simp [Function.comp_def,De]
 refine An hg (c:=True) (we:=[(dst,.top)]) (wo:=[(gi,some (vi,⟨false,false,1,ty',(fl l).map (.int .i64)⟩))]) (rd:=rdK fa ++ (BP args ++ [Key.o gi])) ?_ ?_ trivial ?_
 ·simp only [evalOp,R.run_bind,BJ,Option.getD_some,hf,hkb,Bu,hΓ,hin,hr,CY,R.BB,AA,ho,R.Bj]
  simp [Ad,hd,hl,List.take_of_length_le,AB,cells,plain]
 ·simp only [evalOp,R.AP,BJ,ER,Option.getD_some,hf,hkb,Bu,hΓ,hin,CS,hr,CY,R.CA,AA,ho,R.Dv]
 ·exact h
theorem Xx {sp : Spec} {vi gi ty' m : Nat} {l l' : List Int} {fl : List Int → List Int} {fk : List Int → Nat} (hg : gOn e g = true) (hf : Ac e fa = some (.clo k caps)) (hΓ : Γ (k + 4096 * Bh (Ax e args)) = some sp) (hin : BO sp.kind = some (true,fl,fk))
  (hr : Ax e args ++ caps = [.osl gi vi 0 m]) (hm : m = l.length) (ho : lkO o gi = some (vi,⟨false,false,1,ty',l.map (.int .i64)⟩)) (hl : l.length < 4611686018427387904) (hfl : (fl l).take (fk l) = l') (hfk : fk l = l'.length)
  (h : TrO Γ r (nv + 1) ⟨(dst,.osl gi vi 0 l'.length) :: e,(gi,some (vi,⟨false,false,1,ty',l'.map (.int .i64)⟩)) :: o,n⟩ d (acc ++ [(gK g ++ (rdK fa ++ (BP args ++ [.o gi])),[.e dst,.o gi],af)]) K t) (hkb : Nat.blt k 4096 = true:=by rfl) :
  TrO Γ (⟨some dst,.call fa args,g,af⟩ :: r) nv ⟨e,o,n⟩ d acc K t:=by
 subst hm hfl
 have hd : (l.map (D.int .i64)).map De = l:=by simp [Function.comp_def,De]
 refine An hg (c:=True) (we:=[(dst,.osl gi vi 0 ((fl l).take (fk l)).length)]) (wo:=[(gi,some (vi,⟨false,false,1,ty',((fl l).take (fk l)).map (.int .i64)⟩))]) (rd:=rdK fa ++ (BP args ++ [Key.o gi])) ?_ ?_ trivial ?_
 ·simp only [evalOp,R.run_bind,BJ,Option.getD_some,hf,hkb,Bu,hΓ,hin,hr,CY,R.BB,AA,ho,R.Bj]
  simp [Ad,hd,hl,List.take_of_length_le,AB,cells,plain]
  rw [List.length_take] at hfk
  exact ⟨hfk,by rw [List.drop_of_length_le (by simp),List.append_nil]⟩
 ·simp only [evalOp,R.AP,BJ,ER,Option.getD_some,hf,hkb,Bu,hΓ,hin,CS,hr,CY,R.CA,AA,ho,R.Dv]
 ·exact h
theorem Qo (a : A) (hg : gOn e g = true) (hf : Ac e fa = some (.clo k caps)) (hΓ : Γ (k + 4096 * Bh (Ax e args)) = some (Ka ptr .val enc dec f encR encE)) (hde : ∀ a,dec (enc a) = a) (hr : (Ah ptr 0 (Ax e args ++ caps)).run ⟨e,o,n⟩ = (c,ds,w,ps))
  (hk : (Ah ptr 0 (Ax e args ++ caps)).rd ⟨e,o,n⟩ = rk) (hc : c) (hds : ds = enc a) (hb : f a = some b)
  (h : TrO Γ r (nv + 1) ⟨(dst,encR b) :: e,(Ak ps (encE b) ++ w) ++ o,n⟩ d (acc ++ [(gK g ++ (rdK fa ++ (BP args ++ rk)),.e dst :: (Ak ps (encE b) ++ w).map (fun x=>.o x.1),af)]) K t) (hkb : Nat.blt k 4096 = true:=by rfl) :
  TrO Γ (⟨some dst,.call fa args,g,af⟩ :: r) nv ⟨e,o,n⟩ d acc K t:=by
 subst hds
 refine Cu (hkb:=hkb) hg hf hΓ (sp:=Ka ptr .val enc dec f encR encE) hr hk (c2:=c ∧ ∃ a' b',enc a = enc a' ∧ f a' = some b') (we:=[(dst,encR b)]) (wo:=Ak ps (encE b) ++ w) ?_ ⟨hc,a,b,rfl,hb⟩ h
 simp only [AR,Bs hde hb,Cg hde hb,Ad]
 rfl
theorem Io (a : A) (hg : gOn e g = true) (hf : Ac e fa = some (.clo k caps)) (hΓ : Γ (k + 4096 * Bh (Ax e args)) = some (Ka ptr .val enc dec f encR encE)) (hde : ∀ a,dec (enc a) = a) (hr : (Ah ptr 0 (Ax e args ++ caps)).run ⟨e,o,n⟩ = (c,ds,w,ps))
  (hk : (Ah ptr 0 (Ax e args ++ caps)).rd ⟨e,o,n⟩ = rk) (hc : c) (hds : ds = enc a) (hb : f a = some b)
  (h : TrO Γ r (nv + 1) ⟨e,(Ak ps (encE b) ++ w) ++ o,n⟩ d (acc ++ [(gK g ++ (rdK fa ++ (BP args ++ rk)),(Ak ps (encE b) ++ w).map (fun x=>.o x.1),af)]) K t) (hkb : Nat.blt k 4096 = true:=by rfl) :
  TrO Γ (⟨none,.call fa args,g,af⟩ :: r) nv ⟨e,o,n⟩ d acc K t:=by
 subst hds
 refine Cu (hkb:=hkb) hg hf hΓ (sp:=Ka ptr .val enc dec f encR encE) hr hk (c2:=c ∧ ∃ a' b',enc a = enc a' ∧ f a' = some b') (we:=[]) (wo:=Ak ps (encE b) ++ w) ?_ ⟨hc,a,b,rfl,hb⟩ h
 simp only [AR,Bs hde hb,Cg hde hb,Ad]
 rfl
theorem Om (a : A) (hg : gOn e g = true) (hf : Ac e fa = some (.clo k caps)) (hΓ : Γ (k + 4096 * Bh (Ax e args)) = some (Ka [] .ground enc dec f encR encE)) (hde : ∀ a,dec (enc a) = a) (hr : (Ah [] 0 (Ax e args ++ caps)).run ⟨e,o,n⟩ = (c,ds,w,ps))
  (hk : (Ah [] 0 (Ax e args ++ caps)).rd ⟨e,o,n⟩ = rk) (hc : c) (hds : ds = enc a) (hb : f a = some b) (hgr : isGround (encR b) = true)
  (h : TrO Γ r (nv + 1) ⟨(dst,encR b) :: e,o,n⟩ d (acc ++ [(gK g ++ (rdK fa ++ (BP args ++ rk)),[.e dst],af)]) K t) (hkb : Nat.blt k 4096 = true:=by rfl) :
  TrO Γ (⟨some dst,.call fa args,g,af⟩ :: r) nv ⟨e,o,n⟩ d acc K t:=by
 subst hds
 refine Cu (hkb:=hkb) hg hf hΓ (sp:=Ka [] .ground enc dec f encR encE) hr hk (c2:=c ∧ (∃ a' b',enc a = enc a' ∧ f a' = some b') ∧ isGround (encR b) = true ∧ ([] : List (Nat × (Nat × Nat))) = []) (we:=[(dst,encR b)]) (wo:=[]) ?_ ⟨hc,⟨a,b,rfl,hb⟩,hgr,rfl⟩ h
 simp only [AR,Bs hde hb,Ad]
 simp [Ka]
theorem Qn (a : A) {l : List α} {en : α → D} (hg : gOn e g = true) (hf : Ac e fa = some (.clo k caps)) (hΓ : Γ (k + 4096 * Bh (Ax e args)) = some (Ka ptr (.row s ty) enc dec f encR encE)) (hde : ∀ a,dec (enc a) = a) (hr : (Ah ptr 0 (Ax e args ++ caps)).run ⟨e,o,n⟩ = (c,ds,w,ps))
  (hk : (Ah ptr 0 (Ax e args ++ caps)).rd ⟨e,o,n⟩ = rk) (hc : c) (hds : ds = enc a) (hb : f a = some b) (hl : encR b = .sl (l.map en))
  (h : TrO Γ r (nv + 1) ⟨(dst,.osl dst nv 0 l.length) :: e,((dst,some (nv,⟨false,false,s,ty,l.map en⟩)) :: (Ak ps (encE b) ++ w)) ++ o,n⟩ d (acc ++ [(gK g ++ (rdK fa ++ (BP args ++ rk)),.e dst :: .o dst :: (Ak ps (encE b) ++ w).map (fun x=>.o x.1),af)]) K t) (hkb : Nat.blt k 4096 = true:=by rfl) :
  TrO Γ (⟨some dst,.call fa args,g,af⟩ :: r) nv ⟨e,o,n⟩ d acc K t:=by
 subst hds
 refine Cu (hkb:=hkb) hg hf hΓ (sp:=Ka ptr (.row s ty) enc dec f encR encE) hr hk (c2:=c ∧ (∃ a' b',enc a = enc a' ∧ f a' = some b') ∧ (some dst).isSome = true) (we:=[(dst,.osl dst nv 0 l.length)]) (wo:=(dst,some (nv,⟨false,false,s,ty,l.map en⟩)) :: (Ak ps (encE b) ++ w)) ?_ ⟨hc,⟨a,b,rfl,hb⟩,rfl⟩ h
 simp only [AR,Bs hde hb,Cg hde hb,hl,Ad,AH]
 simp [Ka]
theorem Xw (a : A) (hg : gOn e g = true) (hf : Ac e fa = some (.clo k caps)) (hΓ : Γ (k + 4096 * Bh (Ax e args)) = some (Ka ptr (.ptr s ty) enc dec f encR encE)) (hde : ∀ a,dec (enc a) = a) (hr : (Ah ptr 0 (Ax e args ++ caps)).run ⟨e,o,n⟩ = (c,ds,w,ps))
  (hk : (Ah ptr 0 (Ax e args ++ caps)).rd ⟨e,o,n⟩ = rk) (hc : c) (hds : ds = enc a) (hb : f a = some b)
  (h : TrO Γ r (nv + 1) ⟨(dst,.optr dst nv 0 0) :: e,((dst,some (nv,⟨false,true,s,ty,[encR b]⟩)) :: (Ak ps (encE b) ++ w)) ++ o,n⟩ d (acc ++ [(gK g ++ (rdK fa ++ (BP args ++ rk)),.e dst :: .o dst :: (Ak ps (encE b) ++ w).map (fun x=>.o x.1),af)]) K t) (hkb : Nat.blt k 4096 = true:=by rfl) :
  TrO Γ (⟨some dst,.call fa args,g,af⟩ :: r) nv ⟨e,o,n⟩ d acc K t:=by
 subst hds
 refine Cu (hkb:=hkb) hg hf hΓ (sp:=Ka ptr (.ptr s ty) enc dec f encR encE) hr hk (c2:=c ∧ (∃ a' b',enc a = enc a' ∧ f a' = some b') ∧ (some dst).isSome = true) (we:=[(dst,.optr dst nv 0 0)]) (wo:=(dst,some (nv,⟨false,true,s,ty,[encR b]⟩)) :: (Ak ps (encE b) ++ w)) ?_ ⟨hc,⟨a,b,rfl,hb⟩,rfl⟩ h
 simp only [AR,Bs hde hb,Cg hde hb,Ad,AH]
 simp [Ka]
theorem Aar (a : A) {q : Nat} {rs : List D} {z : D} (hg : gOn e g = true) (hf : Ac e fa = some (.clo k caps)) (hΓ : Γ (k + 4096 * Bh (Ax e args)) = some (Ka ptr (.tupPtr q s ty) enc dec f encR encE)) (hde : ∀ a,dec (enc a) = a) (hr : (Ah ptr 0 (Ax e args ++ caps)).run ⟨e,o,n⟩ = (c,ds,w,ps))
  (hk : (Ah ptr 0 (Ax e args ++ caps)).rd ⟨e,o,n⟩ = rk) (hc : c) (hds : ds = enc a) (hb : f a = some b) (hl : encR b = .tup rs) (hz : rs.getD q .top = z)
  (h : TrO Γ r (nv + 1) ⟨(dst,.tup (rs.set q (.optr dst nv 0 0))) :: e,((dst,some (nv,⟨false,true,s,ty,[z]⟩)) :: (Ak ps (encE b) ++ w)) ++ o,n⟩ d (acc ++ [(gK g ++ (rdK fa ++ (BP args ++ rk)),.e dst :: .o dst :: (Ak ps (encE b) ++ w).map (fun x=>.o x.1),af)]) K t) (hkb : Nat.blt k 4096 = true:=by rfl) :
  TrO Γ (⟨some dst,.call fa args,g,af⟩ :: r) nv ⟨e,o,n⟩ d acc K t:=by
 subst hds
 subst hz
 refine Cu (hkb:=hkb) hg hf hΓ (sp:=Ka ptr (.tupPtr q s ty) enc dec f encR encE) hr hk (c2:=c ∧ (∃ a' b',enc a = enc a' ∧ f a' = some b') ∧ (some dst).isSome = true) (we:=[(dst,.tup (rs.set q (.optr dst nv 0 0)))]) (wo:=(dst,some (nv,⟨false,true,s,ty,[rs.getD q .top]⟩)) :: (Ak ps (encE b) ++ w)) ?_ ⟨hc,⟨a,b,rfl,hb⟩,rfl⟩ h
 simp only [AR,Bs hde hb,Cg hde hb,hl,Ad,AH]
 simp [Ka]
theorem Acb {q : Nat} (hg : gOn e g = true) (hx : Ax e args = caps) (hc : ∀ d ∈ caps,Wz d = true)
  (h : TrO Γ r (nv + 1) ⟨(dst,.clo q caps) :: e,o,n⟩ d (acc ++ [(gK g ++ BP args,[.e dst],af)]) K t) : TrO Γ (⟨some dst,.mkf q args,g,af⟩ :: r) nv ⟨e,o,n⟩ d acc K t :=
 An hg (c:=∀ d ∈ caps,Wz d = true) (we:=[(dst,.clo q caps)]) (wo:=[]) (rd:=BP args) (by simp [evalOp,Bu,hx,Ad]) (by simp [evalOp,CS]) hc h
end
@[simp] theorem GG (g : Nat) : (Aa g = false) ↔ g < 4096:=by
 simp only [Aa]
 cases hb : Nat.ble 4096 g
 ·simp only [true_iff]; by_cases h : g < 4096
  ·exact h
  ·rw [Nat.ble_eq_true_of_le (by omega)] at hb; cases hb
 ·have:=Nat.le_of_ble_eq_true hb; simp; omega
@[simp] theorem IJ (g : Nat) : (Aa g = true) ↔ 4096 ≤ g:=by
 have:=GG g
 cases hb : Aa g <;> simp_all <;> omega
section
variable {B α : Type} {e : List (Nat × D)} {o : List (Nat × Ab)} {n np : Nat} {ptr : List (Nat × (Nat × Nat))} {encR : B → D} {encE : B → List D} {b : B} {r0 : AM} {rs : List AM}
 {ce c c1 : Prop} {effs ds : List D} {we w : List (Nat × Ab)} {d0 d1 : D} {s ty g : Nat}
theorem KC (he : (Bm ptr).run ⟨e,o,n⟩ = (ce,effs,we)) (hce : ce) (heff : effs = encE b) (hr : (Di r0).run ⟨e,o,n⟩ = (c,d0,w)) (hc : c) (hd : d0 = encR b) : TrX .ret (Kr ptr .val [r0] encR encE) ⟨e,o,n⟩ (some b):=by
 rintro _ ⟨⟩
 refine ⟨_,.refl _,?_⟩
 simp only [BK,he,hr]
 exact ⟨hce,heff,hc,hd⟩
theorem JZ (he : (Bm ptr).run ⟨e,o,n⟩ = (ce,effs,we)) (hce : ce) (heff : effs = encE b) (hr : (Di r0).run ⟨e,o,n⟩ = (c,d0,w)) (hc : c) (hd : d0 = encR b) : TrX .ret (Kr ptr .ground [r0] encR encE) ⟨e,o,n⟩ (some b):=by
 rintro _ ⟨⟩
 refine ⟨_,.refl _,?_⟩
 simp only [BK,he,hr]
 exact ⟨hce,heff,hc,hd⟩
theorem DP {_q : D → Prop} (h : rs.length ≠ 1) (hk : ce ∧ effs = encE b ∧ c ∧ .tup ds = encR b ∧ rs.length ≠ 1) (he : (Bm ptr).run ⟨e,o,n⟩ = (ce,effs,we)) (hr : (Ay rs).run ⟨e,o,n⟩ = (c,ds,w)) (kind : Kind) (hkind : kind = .val ∨ kind = .ground) :
  BK ⟨ptr,kind,fun _=>True,fun _=>encR b,fun _=>encE b⟩ rs [] ⟨e,o,n⟩:=by
 rcases hkind with rfl | rfl <;> (
  simp only [BK,he]
  refine ⟨hk.1,hk.2.1,?_⟩
  match rs,h,hr with
  | [],h,hr=>simp only [hr]; exact hk.2.2
  | [_],h,_=>exact (h rfl).elim
  | _ :: _ :: _,h,hr=>simp only [hr]; exact hk.2.2)
theorem NO (he : (Bm ptr).run ⟨e,o,n⟩ = (ce,effs,we)) (hce : ce) (heff : effs = encE b) (hr : (Ay rs).run ⟨e,o,n⟩ = (c,ds,w)) (hc : c) (hd : .tup ds = encR b) (hl : rs.length ≠ 1) : TrX .ret (Kr ptr .val rs encR encE) ⟨e,o,n⟩ (some b):=by
 rintro _ ⟨⟩
 refine ⟨_,.refl _,?_⟩
 exact DP (_q:=fun _=>True) hl ⟨hce,heff,hc,hd,hl⟩ he hr _ (.inl rfl)
theorem Mh (he : (Bm ptr).run ⟨e,o,n⟩ = (ce,effs,we)) (hce : ce) (heff : effs = encE b) (hr : (Ay rs).run ⟨e,o,n⟩ = (c,ds,w)) (hc : c) (hd : .tup ds = encR b) (hl : rs.length ≠ 1) : TrX .ret (Kr ptr .ground rs encR encE) ⟨e,o,n⟩ (some b):=by
 rintro _ ⟨⟩
 refine ⟨_,.refl _,?_⟩
 exact DP (_q:=fun _=>True) hl ⟨hce,heff,hc,hd,hl⟩ he hr _ (.inr rfl)
theorem Ku (he : (Bm ptr).run ⟨e,o,n⟩ = (ce,effs,we)) (hce : ce) (heff : effs = encE b) (hr : (Jc r0).run ⟨e,o,n⟩ = (c,d0)) (hc : c) (hs : (Dh false s ty d0).run ⟨e,o,n⟩ = (c1,d1,g)) (hc1 : c1) (hd : d1 = encR b) (hw : we.all (fun x=>x.1 != g) = true) :
  TrX .ret (Kr ptr (.row s ty) [r0] encR encE) ⟨e,o,n⟩ (some b):=by
 rintro _ ⟨⟩
 refine ⟨_,.refl _,?_⟩
 simp only [BK,he,hr,hs]
 exact ⟨hce,heff,hc,hc1,hd,hw⟩
theorem ZA (hr : (Jc r0).run ⟨e,o,n⟩ = (c,d0)) (hc : c) (hs : (BH s ty d0).run ⟨e,o,n⟩ = (c1,d1,w,g)) (hc1 : c1) (hd : d1 = encR b) (he : (Bm ptr).run ⟨e,o,n⟩ = (ce,effs,we)) (hce : ce) (heff : effs = encE b) (hrg : Aa g = false:=by rfl) :
  TrX .ret (Kr ptr (.ptr s ty) [r0] encR encE) ⟨e,o,n⟩ (some b):=by
 rintro _ ⟨⟩
 refine ⟨_,.refl _,?_⟩
 simp only [BK,he,hr,hs]
 exact ⟨hce,heff,hc,hc1,hd,hrg⟩
theorem AcC {q : Nat} {cA cB cP : Prop} {dA dB : List D} {dP dq : D} {wA wB wP : List (Nat × Ab)} (hq : q < rs.length) (hl : rs.length ≠ 1) (hA : (Ay (rs.take q)).run ⟨e,o,n⟩ = (cA,dA,wA)) (hcA : cA) (hB : (Ay (rs.drop (q + 1))).run ⟨e,o,n⟩ = (cB,dB,wB)) (hcB : cB)
  (hr : (Jc (rs.getD q (.t 0))).run ⟨e,o,n⟩ = (c,dq)) (hc : c) (hP : (BH s ty dq).run ⟨e,o,n⟩ = (cP,dP,wP,g)) (hcP : cP) (hd : .tup (dA ++ dP :: dB) = encR b) (he : (Bm []).run ⟨e,o,n⟩ = (ce,effs,we)) (hce : ce) (heff : effs = encE b) :
  TrX .ret (Kr [] (.tupPtr q s ty) rs encR encE) ⟨e,o,n⟩ (some b):=by
 rintro _ ⟨⟩
 refine ⟨_,.refl _,?_⟩
 have key : q < rs.length ∧ rs.length ≠ 1 ∧ True ∧ ((Ay (rs.take q)).run ⟨e,o,n⟩).1 ∧ ((Ay (rs.drop (q + 1))).run ⟨e,o,n⟩).1 ∧ ((Jc (rs.getD q (.t 0))).run ⟨e,o,n⟩).1 ∧ ((BH s ty ((Jc (rs.getD q (.t 0))).run ⟨e,o,n⟩).2).run ⟨e,o,n⟩).1 ∧
   .tup (((Ay (rs.take q)).run ⟨e,o,n⟩).2.1 ++ ((BH s ty ((Jc (rs.getD q (.t 0))).run ⟨e,o,n⟩).2).run ⟨e,o,n⟩).2.1 :: ((Ay (rs.drop (q + 1))).run ⟨e,o,n⟩).2.1) = encR b:=by
  rw [hA,hB,hr,hP]
  exact ⟨hq,hl,trivial,hcA,hcB,hc,hcP,hd⟩
 clear hA hB hr hP
 simp only [BK,he]
 refine ⟨hce,heff,?_⟩
 cases rs with
 | nil=>exact key
 | cons r0 rs=>cases rs <;> exact key
end
@[simp] theorem II (cs : List D) : cells (.agg cs) = cs:=rfl
def FC (e : List (Nat × D)) : List (Nat × D) → Prop
 | []=>True
 | (t,d) :: r=>(KN e t).getD .top = d ∧ FC e r
def FD (o : List (Nat × Ab)) : List (Nat × Ab) → Prop
 | []=>True
 | (g,x) :: r=>lkO o g = x ∧ FD o r
theorem FC.get {e : List (Nat × D)} : ∀ {E : List (Nat × D)},FC e E → ∀ p ∈ E,(KN e p.1).getD .top = p.2
 | [],_,p,hp=>by cases hp
 | q :: r,h,p,hp=>by
  cases hp with
  | head=>exact h.1
  | tail _ hp=>exact FC.get h.2 p hp
theorem FD.get {o : List (Nat × Ab)} : ∀ {O : List (Nat × Ab)},FD o O → ∀ p ∈ O,lkO o p.1 = p.2
 | [],_,p,hp=>by cases hp
 | q :: r,h,p,hp=>by
  cases hp with
  | head=>exact h.1
  | tail _ hp=>exact FD.get h.2 p hp
theorem TK {e E : List (Nat × D)} {o O : List (Nat × Ab)} {n : Nat} (hE : FC e E) (hO : FD o O) : Has ⟨e,o,n⟩ E O:=by
 refine ⟨n,?_⟩
 refine Chg.Ef (τ:=⟨E,O,n⟩) [] ⟨?_,?_,?_,Nat.le_refl _⟩ (.refl _)
 ·intro p hp; cases hp
 ·intro p hp
  refine .inl (.inl ?_)
  have:=hE.get p hp
  rw [Bn] at this
  exact this
 ·intro p hp
  refine .inl ?_
  have:=hO.get p hp
  simp only [S.gof,List.nil_append,AA]
  exact this
theorem Ss {x : D} {g v q q' : Nat} (h1 : x = .osl g v 0 q) (h2 : q = q') : x = .osl g v 0 q':=h2 ▸ h1
section
variable {e E : List (Nat × D)} {o O : List (Nat × Ab)} {n : Nat} {ws : List (Nat × Ab)} {α : Type}
def HI (e : List (Nat × D)) (o : List (Nat × Ab)) (n : Nat) (ws : List (Nat × Ab)) : List (Nat × D) → Prop
 | []=>True
 | (t,d) :: r=>Conv ⟨e,o,n⟩ ws ((KN e t).getD .top) d ∧ HI e o n ws r
def HJ (e : List (Nat × D)) (o : List (Nat × Ab)) (n : Nat) (ws : List (Nat × Ab)) : List (Nat × Ab) → Prop
 | []=>True
 | (g,x) :: r=>(lkO (ws ++ o) g = x ∨ ∃ v p z z',lkO (ws ++ o) g = some (v,p) ∧ p.var = true ∧ p.es = [z] ∧ x = some (v,{ p with es:=[z'] }) ∧ Conv ⟨e,o,n⟩ ws z z') ∧ HJ e o n ws r
def FzB (o : List (Nat × Ab)) : List (Nat × Ab) → Prop
 | []=>True
 | (g,x) :: r=>(∃ v p,lkO o g = some (v,p) ∧ p.var = false ∧ x = some (v,{ p with fz:=true })) ∧ FzB o r
theorem Yw (ws : List (Nat × Ab)) (hw : FzB o ws) (hE : HI e o n ws E) (hO : HJ e o n ws O) : Has ⟨e,o,n⟩ E O:=by
 refine ⟨n,?_⟩
 refine Chg.Ef (τ:=⟨E,O,n⟩) ws ⟨?_,?_,?_,Nat.le_refl _⟩ (.refl _)
 ·clear hE hO
  induction ws with
  | nil=>intro p hp; cases hp
  | cons q r ih =>
   intro p hp
   cases hp with
   | head =>
    obtain ⟨v,p,h1,h2,h3⟩:=hw.1
    exact ⟨v,p,by rw [AA]; exact h1,h2,h3⟩
   | tail _ hp=>exact ih hw.2 p hp
 ·clear hw hO
  induction E with
  | nil=>intro p hp; cases hp
  | cons q r ih =>
   intro p hp
   cases hp with
   | head =>
    have:=hE.1
    rw [Bn] at this
    exact this
   | tail _ hp=>exact ih hE.2 p hp
 ·clear hw hE
  induction O with
  | nil=>intro p hp; cases hp
  | cons q r ih =>
   intro p hp
   cases hp with
   | head =>
    simp only [S.gof,AA]
    exact hO.1
   | tail _ hp=>exact ih hO.2 p hp
theorem KQ {x d : D} (h : x = d) : Conv ⟨e,o,n⟩ ws x d:=.inl (.inl h)
theorem Aai {x d : D} (h : x = d) : CE ⟨e,o,n⟩ ws x d:=.inl h
theorem AcK {x : D} (en : α → D) (h : x = .nils) : CE ⟨e,o,n⟩ ws x (.sl (([] : List α).map en)):=by
 subst h
 exact .inr ⟨trivial,rfl,fun p hp=>by cases hp⟩
theorem XE {x : D} {g v q s ty : Nat} {fz : Bool} {l : List α} {en : α → D} (h : x = .osl g v 0 q) (hq : q = l.length) (ho : lkO o g = some (v,⟨fz,false,s,ty,l.map en⟩)) (hw : (g,some (v,(⟨true,false,s,ty,l.map en⟩ : Own))) ∈ ws) : CE ⟨e,o,n⟩ ws x (.sl (l.map en)):=by
 subst h; subst hq
 refine .inr ⟨?_,?_,?_⟩
 ·simp [AE,ho]
 ·simp [AE,ho]; exact List.take_of_length_le (by simp)
 ·intro p hp
  simp [AE,ho] at hp
  subst hp
  exact hw
theorem AcL {x d : D} (h : CE ⟨e,o,n⟩ ws x d) : Conv ⟨e,o,n⟩ ws x d:=.inl h
theorem Yu {x : D} {cs cs' : List D} (h : x = .agg cs) (hc : Dk ⟨e,o,n⟩ ws cs cs') : Conv ⟨e,o,n⟩ ws x (.agg cs'):=.inr ⟨cs,cs',h,rfl,hc⟩
end
@[simp] theorem Cn {α : Type} (en : α → D) (l : List α) : List.take l.length (l.map en) = l.map en:=List.take_of_length_le (by simp)
@[simp] theorem Km {α : Type} (en : α → D) (l : List α) (i : Nat) : List.take (l.length - i) (List.drop i (l.map en)) = (l.drop i).map en:=by
 rw [← List.map_drop]; exact List.take_of_length_le (by simp)
@[simp] theorem IA {α : Type} (en : α → D) (l : List α) (i : Nat) (y : D) : List.take l.length ((l.map en).set i y) = (l.map en).set i y:=List.take_of_length_le (by simp)
theorem Kh {α : Type} (en : α → D) (l : List α) : List.take l.length (List.drop 0 (l.map en)) = l.map en:=Cn en l
theorem Kn {α : Type} (en : α → D) (l : List α) {q : Nat} (h : q = l.length) : List.take q (List.drop 0 (l.map en)) = l.map en:=h ▸ Cn en l
theorem JS {α : Type} (en : α → D) (l : List α) {q : Nat} (h : q = l.length) : List.take q (l.map en) = l.map en:=h ▸ Cn en l
@[simp] theorem Iz {α : Type} (en : α → D) (l l' : List α) : List.take (l.length + l'.length) (l.map en ++ l'.map en) = l.map en ++ l'.map en:=List.take_of_length_le (by simp)
def cel (d : D) (i : Nat) : D:=match d with | .agg cs=>cs.getD i .top | .tup cs=>cs.getD i .top | _=>.top
def uI : D → Int | .int _ n=>n | _=>0
def uBo : D → Bool | .bool b=>b | _=>false
def uS : D → List UInt8 | .str s=>s | _=>[]
def uL {α : Type} (u : D → α) : D → List α | .sl es=>es.map u | _=>[]
abbrev eI (k : IntKind) (n : Int) : D:=.int k n
abbrev eBo (b : Bool) : D:=.bool b
abbrev eS (s : List UInt8) : D:=.str s
abbrev eL {α : Type} (en : α → D) (l : List α) : D:=.sl (l.map en)
@[simp] theorem LH {α : Type} {u : D → α} {en : α → D} (h : ∀ a,u (en a) = a) (l : List α) : uL u (.sl (l.map en)) = l:=by
 simp only [uL,List.map_map]
 conv=>rhs; rw [← List.map_id l]
 exact List.map_congr_left fun a _=>h a
end Go.Dw
namespace Go.Dw
open Go.ChangeShapes Go.WideShapes Go.ChangeAt Go.RowKit Go.Deep
def Sl (W : World) : Fz:=fun b i=>W.cell? ⟨b,i,none⟩
def Rep (W : World) (ds : List D) (cs : List Value) : Prop:=ds.length = cs.length ∧ (∀ v ∈ cs,v.oneCell' = true) ∧ ∀ (j : Nat) c v,ds[j]? = some c → cs[j]? = some v → Fro (Sl W) c v
structure Rd (P : Program) (W : World) {T : Type} (t : TypeId) (en : T → D) (Q : T → Prop) : Prop where
 rd : ∀ {H : Type} {enc : TypeId × Value → H} (n : Nat) (cs : List Value) (x : DataW H × List MemPlace),DataW.trod enc P W 0 (fun _=>true) true n t cs = some x → ∃ a,Q a ∧ Rep W (cells (en a)) cs
def Np (k : IntKind) (n : Int) : Prop:=k.min ≤ n ∧ n ≤ k.max
def IX {T : Type} (_ : T) : Prop:=True
def IY (s : List UInt8) : Prop:=s.length ≤ maxLen
def qL {T : Type} (q : T → Prop) (l : List T) : Prop:=l.length ≤ maxLen ∧ ∀ x ∈ l,q x
section
variable {P : Program} {W : World} {t e : TypeId}
theorem Rep.one {d : D} {v : Value} (h1 : v.oneCell' = true) (h : Fro (Sl W) d v) : Rep W [d] [v]:=by
 refine ⟨rfl,fun x hx=>?_,fun j c x hc hx=>?_⟩
 ·simp only [List.mem_singleton] at hx; subst hx; exact h1
 ·rcases j with _ | j
  ·simp only [List.getElem?_cons_zero,Option.some.injEq] at hc hx
   subst hc; subst hx; exact h
  ·simp at hc
theorem Rd.int {k : IntKind} (ht : P.underlying t = some (.int k)) : Rd P W t (D.int k) (fun n=>k.min ≤ n ∧ n ≤ k.max):=by
 refine ⟨fun n cs x h=>?_⟩
 cases n with
 | zero=>simp [DataW.trod] at h
 | succ n =>
  simp only [DataW.trod,ht] at h
  split at h <;> rename_i h1 <;> try (cases h1; done)
  all_goals try (cases h; done)
  cases h1
  split at h
  ·rename_i hc
   obtain ⟨rfl,hw⟩:=hc
   exact ⟨_,by simpa [Lit.wf] using hw,Rep.one rfl (.int _ _)⟩
  ·cases h
theorem Rd.bool (ht : P.underlying t = some .bool) : Rd P W t D.bool (fun _=>True):=by
 refine ⟨fun n cs x h=>?_⟩
 cases n with
 | zero=>simp [DataW.trod] at h
 | succ n =>
  simp only [DataW.trod,ht] at h
  split at h <;> rename_i h1 <;> try (cases h1; done)
  all_goals try (cases h; done)
  exact ⟨_,trivial,Rep.one rfl (.bool _)⟩
theorem Rd.str (ht : P.underlying t = some .string) : Rd P W t D.str (fun s=>s.length ≤ maxLen):=by
 refine ⟨fun n cs x h=>?_⟩
 cases n with
 | zero=>simp [DataW.trod] at h
 | succ n =>
  simp only [DataW.trod,ht] at h
  split at h <;> simp_all
  rename_i s
  exact ⟨s.data.toList,by simpa using h.1,Rep.one rfl (by have:=Fro.str (F:=Sl W) s.data.toList; simpa using this)⟩
theorem EI {a : Addr} {n : Nat} {cs : List Value} (h : W.cells? 0 a n = some cs) : cs.length = n ∧ ∀ i,i < n → W.cell? (a.add i) = cs[i]?:=by
 unfold World.cells? at h
 rw [if_pos (Nat.zero_le _)] at h
 have hl:=mapM_some_length h
 simp only [List.length_range] at hl
 exact ⟨hl,fun i hi=>mapM_some_get h i i (by simp [hi])⟩
theorem Hb {a : Addr} {v : Value} (h : W.cell? a = some v) : a = ⟨a.block,a.off,none⟩:=by
 unfold World.cell? at h
 split at h
 ·split at h
  ·cases h
  ·rename_i hs
   obtain ⟨b,o,s⟩:=a
   cases s with
   | none=>rfl
   | some s=>simp at hs
 ·cases h
theorem Rd.slice {T : Type} [Inhabited T] {en : T → D} {Q : T → Prop} (ht : P.underlying t = some (.slice e)) (hs : 0 < P.cellsOf e) (hc : ∀ a,(cells (en a)).length = P.cellsOf e) (he : Rd P W e en Q) :
  Rd P W t (eL en) (fun l=>l.length ≤ maxLen ∧ ∀ x ∈ l,Q x):=by
 refine ⟨fun n cs x h=>?_⟩
 rcases DataW.trod_slice ht h with ⟨rfl,_⟩ | ⟨a,len,cap,elems,rest,m,_,rfl,_,_,hl,hm,hlen,hel,_,_⟩
 ·exact ⟨[],⟨Nat.zero_le _,fun x hx=>by cases hx⟩,Rep.one rfl (.sl0 none 0)⟩
 ·have each : ∀ i,∃ p : T × List Value,i < len → W.cells? 0 (a.add (i * P.cellsOf e)) (P.cellsOf e) = some p.2 ∧ Q p.1 ∧ Rep W (cells (en p.1)) p.2:=by
   intro i
   by_cases hi : i < len
   ·have h1:=hel i hi
    have h2 : i < elems.length:=by omega
    rw [List.getElem?_eq_getElem h2,Option.bind_eq_some_iff] at h1
    obtain ⟨cs,h3,h4⟩:=h1
    obtain ⟨q,hq,hr⟩:=he.rd m cs _ h4
    exact ⟨(q,cs),fun _=>⟨h3,hq,hr⟩⟩
   ·exact ⟨(default,[]),fun h=>absurd h hi⟩
  obtain ⟨f,hf⟩:=Classical.axiomOfChoice each
  have hes : ((List.range len).map fun i=>(f i).1).length = len:=by simp
  refine ⟨(List.range len).map fun i=>(f i).1,⟨by rw [hes]; omega,fun x hx=>?_⟩,Rep.one rfl ?_⟩
  ·simp only [List.mem_map,List.mem_range] at hx
   obtain ⟨i,hi,rfl⟩:=hx
   exact (hf i hi).2.1
  ·by_cases h0 : len = 0
   ·subst h0
    exact .sl0 _ _
   ·have hget : ∀ (i j : Nat),i < len → j < P.cellsOf e → W.cell? ((a.add (i * P.cellsOf e)).add j) = (f i).2[j]?:=fun i j hi hj=>(EI (hf i hi).1).2 j hj
    have hlenc : ∀ i,i < len → (f i).2.length = P.cellsOf e:=fun i hi=>(EI (hf i hi).1).1
    have ha : a = ⟨a.block,a.off,none⟩:=by
     have h1:=hget 0 0 (by omega) hs
     have h2 : 0 < (f 0).2.length:=by rw [hlenc 0 (by omega)]; exact hs
     rw [List.getElem?_eq_getElem h2] at h1
     simp only [Nat.zero_mul,Addr.add,if_true] at h1
     exact Hb h1
    generalize a.block = b at ha
    generalize a.off = o at ha
    subst ha
    have hidx : ∀ (i : Nat) x,(((List.range len).map fun i=>(f i).1).map en)[i]? = some x → i < len ∧ x = en (f i).1:=by
     intro i x hx
     simp only [List.getElem?_map,Option.map_eq_some_iff] at hx
     obtain ⟨q,⟨r,hr,rfl⟩,rfl⟩:=hx
     obtain ⟨h1,h2⟩:=List.getElem?_eq_some_iff.1 hr
     simp only [List.getElem_range] at h2
     subst h2
     exact ⟨by simpa using h1,rfl⟩
    have key : ∀ (i j : Nat) x c,(((List.range len).map fun i=>(f i).1).map en)[i]? = some x → (cells x)[j]? = some c → i < len ∧ ∃ v,(f i).2[j]? = some v ∧ Sl W b (o + i * P.cellsOf e + j) = some v ∧ v.oneCell' = true ∧ Fro (Sl W) c v:=by
     intro i j x c hx hj
     obtain ⟨hi,rfl⟩:=hidx i x hx
     obtain ⟨_,_,r1,r2,r3⟩:=hf i hi
     have hjl : j < (cells (en (f i).1)).length:=(List.getElem?_eq_some_iff.1 hj).1
     have hjl' : j < (f i).2.length:=by rw [← r1]; exact hjl
     have hv:=List.getElem?_eq_getElem hjl'
     refine ⟨hi,_,hv,?_,r2 _ (List.getElem_mem hjl'),r3 j c _ hj hv⟩
     have:=hget i j hi (by rw [← hc (f i).1]; exact hjl)
     rw [Bv,Bv,hv] at this
     exact this
    have:=Fro.sl (F:=Sl W) (((List.range len).map fun i=>(f i).1).map en) b o cap (P.cellsOf e) (fun i j=>(f i).2.getD j undef) (by simpa using hl)
     (fun x hx=>by
      simp only [List.mem_map] at hx
      obtain ⟨q,_,rfl⟩:=hx
      exact hc q)
     (fun i j x c hx hj=>by
      obtain ⟨_,v,h1,h2,_⟩:=key i j x c hx hj
      rw [h2,List.getD_eq_getElem?_getD,h1]; rfl)
     (fun i j x c hx hj=>by
      obtain ⟨_,v,h1,_,h3,_⟩:=key i j x c hx hj
      rw [List.getD_eq_getElem?_getD,h1]; exact h3)
     (fun i j x c hx hj=>by
      obtain ⟨_,v,h1,_,_,h4⟩:=key i j x c hx hj
      rw [List.getD_eq_getElem?_getD,h1]; exact h4)
    rw [List.length_map,hes] at this
    exact this
theorem Rep.append {ds ds' : List D} {cs cs' : List Value} (h : Rep W ds cs) (h' : Rep W ds' cs') : Rep W (ds ++ ds') (cs ++ cs'):=by
 obtain ⟨h1,h2,h3⟩:=h
 obtain ⟨k1,k2,k3⟩:=h'
 refine ⟨by simp [h1,k1],fun v hv=>(List.mem_append.1 hv).elim (h2 v) (k2 v),fun j c v hc hv=>?_⟩
 by_cases hj : j < ds.length
 ·rw [List.getElem?_append_left hj] at hc
  rw [List.getElem?_append_left (by omega)] at hv
  exact h3 j c v hc hv
 ·rw [List.getElem?_append_right (by omega)] at hc
  rw [List.getElem?_append_right (by omega),← h1] at hv
  exact k3 _ c v hc hv
theorem HC {α : Type} (l : List α) (a b : Nat) : (l.drop a).take b ++ l.drop (a + b) = l.drop a:=by
 rw [← List.drop_drop,List.take_append_drop]
theorem Rd.Jb {T T0 : Type} {f0 : Field} {en : T → D} {e0 : T0 → D} {Q : T → Prop} {Q0 : T0 → Prop} (mk : T0 → T) (ht : P.underlying t = some (.struct #[f0])) (o0 : f0.offset = 0) (hsz : P.cellsOf t = P.cellsOf f0.type)
  (h0 : Rd P W f0.type e0 Q0) (hmk : ∀ a,cells (en (mk a)) = cells (e0 a)) (hQ : ∀ a,Q0 a → Q (mk a)) : Rd P W t en Q:=by
 refine ⟨fun n cs x h=>?_⟩
 obtain ⟨y0,m,_,hl,k0⟩:=trod_struct1 ht h
 obtain ⟨a,q0,r0⟩:=h0.rd m _ _ k0
 refine ⟨mk a,hQ a q0,?_⟩
 rw [hmk]
 rw [o0,List.drop_zero,← hsz,← hl,List.take_length] at r0
 exact r0
theorem Rd.IP {T T0 T1 : Type} {f0 f1 : Field} {en : T → D} {e0 : T0 → D} {e1 : T1 → D} {Q : T → Prop} {Q0 : T0 → Prop} {Q1 : T1 → Prop} (mk : T0 → T1 → T) (ht : P.underlying t = some (.struct #[f0,f1])) (o0 : f0.offset = 0) (o1 : f1.offset = P.cellsOf f0.type)
  (hsz : P.cellsOf t = P.cellsOf f0.type + P.cellsOf f1.type) (h0 : Rd P W f0.type e0 Q0) (h1 : Rd P W f1.type e1 Q1) (hmk : ∀ a b,cells (en (mk a b)) = cells (e0 a) ++ cells (e1 b)) (hQ : ∀ a b,Q0 a → Q1 b → Q (mk a b)) : Rd P W t en Q:=by
 refine ⟨fun n cs x h=>?_⟩
 obtain ⟨y0,y1,m,_,hl,k0,k1⟩:=trod_struct2 ht h
 obtain ⟨a,q0,r0⟩:=h0.rd m _ _ k0
 obtain ⟨b,q1,r1⟩:=h1.rd m _ _ k1
 refine ⟨mk a b,hQ a b q0 q1,?_⟩
 rw [hmk]
 have:=r0.append r1
 have e1 : List.take (P.cellsOf f1.type) (List.drop (P.cellsOf f0.type) cs) = List.drop (P.cellsOf f0.type) cs:=List.take_of_length_le (by simp; omega)
 rw [o0,o1,e1,List.drop_zero,List.take_append_drop] at this
 exact this
theorem Rd.IQ {T T0 T1 T2 : Type} {f0 f1 f2 : Field} {en : T → D} {e0 : T0 → D} {e1 : T1 → D} {e2 : T2 → D} {Q : T → Prop} {Q0 : T0 → Prop} {Q1 : T1 → Prop} {Q2 : T2 → Prop} (mk : T0 → T1 → T2 → T) (ht : P.underlying t = some (.struct #[f0,f1,f2]))
  (o0 : f0.offset = 0) (o1 : f1.offset = P.cellsOf f0.type) (o2 : f2.offset = P.cellsOf f0.type + P.cellsOf f1.type)
  (hsz : P.cellsOf t = P.cellsOf f0.type + P.cellsOf f1.type + P.cellsOf f2.type) (h0 : Rd P W f0.type e0 Q0) (h1 : Rd P W f1.type e1 Q1) (h2 : Rd P W f2.type e2 Q2)
  (hmk : ∀ a b c,cells (en (mk a b c)) = cells (e0 a) ++ (cells (e1 b) ++ cells (e2 c))) (hQ : ∀ a b c,Q0 a → Q1 b → Q2 c → Q (mk a b c)) : Rd P W t en Q:=by
 refine ⟨fun n cs x h=>?_⟩
 obtain ⟨y0,y1,y2,m,_,hl,k0,k1,k2⟩:=trod_struct3 ht h
 obtain ⟨a,q0,r0⟩:=h0.rd m _ _ k0
 obtain ⟨b,q1,r1⟩:=h1.rd m _ _ k1
 obtain ⟨c,q2,r2⟩:=h2.rd m _ _ k2
 refine ⟨mk a b c,hQ a b c q0 q1 q2,?_⟩
 rw [hmk]
 have:=r0.append (r1.append r2)
 have e2 : List.take (P.cellsOf f2.type) (List.drop (P.cellsOf f0.type + P.cellsOf f1.type) cs) = List.drop (P.cellsOf f0.type + P.cellsOf f1.type) cs:=List.take_of_length_le (by simp; omega)
 rw [o0,o1,o2,e2,HC,List.drop_zero,List.take_append_drop] at this
 exact this
theorem Rd.arg {T : Type} {en : T → D} {Q : T → Prop} (h : Rd P W t en Q) (hagg : ∀ a,(match P.underlying t with | some (.struct _) | some (.array _ _)=>True | _=>False) → ∃ cs,en a = .agg cs)
  (hone : ∀ a,¬ (match P.underlying t with | some (.struct _) | some (.array _ _)=>True | _=>False) → cells (en a) = [en a])
  {H : Type} {enc : TypeId × Value → H} {b0 : Nat} {v : Value} {d : DataW H} {p : List MemPlace} (hv : Value.okWide P W .any b0 t v) (hr : DataW.Trod enc P W 0 (fun _=>true) true t v d p) : ∃ a,Q a ∧ Fro (Sl W) (en a) v:=by
 obtain ⟨n,hn⟩:=hr
 obtain ⟨a,hq,r1,r2,r3⟩:=h.rd n _ _ hn
 refine ⟨a,hq,?_⟩
 by_cases hs : (match P.underlying t with | some (.struct _) | some (.array _ _)=>True | _=>False)
 ·obtain ⟨cs,hcs⟩:=hagg a hs
  have hva : ∃ C,v = .agg C:=by
   unfold Value.okWide at hv
   split at hv
   ·obtain ⟨C,rfl,_⟩:=hv; exact ⟨C,rfl⟩
   ·obtain ⟨C,rfl,_⟩:=hv; exact ⟨C,rfl⟩
   ·rename_i h1 h2
    split at hs
    ·rename_i fs hu; exact absurd hu (h1 fs)
    ·rename_i m e hu; exact absurd hu (h2 m e)
    ·exact hs.elim
  obtain ⟨C,rfl⟩:=hva
  rw [hcs] at r1 r3 ⊢
  simp only [Value.cells] at r1 r2 r3
  have:=Fro.agg (F:=Sl W) cs C.toList r1 r2 r3
  simpa using this
 ·have h1:=hone a hs
  have hva : ∃ x,v.cells.toList = [x] ∧ v = x:=by
   have hl : v.cells.toList.length = 1:=by rw [← r1,h1]; rfl
   cases v with
   | agg C =>
    exfalso
    unfold Value.okWide at hv
    split at hv
    ·rename_i fs hu; exact hs (by rw [hu]; trivial)
    ·rename_i m e hu; exact hs (by rw [hu]; trivial)
    ·unfold Cell.okWide at hv
     split at hv <;> first | (rename_i h1 h2; cases h2) | skip
     unfold Cell.ok at hv
     split at hv <;> first | (rename_i h1 h2; cases h2) | exact hv
   | _=>exact ⟨_,rfl,rfl⟩
  obtain ⟨x,hx,rfl⟩:=hva
  rw [h1] at r3
  exact r3 0 _ _ rfl (by rw [hx]; rfl)
end
end Go.Dw
namespace Go.Dw
open Go.ChangeShapes Go.WideShapes Go.ChangeAt Go.RowKit
section
variable {H : Type} {enc : TypeId × Value → H} {P : Program} {W W' : World}
theorem Hj (hb : ∀ b,b < W.heap.size → W'.heap[b]? = W.heap[b]?) {a : Addr} (h : a.block < W.heap.size) : W'.cell? a = W.cell? a:=by
 unfold World.cell?
 rw [hb _ h]
theorem GB (hb : ∀ b,b < W.heap.size → W'.heap[b]? = W.heap[b]?) {a : Addr} (h : a.block < W.heap.size) : W'.frozen? a = W.frozen? a:=by
 unfold World.frozen?
 rw [hb _ h]
theorem Hx (hb : ∀ b,b < W.heap.size → W'.heap[b]? = W.heap[b]?) {p : MemPlace} (h : p.block < W.heap.size) : W.sameAt W' p:=by
 cases p with
 | cell b off=>exact Hj hb h
 | map b=>exact hb b h
theorem DQ {sp : Nat → Bool} (K : Kids P (· < P.types.size)) (hz : ∀ t e,t < P.types.size → P.underlying t = some (.slice e) → 0 < P.cellsOf e) : ∀ {ts : List TypeId} {vs : List Value} {ds : List (DataW H)} {ps : List MemPlace},(∀ t ∈ ts,t < P.types.size) →
  DataW.TrodAll enc P W 0 (fun _=>true) true ts vs ds ps → (∀ p ∈ ps,W.sameAt W' p) → (∀ p ∈ ps,sp p.block = true) → DataW.TrodAll enc P W' 0 sp true ts vs ds ps
 | [],[],[],_,_,h,_,_=>h
 | _ :: _,_ :: _,_ :: _,_,hT,⟨p,q,⟨n,h1⟩,h2,e⟩,hs,hsp=>by
  subst e
  exact ⟨p,q,⟨n,DataW.trod_respare K hz n _ _ _ (hT _ (List.mem_cons.2 (Or.inl rfl))) (DataW.trod_carry n _ _ _ h1 (fun x hx=>hs x (List.mem_append_left _ hx))) (fun x hx=>hsp x (List.mem_append_left _ hx))⟩,
   DQ K hz (fun t ht=>hT t (List.mem_cons.2 (Or.inr ht))) h2 (fun x hx=>hs x (List.mem_append_right _ hx)) (fun x hx=>hsp x (List.mem_append_right _ hx)),rfl⟩
 | [],[],_ :: _,_,_,h,_,_=>h.elim
 | [],_ :: _,_,_,_,h,_,_=>h.elim
 | _ :: _,[],_,_,_,h,_,_=>h.elim
 | _ :: _,_ :: _,[],_,_,h,_,_=>h.elim
theorem Fv {f : Func} {s : ChangeSpec} {apart fresh handsOn again : Bool} {args : Array Value} {v : Value} {ds gs : List (DataW H)} {before : List MemPlace}
  (hW : DataW.Whole enc P f.params.toList s.vars apart W args.toList ds gs before) (hvs : s.vars = []) (K : Kids P (· < P.types.size)) (hz : ∀ t e,t < P.types.size → P.underlying t = some (.slice e) → 0 < P.cellsOf e) (hts : ∀ t ∈ f.params.toList,t < P.types.size)
  (hres : ∀ (b : Nat) (sp : Nat → Bool) (hd : Bool),DataW.TrodAll enc P W' b sp hd f.resultTypes.toList (v.resultList f.resultTypes.size) (s.fn H (ds ++ gs)).results [])
  (hargs : (s.fn H (ds ++ gs)).args = ds) (hvars : (s.fn H (ds ++ gs)).vars = []) (hos : W'.os = W.os) (hout : W'.output = W.output) (hb : ∀ b,b < W.heap.size → W'.heap[b]? = W.heap[b]?)
  (hok : ∀ (j : Nat) (t : TypeId) (r : Value),f.resultTypes[j]? = some t → (v.resultList f.resultTypes.size)[j]? = some r → Value.okWide P W' .any 0 t r) :
  s.post enc P f apart fresh handsOn again W args v W':=by
 have hW':=hW
 obtain ⟨p,q,hA,hV,e,hzz,hn⟩:=hW
 rw [hvs] at hV
 obtain ⟨rfl,rfl⟩:=trodVars_none hV
 subst e
 simp only [List.append_nil] at hW' hn hzz
 have hlt : ∀ x ∈ p,x.block < W.heap.size:=hW'.lt
 have hargs' : ∀ sp : Nat → Bool,(∀ x ∈ p,sp x.block = true) → DataW.TrodAll enc P W' 0 sp true f.params.toList args.toList (s.fn H (ds ++ [])).args p:=by
  intro sp hsp
  rw [hargs]
  exact DQ K hz hts hA (fun x hx=>Hx hb (hlt x hx)) hsp
 have hvars' : ∀ sp : Nat → Bool,DataW.TrodVars enc P W' sp s.vars (s.fn H (ds ++ [])).vars []:=by
  intro sp
  rw [hvs,hvars]
  exact (rfl : ([] : List MemPlace) = [])
 have hold : ∀ x ∈ p,(fun b=>decide (b < W.heap.size)) x.block = true:=fun x hx=>by simpa using hlt x hx
 refine ⟨ds,[],p,[],p,[],hW',hres _ _ _,hargs' _ hold,hvars' _,⟨hos,hout,fun i hi=>?_⟩,fun _=>?_⟩
 ·rw [hb i hi]
  cases W.heap[i]? with
  | none=>rfl
  | some o=>cases o <;> first | exact ⟨rfl,rfl,rfl,fun _ _=>rfl⟩ | exact .inr ⟨rfl,rfl⟩ | rfl
 ·refine ⟨hok,_,_,([] ++ p) ++ [],⟨[] ++ p,[],trodAll_append (hargs' _ (fun _ _=>rfl)) (hres _ _ _),hvars' _,rfl,?_,?_⟩,?_⟩
  ·intro b off hp
   have hp' : MemPlace.cell b off ∈ p:=by simpa using hp
   rw [GB hb (hlt _ hp')]
   exact hzz b off hp'
  ·intro ha
   have:=hn ha
   simpa using this
  ·intro x hp _
   simpa using hp
theorem Abx {k : Nat} {fn : Func} {A : Type} {enc0 : A → List D} {dec0 : List D → A} {f : A → Option Bool} {encR : Bool → D} {encE : Bool → List D} (hspec : JX P k (Ka [] .ground enc0 dec0 f encR encE)) (hde : ∀ a,dec0 (enc0 a) = a) (hR : encR true = .bool true)
  {s : ChangeSpec} {apart fresh handsOn again : Bool} {args : Array Value} {ds gs : List (DataW H)} {before : List MemPlace} (hW : DataW.Whole enc P fn.params.toList s.vars apart W args.toList ds gs before) (hvs : s.vars = [])
  (hl : laidOutB P = true) (hm : mapsRowed P = true) (hz : ((List.range P.types.size).all fun t=>match P.underlying t with | some (.slice e)=>decide (0 < P.cellsOf e) | _=>true) = true) (hts : fn.params.toList.all (fun t=>decide (t < P.types.size)) = true)
  {tb : TypeId} (hrt : fn.resultTypes = #[tb]) (htb : P.underlying tb = some .bool) (hfn : ∀ ds : List (DataW H),ds.length = fn.params.size → s.fn H ds = { results:=[.lit (.bool true)],args:=ds,vars:=[] }) (hlen : ds.length = fn.params.size)
  (hglob : Yr P (Sl W)) (hread : ∃ a,Bx (Sl W) W [] 0 (enc0 a) args.toList [] ∧ f a = some true) :
  Calls P k args W fun e W'=>∃ v,e = .returned v ∧ s.post enc P fn apart fresh handsOn again W args v W':=by
 obtain ⟨a,hA,hfa⟩:=hread
 have hgs : gs = []:=by
  obtain ⟨p,q,_,hV,_⟩:=hW
  rw [hvs] at hV
  exact (trodVars_none hV).1
 subst hgs
 have hF : Fok (Sl W) W:=fun b i x h=>h
 have hfin : ∀ b i x,Sl W b i = some x → b < W.heap.size:=by
  intro b i x h
  simp only [Sl,World.cell?] at h
  split at h
  ·rename_i hb
   exact (Array.getElem?_eq_some_iff.1 hb).1
  ·cases h
 have h:=(hspec (Sl W) hglob).2.2.1 rfl rfl W (Sl W) (enc0 a) args.toList [] (Af.refl _) hF hfin hA ⟨a,true,rfl,hfa⟩
 have e0 : args.toList.toArray = args:=by simp
 rw [e0] at h
 refine h.mono fun e W' hq=>?_
 obtain ⟨v,F',_,_,rfl,_,_,hst,hres,_⟩:=hq
 have hv : v = .bool true:=by
  have h1 : Fro F' ((Ka [] .ground enc0 dec0 f encR encE).res (enc0 a)) v:=hres
  rw [Bs hde hfa,hR] at h1
  cases h1
  rfl
 subst hv
 refine ⟨_,rfl,Fv hW hvs (kids_rows hl hm) (slices_full_of P hz) (fun t ht=>by simpa using List.all_eq_true.1 hts t ht) ?_ ?_ ?_ hst.os hst.output (fun b hb=>hst.block b hb (fun ⟨_,hm,_⟩=>by cases hm)) ?_⟩
 ·intro b sp hd
  rw [List.append_nil,hfn ds hlen,hrt]
  exact trodAll_cons_mk (p:=[]) (p':=[]) (shut_bool htb true) trodAll_mk0
 ·rw [List.append_nil,hfn ds hlen]
 ·rw [List.append_nil,hfn ds hlen]
 ·exact ok_one hrt rfl (okWide_bool_mk htb true)
end
end Go.Dw
namespace Go.Dw
abbrev eR {α : Type} (s ty : Nat) (en : α → D) (l : List α) : D:=.row s ty (l.map en)
def uR {α : Type} (u : D → α) : D → List α | .row _ _ es=>es.map u | _=>[]
@[simp] theorem Ja {α : Type} {u : D → α} {en : α → D} (h : ∀ a,u (en a) = a) (s ty : Nat) (l : List α) : uR u (.row s ty (l.map en)) = l:=by
 simp only [uR,List.map_map]
 conv=>rhs; rw [← List.map_id l]
 exact List.map_congr_left fun a _=>h a
theorem Js {α : Type} {l : List α} {en : α → D} (h : ∀ q,AB (en q) = true) : ∀ e ∈ l.map en,AB e = true:=fun e he=>by
 obtain ⟨q,_,rfl⟩:=List.mem_map.1 he
 exact h q
section
variable {Γ : At} {X : Type} {K : KR X} {t : Option X} {e : List (Nat × D)} {o : List (Nat × Ab)} {n nv : Nat} {d : Bool} {acc : List DR}
 {r : List Av} {dst : Nat} {g : Option (Nat × Bool)} {af : List Nat} {α : Type}
variable {x y : Arg} {v w : D} {k k' : IntKind} {a b : Int} {s ty gi vi ii off m : Nat} {fz var : Bool} {es es' : List D} {z z' : D} {l l' : List α} {en : α → D}
theorem Ti {i : Nat} {c : Prop} {cs' : List D} {wo : List (Nat × Ab)} {rk : List Key} (hg : gOn e g = true) (hx : Ac e x = some (.optr gi vi i off)) (hy : Ac e y = some v) (hw : strip v = (true,v)) (ho : lkO o gi = some (vi,⟨false,var,s,ty,es⟩))
  (hr : (AD var (cells v)).run ⟨e,o,n⟩ = (c,cs',wo)) (hrd : (AD var (cells v)).rd ⟨e,o,n⟩ = rk) (hc : c) (hz : es[i]? = some z) (hk : known v = true) (hl : (cells v).length = m) (hb : Nat.ble (off + m) (cells z).length = true)
  (hes : es.set i (Lj z off cs') = es') (hwo : wo.all (fun x=>x.1 != gi) = true)
  (h : TrO Γ r (nv + 1) ⟨e,(gi,some (vi,⟨false,var,s,ty,es'⟩)) :: (wo ++ o),n⟩ d (acc ++ [(gK g ++ (rdK x ++ (rdK y ++ (.o gi :: rk))),.o gi :: wo.map (fun x=>.o x.1),af)]) K t) (hrg : Aa gi = true:=by rfl) :
  TrO Γ (⟨none,.st m x y,g,af⟩ :: r) nv ⟨e,o,n⟩ d acc K t:=by
 have hb':=Nat.le_of_ble_eq_true hb
 obtain ⟨hi',rfl⟩:=List.getElem?_eq_some_iff.1 hz
 have hgd : es.getD i .top = es[i]:=by simp [hi']
 refine An hg (c:=True) (we:=[]) (wo:=(gi,some (vi,⟨false,var,s,ty,es'⟩)) :: wo) (rd:=rdK x ++ (rdK y ++ (Key.o gi :: rk))) ?_ ?_ trivial (by simpa using h)
 ·simp only [evalOp,R.run_bind,Aq,Option.getD_some,hx,hy,hw,BT,R.BB,AA,ho,hrg,if_true,R.Bj,hr,hgd,hes]
  simp [hc,hi',hb',hk,hl,hwo]
 ·simp only [evalOp,R.AP,Aq,Bz,Option.getD_some,hx,hy,hw,BT,R.CA,AA,ho,hrg,if_true,R.Dv,hrd,hr]
  simp
theorem HE {i s0 ty0 : Nat} {es0 es0' : List D} (l : List α) (en : α → D) (hg : gOn e g = true) (hx : Ac e x = some (.optr gi vi i off)) (ho : lkO o gi = some (vi,⟨false,var,s0,ty0,es0⟩)) (hz : es0[i]? = some z) (hb : Nat.ble (off + 1) (cells z).length = true)
  (hv : Je (cells z) off 1 false = .row s ty (l.map en)) (hes : es0.set i (Lj z off [.hole (4096 + dst) nv l.length]) = es0')
  (h : TrO Γ r (nv + 1) ⟨(dst,.osl (4096 + dst) nv 0 l.length) :: e,(4096 + dst,some (nv,⟨false,false,s,ty,l.map en⟩)) :: (gi,some (vi,⟨false,var,s0,ty0,es0'⟩)) :: o,n⟩ d (acc ++ [(gK g ++ (rdK x ++ [.o gi]),[.e dst,.o (4096 + dst),.o gi],af)]) K t)
  (hrg : Aa gi = true:=by rfl) (hne : Nat.beq gi (4096 + dst) = false:=by rfl) :
  TrO Γ (⟨some dst,.ld 1 false x,g,af⟩ :: r) nv ⟨e,o,n⟩ d acc K t:=by
 obtain ⟨hi,rfl⟩:=List.getElem?_eq_some_iff.1 hz
 have hb':=Nat.le_of_ble_eq_true hb
 have hgd : es0.getD i .top = es0[i]:=by simp [hi]
 have hne' : gi ≠ 4096 + dst:=fun e=>by subst e; simp at hne
 refine An hg (c:=True) (we:=[(dst,.osl (4096 + dst) nv 0 l.length)]) (wo:=[(4096 + dst,some (nv,⟨false,false,s,ty,l.map en⟩)),(gi,some (vi,⟨false,var,s0,ty0,es0'⟩))]) (rd:=rdK x ++ [Key.o gi]) ?_ ?_ trivial h
 ·simp only [evalOp,R.run_bind,Aq,Option.getD_some,hx,strip,R.BB,AA,ho,Ad,hgd,hv,hrg]
  simp [hi,hb',hne',hes]
 ·simp only [evalOp,R.AP,Aq,Bz,Option.getD_some,hx,strip,R.CA,AA,ho,hgd,hv,hrg]
  simp
theorem Jl {i nm u q s0 ty0 : Nat} {es0 : List D} (hg : gOn e g = true) (hx : Ac e x = some (.optr gi vi i 0)) (ho : lkO o gi = some (vi,⟨false,var,s0,ty0,es0⟩)) (hz : es0[i]? = some (.hole nm u q))
  (h : TrO Γ r (nv + 1) ⟨(dst,.osl nm u 0 q) :: e,o,n⟩ d (acc ++ [(gK g ++ (rdK x ++ [.o gi]),[.e dst],af)]) K t) (hrg : Aa gi = true:=by rfl) :
  TrO Γ (⟨some dst,.ld 1 false x,g,af⟩ :: r) nv ⟨e,o,n⟩ d acc K t:=by
 obtain ⟨hi,he⟩:=List.getElem?_eq_some_iff.1 hz
 have hgd : es0.getD i .top = .hole nm u q:=by simp [hi,he]
 refine An hg (c:=True) (we:=[(dst,.osl nm u 0 q)]) (wo:=[]) (rd:=rdK x ++ [Key.o gi]) ?_ ?_ trivial h
 ·simp only [evalOp,R.run_bind,Aq,Option.getD_some,hx,strip,R.BB,AA,ho,Ad,hgd,hrg]
  simp [hi,cells,Je]
 ·simp only [evalOp,R.AP,Aq,Bz,Option.getD_some,hx,strip,R.CA,AA,ho,hgd,hrg]
  simp [cells,Je]
theorem Ju {i s0 ty0 : Nat} {l : List (List α)} {q : List α} (en : α → D) (hg : gOn e g = true) (hx : Ac e x = some (.optr gi vi i 0)) (ho : lkO o gi = some (vi,⟨false,false,s0,ty0,l.map (eR s ty en)⟩)) (hi : l[i]? = some q)
  (h : TrO Γ r (nv + 1) ⟨(dst,.osl (4096 + dst) nv 0 q.length) :: e,(4096 + dst,some (nv,⟨false,false,s,ty,q.map en⟩)) :: (gi,some (vi,⟨false,false,s0,ty0,(l.map (eR s ty en)).set i (.hole (4096 + dst) nv q.length)⟩)) :: o,n⟩ d (acc ++ [(gK g ++ (rdK x ++ [.o gi]),[.e dst,.o (4096 + dst),.o gi],af)]) K t)
  (hrg : Aa gi = true:=by rfl) (hne : Nat.beq gi (4096 + dst) = false:=by rfl) :
  TrO Γ (⟨some dst,.ld 1 false x,g,af⟩ :: r) nv ⟨e,o,n⟩ d acc K t :=
 HE (i:=i) (z:=eR s ty en q) q en hg hx ho (by simp [hi]) rfl rfl rfl h hrg hne
theorem Jk {q : Nat} {es : List D} (hq : es.length = q) (hg : gOn e g = true) (hx : Ac e x = some (.osl gi vi 0 q)) (hy : Ac e y = some (.int k a)) (ho : lkO o gi = some (vi,⟨fz,false,s,ty,es⟩)) (hi : 0 ≤ a ∧ a < q)
  (h : TrO Γ r (nv + 1) ⟨(dst,.optr gi vi a.toNat 0) :: e,o,n⟩ d (acc ++ [(gK g ++ (rdK x ++ (rdK y ++ [.o gi])),[.e dst],af)]) K t) :
  TrO Γ (⟨some dst,.ixA s x y,g,af⟩ :: r) nv ⟨e,o,n⟩ d acc K t:=by
 subst hq
 refine An hg (c:=True) (we:=[(dst,.optr gi vi a.toNat 0)]) (wo:=[]) (rd:=rdK x ++ (rdK y ++ [Key.o gi])) ?_ (by simp [evalOp,strip,R.CA,AA,hx,hy,ho]) trivial h
 simp only [evalOp,R.run_bind,Aq,Option.getD_some,hx,hy,strip,R.BB,AA,ho,R.Bj,Ad]
 simp [hi.1,hi.2]
theorem Jm {i g' v' m s0 ty0 : Nat} {l : List (List α)} {q q' : List α} {es : List D} {c : Prop} {cs' : List D} {wo : List (Nat × Ab)} {rk : List Key} (en : α → D) (hg : gOn e g = true) (hx : Ac e x = some (.optr gi vi i 0)) (hy : Ac e y = some (.osl g' v' 0 m)) (ho : lkO o gi = some (vi,⟨false,false,s0,ty0,es⟩)) (hes : es = l.map (eR s ty en) ∨ ∃ p u w,es = (l.map (eR s ty en)).set i (.hole p u w)) (hi : l[i]? = some q)
  (hr : (AD false [.osl g' v' 0 m]).run ⟨e,o,n⟩ = (c,cs',wo)) (hrd : (AD false [.osl g' v' 0 m]).rd ⟨e,o,n⟩ = rk) (hc : c) (hcs : cs' = [eR s ty en q']) (hwo : wo.all (fun x=>x.1 != gi) = true)
  (h : TrO Γ r (nv + 1) ⟨e,(gi,some (vi,⟨false,false,s0,ty0,(l.set i q').map (eR s ty en)⟩)) :: (wo ++ o),n⟩ d (acc ++ [(gK g ++ (rdK x ++ (rdK y ++ (.o gi :: rk))),.o gi :: wo.map (fun x=>.o x.1),af)]) K t) (hrg : Aa gi = true:=by rfl) :
  TrO Γ (⟨none,.st 1 x y,g,af⟩ :: r) nv ⟨e,o,n⟩ d acc K t:=by
 subst hcs
 obtain ⟨hl,_⟩:=List.getElem?_eq_some_iff.1 hi
 have hlen : i < es.length:=by rcases hes with rfl | ⟨p,u,w,rfl⟩ <;> simpa using hl
 have hset : es.set i (eR s ty en q') = (l.set i q').map (eR s ty en):=by
  rcases hes with rfl | ⟨p,u,w,rfl⟩ <;> simp [List.map_set]
 have hz : es[i]? = some es[i]:=by simp [hlen]
 have hc1 : (cells es[i]).length = 1 ∧ Lj es[i] 0 [eR s ty en q'] = eR s ty en q':=by
  rcases hes with rfl | ⟨p,u,w,rfl⟩
  ·simp [cells,Lj]
  ·simp [cells,Lj]
 exact Ti (i:=i) (off:=0) (m:=1) (z:=es[i]) hg hx hy rfl ho hr hrd hc hz rfl rfl (by rw [hc1.1]; rfl) (by rw [hc1.2]; exact hset) hwo h hrg
theorem Jt {bytes : Nat} {c c' : Prop} {new old : List D} {wo : List (Nat × Ab)} {rk rk' : List Key} (l l' : List α) (en : α → D) (hg : gOn e g = true) (hx : Ac e x = some v) (hy : Ac e y = some w) (hvw : strip v = (true,v)) (hww : strip w = (true,w))
  (hv : (view w).run ⟨e,o,n⟩ = (c,new)) (hvr : (view w).rd ⟨e,o,n⟩ = rk) (hc : c) (hn : new = l'.map en)
  (ht : (target s ty v).run ⟨e,o,n⟩ = (c',old,wo,true)) (htr : (target s ty v).rd ⟨e,o,n⟩ = rk') (hc' : c') (ho : old = l.map en)
  (hs : ∀ q,(cells (en q)).length = s) (hby : Nat.ble bytes 65536 = true) (hl : l.length + l'.length ≤ 16777216) (hpl : ∀ q,AB (en q) = true)
  (h : TrO Γ r (nv + 1) ⟨(dst,.osl (4096 + dst) nv 0 (l ++ l').length) :: e,(4096 + dst,some (nv,⟨false,false,s,ty,(l ++ l').map en⟩)) :: (wo ++ o),n⟩ d (acc ++ [(gK g ++ (rdK x ++ (rdK y ++ (rk ++ rk'))),[.e dst,.o (4096 + dst)] ++ wo.map (fun x=>.o x.1),af)]) K t) :
  TrO Γ (⟨some dst,.app s ty bytes x y,g,af⟩ :: r) nv ⟨e,o,n⟩ d acc K t:=by
 have hb':=Nat.le_of_ble_eq_true hby
 subst hn; subst ho
 refine An hg (c:=True) (we:=[(dst,.osl (4096 + dst) nv 0 (l ++ l').length)]) (wo:=(4096 + dst,some (nv,⟨false,false,s,ty,(l ++ l').map en⟩)) :: wo) (rd:=rdK x ++ (rdK y ++ (rk ++ rk'))) ?_ ?_ trivial (by simpa using h)
 ·simp only [evalOp,R.run_bind,Aq,Option.getD_some,hx,hy,hvw,hww,source,hv,ht,R.run_pure,Ad,Dg,nmR,cond_true]
  have hall : ∀ q ∈ l.map en ++ l'.map en,AB q = true:=by
   intro q hq
   rcases List.mem_append.1 hq with hq | hq <;> (obtain ⟨p,_,rfl⟩:=List.mem_map.1 hq; exact hpl p)
  simp [hc,hc',hl,hb',hs]
  intro q hq
  rcases hq with ⟨p,_,rfl⟩ | ⟨p,_,rfl⟩ <;> exact hpl p
 ·simp only [evalOp,R.AP,Aq,Bz,Option.getD_some,hx,hy,hvw,hww,source,hv,hvr,htr,R.Ch]
  simp
theorem Ji {s' ty' q : Nat} (hg : gOn e g = true) (hx : Ac e x = some (.osl gi vi 0 q)) (ho : lkO o gi = some (ii,⟨false,var,s,ty,es⟩))
  (h : TrO Γ r (nv + 1) ⟨(dst,.osl gi vi 0 q) :: e,o,n⟩ d (acc ++ [(gK g ++ (rdK x ++ [.o gi]),[.e dst],af)]) K t) (hrg : Aa gi = true:=by rfl) :
  TrO Γ (⟨some dst,.asg x (some (s',ty')),g,af⟩ :: r) nv ⟨e,o,n⟩ d acc K t:=by
 refine An hg (c:=True) (we:=[(dst,.osl gi vi 0 q)]) (wo:=[]) (rd:=rdK x ++ [Key.o gi]) ?_ ?_ trivial h
 ·simp only [evalOp,R.run_bind,BJ,Option.getD_some,hx,R.BB,AA,ho,Bool.false_eq_true,if_false,R.Bj,hrg,if_true,Ad]
 ·simp only [evalOp,R.AP,BJ,ER,Option.getD_some,hx,R.CA,AA,ho,Bool.false_eq_true,if_false,hrg,if_true,R.Dv]
theorem Th {bytes : Nat} (hg : gOn e g = true) (hx : Ac e x = some (.int k a)) (hy : Ac e y = some (.int k' a)) (hl : 0 ≤ a ∧ a ≤ 16777216) (hby : Nat.ble bytes 65536 = true)
  (h : TrO Γ r (nv + 1) ⟨(dst,.osl dst nv 0 (List.replicate a.toNat ([] : List α)).length) :: e,(dst,some (nv,⟨false,false,s,ty,(List.replicate a.toNat ([] : List α)).map (fun _=>.nils)⟩)) :: o,n⟩ d (acc ++ [(gK g ++ (rdK x ++ rdK y),[.e dst,.o dst],af)]) K t) :
  TrO Γ (⟨some dst,.mkS s ty bytes .nils x y,g,af⟩ :: r) nv ⟨e,o,n⟩ d acc K t:=by
 have:=Nat.le_of_ble_eq_true hby
 exact An hg (c:=True) (we:=[(dst,.osl dst nv 0 (List.replicate a.toNat ([] : List α)).length)]) (wo:=[(dst,some (nv,⟨false,false,s,ty,(List.replicate a.toNat ([] : List α)).map (fun _=>.nils)⟩))]) (rd:=rdK x ++ rdK y) (by simp [evalOp,Ad,AH,strip,hx,hy,hl,this]) (by simp [evalOp,strip,hx,hy]) trivial h
end
section
variable {e E : List (Nat × D)} {o O : List (Nat × Ab)} {n : Nat} {α : Type} {g v s ty : Nat} {var : Bool} {es es' : List D} {z : D}
theorem CP {τ : S} (hw : Rw ⟨e,o,n⟩ τ) (h : Has τ E O) : Has ⟨e,o,n⟩ E O:=h.imp fun _ h=>.rw hw h
theorem Fk {i off g' v' m s' ty' : Nat} {l : List α} {en : α → D} {c : D} (ho : lkO o g = some (v,⟨false,var,s,ty,es⟩)) (hz : es[i]? = some z) (hc : (cells z)[off]? = some c) (hh : c = .hole g' v' m ∨ (c = .osl g' v' 0 m ∧ var = true)) (ho' : lkO o g' = some (v',⟨false,false,s',ty',l.map en⟩))
  (hm : m = l.length) (hp : ∀ q,AB (en q) = true) (hes : es.set i (Lj z off [.row s' ty' (l.map en)]) = es')
  (h : Has ⟨e,(g,some (v,⟨false,var,s,ty,es'⟩)) :: (g',none) :: o,n⟩ E O) (hrg : Aa g = true:=by rfl) (hne : Nat.beq g g' = false:=by rfl) : Has ⟨e,o,n⟩ E O:=by
 obtain ⟨hi,rfl⟩:=List.getElem?_eq_some_iff.1 hz
 have hgd : es.getD i .top = es[i]:=by simp [hi]
 have hne' : g ≠ g':=fun e=>by subst e; simp at hne
 subst hm
 have:=Rw.close (σ:=⟨e,o,n⟩) g v i off g' v' l.length ⟨false,var,s,ty,es⟩ ⟨false,false,s',ty',l.map en⟩ c (by rw [AA]; exact ho) hrg rfl hi (by rw [hgd]; exact hc) hh (by rw [AA]; exact ho') rfl rfl (by simp) (.inr fun e he=>by
  obtain ⟨q,_,rfl⟩:=List.mem_map.1 he
  exact hp q) hne'
 refine CP this ?_
 simp only [hgd,Cn,hes]
 exact h
theorem FN {s' ty' i : Nat} {q : List α} (t : Nat) (en : α → D) (ho : lkO o g = some (v,⟨false,false,s,ty,es⟩)) (hz : es[i]? = some (eR s' ty' en q))
  (h : Has ⟨e,(4096 + t,some (n,⟨false,false,s',ty',q.map en⟩)) :: (g,some (v,⟨false,false,s,ty,es.set i (.hole (4096 + t) n q.length)⟩)) :: o,n + 1⟩ E O) (hrg : Aa g = true:=by rfl) (hne : Nat.beq g (4096 + t) = false:=by rfl) : Has ⟨e,o,n⟩ E O:=by
 have hne' : g ≠ 4096 + t:=fun e=>by subst e; simp at hne
 obtain ⟨hi,he⟩:=List.getElem?_eq_some_iff.1 hz
 have hgd : es.getD i .top = eR s' ty' en q:=by simp [hi,he]
 have:=Rw.opnr (σ:=⟨e,o,n⟩) g v i 0 t s' ty' (q.map en) ⟨false,false,s,ty,es⟩ (by rw [AA]; exact ho) hrg rfl rfl hi (by simp only [hgd]; rfl) hne'
 refine CP this ?_
 simp only [List.length_map,hgd]
 exact h
theorem Jr {s' ty' i j t1 t2 : Nat} {l : List (List α)} {q1 q2 : List α} (en : α → D) (ho : lkO o g = some (v,⟨false,false,s,ty,l.map (eR s' ty' en)⟩)) (h1 : l[i]? = some q1) (h2 : l[j]? = some q2) (hij : i ≠ j)
  (h : Has ⟨e,(4096 + t2,some (n + 1,⟨false,false,s',ty',q2.map en⟩)) :: (g,some (v,⟨false,false,s,ty,((l.map (eR s' ty' en)).set i (.hole (4096 + t1) n q1.length)).set j (.hole (4096 + t2) (n + 1) q2.length)⟩)) :: (4096 + t1,some (n,⟨false,false,s',ty',q1.map en⟩)) :: (g,some (v,⟨false,false,s,ty,(l.map (eR s' ty' en)).set i (.hole (4096 + t1) n q1.length)⟩)) :: o,n + 1 + 1⟩ E O)
  (hrg : Aa g = true:=by rfl) (hne1 : Nat.beq g (4096 + t1) = false:=by rfl) (hne2 : Nat.beq g (4096 + t2) = false:=by rfl) : Has ⟨e,o,n⟩ E O:=by
 refine FN (s':=s') (ty':=ty') (i:=i) (q:=q1) t1 en ho (by simp [h1]) ?_ hrg hne1
 have hg1 : g ≠ 4096 + t1:=fun e=>by subst e; simp at hne1
 refine FN (s':=s') (ty':=ty') (i:=j) (q:=q2) t2 en (v:=v) (s:=s) (ty:=ty) (es:=(l.map (eR s' ty' en)).set i (.hole (4096 + t1) n q1.length)) ?_ ?_ h hrg hne2
 ·have hb : Nat.beq g (4096 + t1) = false:=hne1
  simp [lkO,KN,hb]
 ·rw [List.getElem?_set_ne hij]; simp [h2]
theorem Jn {i j g1 g2 u1 u2 m1 m2 s' ty' : Nat} {l : List (List α)} {q1 q2 q1' q2' : List α} {en : α → D} (h1 : l[i]? = some q1) (h2 : l[j]? = some q2) (hij : i ≠ j)
  (ho : lkO o g = some (v,⟨false,false,s,ty,((l.map (eR s' ty' en)).set i (.hole g1 u1 m1)).set j (.hole g2 u2 m2)⟩)) (ho1 : lkO o g1 = some (u1,⟨false,false,s',ty',q1'.map en⟩)) (ho2 : lkO o g2 = some (u2,⟨false,false,s',ty',q2'.map en⟩))
  (hm1 : m1 = q1'.length) (hm2 : m2 = q2'.length) (hp : ∀ q,AB (en q) = true)
  (h : Has ⟨e,(g,some (v,⟨false,false,s,ty,((l.set i q1').set j q2').map (eR s' ty' en)⟩)) :: (g1,none) :: (g,some (v,⟨false,false,s,ty,((l.map (eR s' ty' en)).set i (.hole g1 u1 m1)).set j (eR s' ty' en q2')⟩)) :: (g2,none) :: o,n⟩ E O) (hrg : Aa g = true:=by rfl) (hne1 : Nat.beq g g1 = false:=by rfl) (hne2 : Nat.beq g g2 = false:=by rfl) (hne : Nat.beq g1 g2 = false:=by rfl) : Has ⟨e,o,n⟩ E O:=by
 obtain ⟨hi,_⟩:=List.getElem?_eq_some_iff.1 h1
 obtain ⟨hj,_⟩:=List.getElem?_eq_some_iff.1 h2
 have hb1 : Nat.beq g1 g = false:=by
  cases hb : Nat.beq g1 g
  ·rfl
  ·rw [Nat.eq_of_beq_eq_true hb] at hne1; simp at hne1
 refine Fk (s':=s') (ty':=ty') (i:=j) (off:=0) (z:=.hole g2 u2 m2) (c:=.hole g2 u2 m2) (es':=((l.map (eR s' ty' en)).set i (.hole g1 u1 m1)).set j (eR s' ty' en q2')) ho (by simp [hj]) rfl (.inl rfl) ho2 hm2 hp (by simp [Lj]) ?_ hrg hne2
 refine Fk (s':=s') (ty':=ty') (i:=i) (off:=0) (z:=.hole g1 u1 m1) (c:=.hole g1 u1 m1) (v:=v) (s:=s) (ty:=ty) (es:=((l.map (eR s' ty' en)).set i (.hole g1 u1 m1)).set j (eR s' ty' en q2')) (l:=q1') (en:=en) ?_ ?_ rfl (.inl rfl) ?_ hm1 hp ?_ h hrg hne1
 ·simp [lkO,KN]
 ·rw [List.getElem?_set_ne (fun e=>hij e.symm)]; simp [hi]
 ·simp only [lkO,KN,hb1,cond_false,hne]
  exact ho1
 ·rw [List.set_comm _ _ hij,List.set_set]
  simp only [Lj]
  rw [List.set_comm _ _ (fun e=>hij e.symm)]
  simp [List.map_set]
theorem Jo {g2 : Nat} (ho : lkO o g = some (v,⟨false,var,s,ty,es⟩)) (hrg : Aa g = false) (hg2 : g2 = 4096 + g) (he : Each (Enr false) es es')
  (h : Has ⟨e.map (fun p=>(p.1,ren g g2 p.2)),(g2,some (v,⟨false,var,s,ty,es'⟩)) :: (g,none) :: o,n⟩ E O) : Has ⟨e,o,n⟩ E O:=by
 have:=Rw.enrich (σ:=⟨e,o,n⟩) g g2 v ⟨false,var,s,ty,es⟩ es' (by rw [AA]; exact ho) rfl (.inr ⟨hrg,hg2⟩) (by rw [hrg]; exact he)
 refine CP this ?_
 have hb : Nat.beq g g2 = false:=by
  cases hb : Nat.beq g g2
  ·rfl
  ·have:=Nat.eq_of_beq_eq_true hb; omega
 rw [hb]
 exact h
theorem Jv {s' ty' : Nat} {l : List (List α)} (en : α → D) (hs : 0 < s') (hl : ∀ q ∈ l,q = []) : Each (Enr false) (l.map fun _=>.nils) (l.map (eR s' ty' en)):=by
 refine ⟨by simp,fun i e e' h1 h2=>?_⟩
 rw [List.getElem?_map,Option.map_eq_some_iff] at h1 h2
 obtain ⟨q,hq,rfl⟩:=h1
 obtain ⟨q',hq',rfl⟩:=h2
 rw [hq] at hq'; cases hq'
 have:=hl q (List.mem_of_getElem? hq)
 subst this
 refine ⟨rfl,fun j c c' h1 h2=>?_⟩
 rcases j with _ | j
 ·simp only [cells,List.getElem?_cons_zero,Option.some.injEq] at h1 h2
  subst h1; subst h2
  exact .inr ⟨rfl,s',ty',hs,rfl⟩
 ·simp [cells] at h1
theorem Jq (ho : lkO o g = some (v,⟨false,var,s,ty,es⟩)) (he : Each Frr es es') (h : Has ⟨e,(g,some (v,⟨false,var,s,ty,es'⟩)) :: o,n⟩ E O) (hrg : Aa g = true:=by rfl) : Has ⟨e,o,n⟩ E O:=by
 have:=Rw.frows (σ:=⟨e,o,n⟩) g v ⟨false,var,s,ty,es⟩ es' (by rw [AA]; exact ho) hrg rfl he
 exact CP this h
theorem Jw {s' ty' : Nat} {l : List (List α)} (en : α → D) (hp : ∀ q,AB (en q) = true) : Each Frr (l.map (eR s' ty' en)) (l.map (eL en)):=by
 refine ⟨by simp,fun i e e' h1 h2=>?_⟩
 rw [List.getElem?_map,Option.map_eq_some_iff] at h1 h2
 obtain ⟨q,hq,rfl⟩:=h1
 obtain ⟨q',hq',rfl⟩:=h2
 rw [hq] at hq'; cases hq'
 refine ⟨rfl,fun j c c' h1 h2=>?_⟩
 rcases j with _ | j
 ·simp only [cells,List.getElem?_cons_zero,Option.some.injEq] at h1 h2
  subst h1; subst h2
  exact .inr ⟨s',ty',_,rfl,fun e he=>by
   obtain ⟨p,_,rfl⟩:=List.mem_map.1 he
   exact hp p,rfl⟩
 ·simp [cells] at h1
theorem AaH (ho : lkO o g = some (v,⟨false,false,s,ty,es⟩)) (he : es.map nrm = es') (h : Has ⟨e,(g,some (v,⟨false,false,s,ty,es'⟩)) :: o,n⟩ E O) (hrg : Aa g = false:=by rfl) : Has ⟨e,o,n⟩ E O:=by
 subst he
 have:=Rw.nilsl (σ:=⟨e,o,n⟩) g v ⟨false,false,s,ty,es⟩ (by rw [AA]; exact ho) hrg rfl rfl
 exact CP this h
theorem AbC {l : List (List α)} (en : α → D) (hl : ∀ q ∈ l,q = []) : (l.map fun _=>D.nils).map nrm = l.map (eL en):=by
 rw [List.map_map]
 refine List.map_congr_left fun q hq=>?_
 rw [hl q hq]
 rfl
theorem Yx (ho : lkO o g = some (v,⟨false,true,s,ty,[z]⟩)) (hc : (cells z).all JU = true) (h : Has ⟨e.map (fun p=>(p.1,frp g v z p.2)),(g,none) :: o.map (fun p=>(p.1,frO g v z p.2)),n⟩ E O) : Has ⟨e,o,n⟩ E O:=by
 have:=Rw.fvar (σ:=⟨e,o,n⟩) g v ⟨false,true,s,ty,[z]⟩ z (by rw [AA]; exact ho) rfl rfl rfl hc
 exact CP this h
end
end Go.Dw
namespace Go.Dw
abbrev eA {α : Type} (en : α → D) (l : List α) : D:=.agg (l.map en)
def uA {α : Type} (u : D → α) : D → List α | .agg cs=>cs.map u | _=>[]
@[simp] theorem IZ {α : Type} {u : D → α} {en : α → D} (h : ∀ a,u (en a) = a) (l : List α) : uA u (.agg (l.map en)) = l:=by
 simp only [uA,List.map_map]
 conv=>rhs; rw [← List.map_id l]
 exact List.map_congr_left fun a _=>h a
def fpD : D → D | .fptr e _=>e | _=>.top
def Yt : D → Nat → D | .clo _ caps,j=>caps.getD j .top | _,_=>.top
theorem Fp (cs : List D) (off : Nat) (d : D) : setAt cs off [d] = cs.set off d:=rfl
section
variable {Γ : At} {X : Type} {K : KR X} {t : Option X} {e : List (Nat × D)} {o : List (Nat × Ab)} {n nv : Nat} {d : Bool} {acc : List DR}
 {r : List Av} {dst : Nat} {g : Option (Nat × Bool)} {af : List Nat} {α : Type}
variable {x y : Arg} {v w : D} {k k' : IntKind} {a b : Int} {s ty gi vi ii off m : Nat} {fz var : Bool} {l : List α} {en : α → D}
theorem Qp {i len : Nat} (hg : gOn e g = true) (hx : Ac e x = some (.optr gi vi i off)) (hy : Ac e y = some (.int k a)) (hi : 0 ≤ a ∧ a < len)
  (h : TrO Γ r (nv + 1) ⟨(dst,.optr gi vi i (off + a.toNat * s)) :: e,o,n⟩ d (acc ++ [(gK g ++ (rdK x ++ rdK y),[.e dst],af)]) K t) :
  TrO Γ (⟨some dst,.ixP s len x y,g,af⟩ :: r) nv ⟨e,o,n⟩ d acc K t :=
 An hg (c:=True) (we:=[(dst,.optr gi vi i (off + a.toNat * s))]) (wo:=[]) (rd:=rdK x ++ rdK y) (by simp [evalOp,Ad,strip,hx,hy,hi.1,hi.2]) (by simp [evalOp,strip,hx,hy]) trivial h
theorem QN {q : α} {j : Nat} (hj : off = j) (hg : gOn e g = true) (hx : Ac e x = some (.optr gi vi 0 off)) (ho : lkO o gi = some (vi,⟨fz,var,s,ty,[.agg (l.map en)]⟩)) (hi : l[j]? = some q) (hpl : plain (en q) = true) (_hc : ∀ q,cells (en q) = [en q])
  (h : TrO Γ r (nv + 1) ⟨(dst,en q) :: e,o,n⟩ d (acc ++ [(gK g ++ (rdK x ++ [.o gi]),[.e dst],af)]) K t) :
  TrO Γ (⟨some dst,.ld 1 false x,g,af⟩ :: r) nv ⟨e,o,n⟩ d acc K t:=by
 subst hj
 have hl:=(List.getElem?_eq_some_iff.1 hi).1
 refine QO (i:=0) (m:=1) (agg:=false) (off:=off) (z:=.agg (l.map en)) (v:=en q) hg hx ho rfl ?_ ?_ h (by simp [hpl])
 ·simp only [cells,List.length_map]
  exact Nat.ble_eq_true_of_le (by omega)
 ·simp only [Je,cells,Bool.false_eq_true,if_false]
  simp [hi]
theorem Aas {q q' : α} {j : Nat} {z' : D} (hj : off = j) (hg : gOn e g = true) (hx : Ac e x = some (.optr gi vi 0 off)) (hy : Ac e y = some (en q')) (hw : strip (en q') = (true,en q')) (ho : lkO o gi = some (vi,⟨false,true,s,ty,[.agg (l.map en)]⟩)) (hi : l[j]? = some q) (hk : known (en q') = true) (hc : cells (en q') = [en q']) (hz : D.agg ((l.set j q').map en) = z')
  (h : TrO Γ r (nv + 1) ⟨e,(gi,some (vi,⟨false,true,s,ty,[z']⟩)) :: o,n⟩ d (acc ++ [(gK g ++ (rdK x ++ (rdK y ++ [.o gi])),[.o gi],af)]) K t) (hrg : Aa gi = false:=by rfl) :
  TrO Γ (⟨none,.st 1 x y,g,af⟩ :: r) nv ⟨e,o,n⟩ d acc K t:=by
 subst hj
 subst hz
 have hl:=(List.getElem?_eq_some_iff.1 hi).1
 refine QP (z:=.agg (l.map en)) (z':=.agg ((l.set off q').map en)) hg hx hy hw ho hk (by rw [hc]; rfl) ?_ ?_ h hrg
 ·simp only [cells,List.length_map]
  exact Nat.ble_eq_true_of_le (by omega)
 ·simp only [Lj,hc,Fp,List.map_set]
theorem XL {q q' : α} {j : Nat} {z' : D} (hj : off = j) (hg : gOn e g = true) (hx : Ac e x = some (.optr gi vi 0 off)) (hy : Ac e y = some (en q')) (hw : strip (en q') = (true,en q')) (ho : lkO o gi = some (vi,⟨false,true,s,ty,[.agg (l.map en)]⟩)) (hi : l[j]? = some q) (hk : known (en q') = true) (hc : cells (en q') = [en q']) (hz : D.agg ((l.set j q').map en) = z')
  (hcl : (AD true [en q']).run ⟨e,o,n⟩ = (True ∧ True ∧ ([] : List (Nat × Ab)).all (fun _=>([] : List (Nat × Ab)).all fun _=>true) = true,[en q'],[])) (hrd : (AD true [en q']).rd ⟨e,o,n⟩ = [])
  (h : TrO Γ r (nv + 1) ⟨e,(gi,some (vi,⟨false,true,s,ty,[z']⟩)) :: o,n⟩ d (acc ++ [(gK g ++ (rdK x ++ (rdK y ++ [.o gi])),[.o gi],af)]) K t) (hrg : Aa gi = true:=by rfl) :
  TrO Γ (⟨none,.st 1 x y,g,af⟩ :: r) nv ⟨e,o,n⟩ d acc K t:=by
 subst hj
 subst hz
 have hl:=(List.getElem?_eq_some_iff.1 hi).1
 refine Ti (i:=0) (c:=True ∧ True ∧ ([] : List (Nat × Ab)).all (fun _=>([] : List (Nat × Ab)).all fun _=>true) = true) (z:=.agg (l.map en)) (es':=[.agg ((l.set off q').map en)]) (cs':=[en q']) (wo:=[]) (rk:=[]) hg hx hy hw ho (by rw [hc]; exact hcl) (by rw [hc]; exact hrd) ⟨trivial,trivial,rfl⟩ rfl hk (by rw [hc]; rfl) ?_ ?_ rfl h hrg
 ·simp only [cells,List.length_map]
  exact Nat.ble_eq_true_of_le (by omega)
 ·simp only [Lj,Fp,List.map_set,List.set_cons_zero]
theorem IK {len : Nat} {z : D} (hg : gOn e g = true) (hx : Ac e x = some (.fptr z off)) (hy : Ac e y = some (.int k a)) (hi : 0 ≤ a ∧ a < len)
  (h : TrO Γ r (nv + 1) ⟨(dst,.fptr z (off + a.toNat * s)) :: e,o,n⟩ d (acc ++ [(gK g ++ (rdK x ++ rdK y),[.e dst],af)]) K t) :
  TrO Γ (⟨some dst,.ixP s len x y,g,af⟩ :: r) nv ⟨e,o,n⟩ d acc K t :=
 An hg (c:=True) (we:=[(dst,.fptr z (off + a.toNat * s))]) (wo:=[]) (rd:=rdK x ++ rdK y) (by simp [evalOp,Ad,strip,hx,hy,hi.1,hi.2]) (by simp [evalOp,strip,hx,hy]) trivial h
theorem IB {q : α} {j : Nat} (hj : off = j) (hg : gOn e g = true) (hx : Ac e x = some (.fptr (.agg (l.map en)) off)) (hi : l[j]? = some q) (_hc : ∀ q,cells (en q) = [en q])
  (h : TrO Γ r (nv + 1) ⟨(dst,en q) :: e,o,n⟩ d (acc ++ [(gK g ++ rdK x,[.e dst],af)]) K t) :
  TrO Γ (⟨some dst,.ld 1 false x,g,af⟩ :: r) nv ⟨e,o,n⟩ d acc K t:=by
 subst hj
 have hl:=(List.getElem?_eq_some_iff.1 hi).1
 refine TB (m:=1) (agg:=false) (off:=off) (z:=.agg (l.map en)) (v:=en q) hg hx ?_ ?_ h
 ·simp only [cells,List.length_map]
  exact Nat.ble_eq_true_of_le (by omega)
 ·simp only [Je,cells,Bool.false_eq_true,if_false]
  simp [hi]
end
end Go.Dw
namespace Go.Dw
open Go.Sort
theorem ZS {P : Program} {f : Nat} {r : Bool} {fl : List Int → List Int} {fk : List Int → Nat} (h0 : ∀ zs,(fl zs).length = zs.length ∧ fk zs ≤ zs.length)
  (he : ∀ (w : World) (a : Option Addr) (cap : Nat),Calls P f #[.slice a 0 cap] w fun e w'=>e = .returned (if r then .slice a 0 cap else .tuple #[]) ∧ w' = w)
  (hcon : ∀ (blk off cap : Nat) (zs : List Int) (w : World),Holds (Value.int .i64) w blk off zs.toArray → blk < w.heap.size → zs.length < 4611686018427387904 → zs.length ≤ cap →
   Calls P f #[.slice (some ⟨blk,off,none⟩) zs.length cap] w fun e w'=>e = .returned (if r then .slice (some ⟨blk,off,none⟩) (fk zs) cap else .tuple #[]) ∧
    ∃ n os,w' = grow (putRow (Value.int .i64) (Sort.ahead w n) blk off (fl zs).toArray) os) : FE P f (r,fl,fk):=by
 refine ⟨h0,he,fun w b off cap ty C zs hpos hbig hcap hC hcell=>?_⟩
 have hb : b < w.heap.size:=(Array.getElem?_eq_some_iff.1 hC).1
 have hH : Holds (Value.int .i64) w b off zs.toArray:=by
  intro j hj
  have hj : j < zs.length:=by simpa using hj
  have hz : zs[j]? = some zs[j]:=List.getElem?_eq_getElem hj
  have hc:=hcell j _ hz
  refine ⟨?_,?_⟩
  ·simp [World.cell?,hC,hc,hj]
  ·simp [World.frozen?,hC]
 refine (hcon b off cap zs w hH hb hbig hcap).mono ?_
 rintro e w' ⟨rfl,n,os,rfl⟩
 have hheap : ∀ k,k < w.heap.size → (grow (putRow (Value.int .i64) (Sort.ahead w n) b off (fl zs).toArray) os).heap[k]? = if b = k then (w.heap[k]?).map (onCells (putCells (Value.int .i64) off (fl zs).toArray)) else w.heap[k]?:=by
  intro k hk
  simp only [grow,putRow,mapBlock,Sort.ahead]
  rw [Array.getElem?_append_left (by simpa using hk),Array.getElem?_modify]
 refine ⟨rfl,rfl,rfl,rfl,?_,fun b' hb' hne=>?_,putCells (Value.int .i64) off (fl zs).toArray C,?_,?_,?_,?_⟩
 ·simp [grow,putRow,mapBlock,Sort.ahead]
 ·rw [hheap b' hb',if_neg (fun e=>hne e.symm)]
 ·rw [hheap b hb,if_pos rfl,hC]; rfl
 ·simp [putCells]
 ·intro k hk
  have hl:=(h0 zs).1
  simp only [putCells,Array.getElem?_mapIdx]
  cases hx : C[k]? with
  | none=>rfl
  | some x =>
   simp only [Option.map_some]
   rw [if_neg]
   simp only [List.size_toArray,hl]
   omega
 ·intro j x hx
  have hl:=(h0 zs).1
  obtain ⟨hj,hjx⟩:=List.getElem?_eq_some_iff.1 (show (fl zs)[j]? = some x from hx)
  have hz : zs[j]? = some (zs[j]'(by omega)):=List.getElem?_eq_getElem _
  have hc:=hcell j _ hz
  simp only [putCells,Array.getElem?_mapIdx,hc,Option.map_some]
  rw [if_pos (by simp; omega)]
  have : off + j - off = j:=by omega
  rw [this]
  simp [hj,hjx]
def AcU (r : Bool) (fl : List Int → List Int) (fk : List Int → Nat) : Spec:=⟨[],.inpl r fl fk,fun _=>False,fun _=>.top,fun _=>[]⟩
theorem Yb (zs : List Int) : (Lib.compact zs).length ≤ zs.length:=by
 unfold Lib.compact Lib.compactUpTo
 rw [List.length_map]
 exact Nat.le_trans (List.length_filter_le _ _) (by simp)
def TF (zs : List Int) : List Int:=Lib.compact zs ++ List.replicate (zs.length - (Lib.compact zs).length) 0
theorem UL (zs : List Int) : (TF zs).take (Lib.compact zs).length = Lib.compact zs:=by simp [TF]
def LL (zs : List Int) : List Int:=zs.mergeSort fun x y=>decide (x ≤ y)
@[simp] theorem AbG (zs : List Int) : (LL zs).length = zs.length:=List.length_mergeSort zs
theorem Aac (zs : List Int) : (TF zs).length = zs.length:=by
 have:=Yb zs
 simp [TF]; omega
end Go.Dw
namespace Go.Dw
open Go.Proofs
def YE (x : Int) : Option Int:=chk (0 ≤ x ∧ x < 18446744073709551616) (some ((Lib.ctz 64 x.toNat : Nat) : Int))
def DJ (a : Int) : List D:=[.int .u64 a]
def EE (ds : List D) : Int:=uI (ds.getD 0 .top)
theorem Acd (a : Int) : EE (DJ a) = a:=rfl
def Hf (b : Int) : D:=.int .i64 b
def He (_b : Int) : List D:=[]
def Aat : Dw.Spec:=Ka [] .ground DJ EE (fun a=>YE a) Hf He
theorem HF : DK = Lib.deBruijn64tab:=by decide
theorem Adc {P : Program} {f g : Nat} (he : Gd P f) (hg : P.globalNamed "math/bits.deBruijn64tab" = some g)
  (h : ∀ (x : Nat) (w : World),x < 18446744073709551616 → (x ≠ 0 → TabAt g Lib.deBruijn64tab w) → Calls P f #[.int .u64 (x : Int)] w fun e w'=>e = .returned (.int .i64 (Lib.ctz 64 x : Nat)) ∧ w' = w) : JX P f Aat:=by
 intro F0 hG
 refine ⟨he,fun q hq=>(by cases hq),fun _ _ w F ds vs M hsub hF hfin hA hp=>?_,fun φ hφ=>(by cases hφ)⟩
 obtain ⟨a,b,rfl,hb⟩:=hp
 have hr : 0 ≤ a ∧ a < 18446744073709551616:=by
  by_cases hr : 0 ≤ a ∧ a < 18446744073709551616
  ·exact hr
  ·simp [YE,chk,hr] at hb
 have hfa : YE a = some ((Lib.ctz 64 a.toNat : Nat) : Int):=by simp [YE,chk,hr]
 have hb' : (fun a=>YE a) a = some ((Lib.ctz 64 a.toNat : Nat) : Int):=hfa
 cases hA with
 | ptr j d ds xs M m hp=>cases hp
 | val j d ds x xs M hp hn hx hr' =>
  cases hx
  cases hr'
  have ht : a.toNat ≠ 0 → TabAt g Lib.deBruijn64tab w:=fun _ j hj=>by
   have hj' : j < 64:=by
    have : Lib.deBruijn64tab.length = 64:=by decide
    omega
   rw [← HF]
   exact hF _ _ _ (hsub _ _ _ (hG g hg j hj'))
  have key:=h a.toNat w (by omega) ht
  have e1 : ((a.toNat : Nat) : Int) = a:=by omega
  rw [e1] at key
  refine key.mono ?_
  rintro e w' ⟨rfl,rfl⟩
  refine ⟨_,F,fun _ _ _=>False,fun _=>False,rfl,hF,hfin,Stp.refl _ _ _,?_,⟨fun k m hm=>by simp at hm,fun _ _ _ h=>h.elim,fun _ _ _ h=>h.elim,fun _ _ _ _ _ h=>h.elim,fun _ _ _ _ h=>h.elim⟩,fun _ _ _ h=>h.elim⟩
  show Fro F ((Ka [] .ground DJ EE (fun a=>YE a) Hf He).res (DJ a)) _
  rw [Bs Acd hb']
  exact .int _ _
end Go.Dw
namespace Go.Dw
section
variable {Γ Γ' : At} {X ι γ : Type} {K : X → Ar → S → Prop} {t : Option X} {e E : List (Nat × D)} {o O : List (Nat × Ab)} {n nv N : Nat} {acc : List DR}
 {r : List Av} {dst : Option Nat} {g : Option (Nat × Bool)} {af : List Nat}
theorem Jy {σ : S} {E1 : List (Nat × D)} {O1 : List (Nat × Ab)} (h : Has σ E1 O1) (k : ∀ n,Has ⟨E1,O1,n⟩ E O) : Has σ E O :=
 h.elim fun n h=>(k n).imp fun _ k=>h.trans k
theorem Jx (rn : Nat → Nat) (hn : CK rn (o.map Prod.fst) = true) (h : Has ⟨e.map (fun p=>(p.1,rnm rn p.2)),o.map (fun p=>(rn p.1,rnO rn p.2)),n⟩ E O) : Has ⟨e,o,n⟩ E O :=
 CP (Rw.nams (σ:=⟨e,o,n⟩) rn hn) h
def TrC (Γ : At) (op : Av) (r : List Av) (K : X → Ar → S → Prop) (σ : S) (t : Option X) : Prop:=∀ x,t = some x → EZ Γ op σ (Wk (fun τ=>wpS Γ r τ.n τ (K x .normal)))
theorem JF {op : Av} {E : γ → List (Nat × D)} {O : γ → List (Nat × Ab)} (g0 : γ) (hh : Has ⟨e,o,nv⟩ (E g0) (O g0)) (h : ∀ g nn,TrC Γ op r K ⟨E g,O g,nn⟩ t) : TrO Γ (op :: r) nv ⟨e,o,n⟩ false acc (Fe N K) t:=by
 intro x hx
 refine ⟨fun _=>.inr ?_,fun hd=>by cases hd⟩
 obtain ⟨m,hm⟩:=hh
 exact ⟨_,hm,h g0 m x hx⟩
def IM (Γ : At) (r : List Av) (dst : Option Nat) (rs : List AM) (e : List (Nat × D)) (K : X → Ar → S → Prop) : X → Ar → S → Prop:=fun x =>
 FR rs e (fun d τ=>Wk (fun τ=>wpS Γ r τ.n τ (K x .normal)) ⟨Ad dst d ++ τ.e,τ.o,τ.n⟩)
def GD (dst : Option Nat) (rs : List AM) (e : List (Nat × D)) (E : ι → γ → List (Nat × D)) (O : ι → γ → List (Nat × Ab)) (j : ι → Option X) : X → Ar → S → Prop:=fun x =>
 FR rs e (fun d τ=>∃ s g,j s = some x ∧ Has ⟨Ad dst d ++ τ.e,τ.o,τ.n⟩ (E s g) (O s g))
theorem HD {fa : Arg} {args : List Arg} {k np : Nat} {caps ds : List D} {rs : List AM} {dc : Kb} {KK : X → Ar → S → Prop} (hg : gOn e g = true) (hf : Ac e fa = some (.clo k caps)) (hds : Ax e args = ds) (hw : ds.all (fun d=>(match d with | .when ..=>false | _=>true)) = true) (hkb : Nat.blt k 4096 = true)
  (hΓ : Γ (k + 4096 * Bh ds) = some (Jg Γ' np rs dc)) (hnp : (ds ++ caps).length = np) (hE : DA 0 (ds ++ caps) = E) (hK : ∀ x ex τ,KK x ex τ → IM Γ r dst rs e K x ex τ) (h : Tr Γ' dc KK ⟨E,o,n⟩ t) :
  TrC Γ ⟨dst,.call fa args,g,af⟩ r K ⟨e,o,n⟩ t:=by
 intro x hx
 have hrd : (AF args).run ⟨e,o,n⟩ = ds:=by rw [← hds]; exact Bu args
 have hraw : (raw fa).run ⟨e,o,n⟩ = .clo k caps:=by simp [hf]
 have hon : onG g ⟨e,o,n⟩:=by
  cases g with
  | none=>trivial
  | some p =>
   obtain ⟨tt,want⟩:=p
   show (guardOf ((S.mk e o n).ge tt) want).1 ∧ (guardOf ((S.mk e o n).ge tt) want).2 = true
   simp only [gOn,Bn] at hg
   simp only [S.ge]
   generalize (look e tt).getD .top = dd at *
   cases dd <;> simp_all [guardOf]
   rename_i p dd
   cases dd <;> simp_all
 refine ⟨hon,fa,args,k,caps,Jg Γ' np rs dc,Hp Γ' np rs dc,Wk (fun τ=>wpS Γ r τ.n τ (K x .normal)),fun τ hτ=>hτ,rfl,hraw,hkb,?_,rfl,?_,?_⟩
 ·show Γ (k + 4096 * Bh ((AF args).run ⟨e,o,n⟩)) = _
  rw [hrd]; exact hΓ
 ·show ((AF args).run ⟨e,o,n⟩).all _ = true
  rw [hrd]; exact hw
 ·show Hp Γ' np rs dc ((AF args).run ⟨e,o,n⟩ ++ caps) ⟨e,o,n⟩ _
  rw [hrd]
  refine ⟨hnp,_,.refl _,?_⟩
  show DWp Γ' dc _ ⟨DA 0 (ds ++ caps),o,n⟩
  rw [hE]
  exact Bk dc _ _ _ (fun ex τ hq=>hK x ex τ hq) (h x hx)
theorem GW {rs : List AM} {K1 K2 : D → S → Prop} (h : ∀ d τ,K1 d τ → K2 d τ) {ex : Ar} {τ : S} (hq : FR rs e K1 ex τ) : FR rs e K2 ex τ:=by
 cases ex with
 | exit id=>exact hq
 | normal=>exact Wk.mono (fun τ h'=>⟨h'.1,h _ _ h'.2⟩) hq
 | ret=>exact Wk.mono (fun τ h'=>⟨h'.1,h _ _ h'.2⟩) hq
theorem JD {fa : Arg} {args : List Arg} {k np : Nat} {caps ds : List D} {rs : List AM} {dc : Kb} {ES : ι → γ → List (Nat × D)} {OS : ι → γ → List (Nat × Ab)} {j : ι → Option X} (hg : gOn e g = true) (hf : Ac e fa = some (.clo k caps)) (hds : Ax e args = ds) (hw : ds.all (fun d=>(match d with | .when ..=>false | _=>true)) = true) (hkb : Nat.blt k 4096 = true)
  (hΓ : Γ (k + 4096 * Bh ds) = some (Jg Γ' np rs dc)) (hnp : (ds ++ caps).length = np) (hE : DA 0 (ds ++ caps) = E) (h : Tr Γ' dc (GD dst rs e ES OS j) ⟨E,o,n⟩ t) (h2 : ∀ s g nn,TrO Γ r nn ⟨ES s g,OS s g,nn⟩ false [] (Fe 0 K) (j s)) :
  TrC Γ ⟨dst,.call fa args,g,af⟩ r K ⟨e,o,n⟩ t:=by
 refine HD (KK:=GD dst rs e ES OS j) hg hf hds hw hkb hΓ hnp hE (fun x ex τ hq=>?_) h
 refine GW (fun d τ hq=>?_) hq
 obtain ⟨s,g,hj,m,hm⟩:=hq
 exact ⟨_,hm,(h2 s g m x hj).1 rfl⟩
theorem JA {rs : List AM} {d : D} {ex : Ar} {e' : List (Nat × D)} {o' : List (Nat × Ab)} {n' : Nat} {ES : ι → γ → List (Nat × D)} {OS : ι → γ → List (Nat × Ab)} {j : ι → Option X} {s : ι} (g : γ) (hex : (match ex with | .exit _=>false | _=>true) = true) (hr : (Jf rs ⟨e',o',n'⟩).1) (hd : (Jf rs ⟨e',o',n'⟩).2 = d)
  (hh : Has ⟨Ad dst d ++ e,o',n'⟩ (ES s g) (OS s g)) : TrX ex (GD dst rs e ES OS j) ⟨e',o',n'⟩ (j s):=by
 intro x hx
 subst hd
 have key : Wk (fun τ=>(Jf rs τ).1 ∧ (fun (d : D) (τ : S)=>∃ s g,j s = some x ∧ Has ⟨Ad dst d ++ τ.e,τ.o,τ.n⟩ (ES s g) (OS s g)) (Jf rs τ).2 ⟨e,τ.o,τ.n⟩) ⟨e',o',n'⟩:=by
  refine ⟨_,.refl _,hr,s,g,hx,hh⟩
 cases ex with
 | exit id=>cases hex
 | normal=>exact key
 | ret=>exact key
theorem JH {α : Type} {σ : S} {c : Kb} {m : Option α} {k : α → Option X} (h : ∀ x,m = some x → Tr Γ c K σ (k x)) : Tr Γ c K σ (m.bind k):=by
 intro r hr
 obtain ⟨x,hx,hk⟩:=Option.bind_eq_some_iff.1 hr
 exact h x hx r hk
theorem JI {σ : S} {c : Kb} {p : Prop} [Decidable p] (h : p → Tr Γ c K σ t) : Tr Γ c K σ (chk p t):=by
 intro r hr
 obtain ⟨hp,ht⟩:=FJ hr
 exact h hp r ht
theorem JB {α : Type} {l : List α} {f : α → D} {i j : Nat} {q : α} {u v : D} (h : l[i]? = some q) (hij : i ≠ j) : (((l.map f).set i u).set j v)[i]? = some u:=by
 have:=(List.getElem?_eq_some_iff.1 h).1
 rw [List.getElem?_set_ne (fun e=>hij e.symm)]; simp [this]
theorem JC {α : Type} {l : List α} {f : α → D} {i j : Nat} {q : α} {u v : D} (h : l[j]? = some q) : (((l.map f).set i u).set j v)[j]? = some v:=by
 have:=(List.getElem?_eq_some_iff.1 h).1
 simp [this]
theorem Jh {α : Type} {KK : KR X} {d : Bool} {x y : Arg} {s ty gi vi : Nat} {l : List α} {en : α → D} {i : Nat} {q q' : α} {c : Prop} {rk : List Key} (hg : gOn e g = true) (hx : Ac e x = some (.optr gi vi i 0)) (hy : Ac e y = some (en q')) (hw : strip (en q') = (true,en q'))
  (ho : lkO o gi = some (vi,⟨false,false,s,ty,l.map en⟩)) (hi : l[i]? = some q) (hk : known (en q') = true) (hc : ∀ q,cells (en q) = [en q])
  (hz : Lj (en q) 0 [en q'] = en q') (hcl : (AD false [en q']).run ⟨e,o,n⟩ = (c,[en q'],[])) (hrd : (AD false [en q']).rd ⟨e,o,n⟩ = rk) (hcc : c)
  (h : TrO Γ r (nv + 1) ⟨e,(gi,some (vi,⟨false,false,s,ty,(l.set i q').map en⟩)) :: o,n⟩ d (acc ++ [(gK g ++ (rdK x ++ (rdK y ++ (.o gi :: rk))),[.o gi],af)]) KK t) (hrg : Aa gi = true:=by rfl) :
  TrO Γ (⟨none,.st 1 x y,g,af⟩ :: r) nv ⟨e,o,n⟩ d acc KK t:=by
 have hl:=(List.getElem?_eq_some_iff.1 hi).1
 refine Ti (i:=i) (off:=0) (m:=1) (z:=en q) (es':=(l.set i q').map en) (cs':=[en q']) (wo:=[]) (rk:=rk) hg hx hy hw ho (by rw [hc]; exact hcl) (by rw [hc]; exact hrd) hcc (by simp [hi]) hk (by rw [hc]; rfl) (by rw [hc]; rfl) ?_ rfl h hrg
 rw [hz,List.map_set]
end
end Go.Dw
namespace Go.Dw
theorem rf {α : Sort _} {a : α} : a = a:=rfl
abbrev M (d s : Nat) : Av:=⟨some d,.mv (.t s),none,[]⟩
abbrev P (d : Nat) (o : DOp) : Av:=⟨some d,o,none,[]⟩
abbrev T (n : Nat) : Arg:=.t n
abbrev C (n : Int) : Arg:=.c (.int .i64 n)
end Go.Dw
namespace Go.Dw
open Go.ChangeShapes Go.WideShapes Go.ChangeAt Go.RowKit
theorem Abw {P : Program} {laid : List (String × DataW Unit)} {W : World} {t e : TypeId} (h : laidMetH P laid W) (hl : laid = [("math/bits.deBruijn64tab",.agg (DK.map fun n : Nat=>.lit (.int .u8 (n : Int))))])
  (hn : (laid.all fun x=>x.2.handleName?.isNone) = true) (ht : ∀ g,P.globalNamed "math/bits.deBruijn64tab" = some g → (P.globals[g]?).map (·.type) = some t)
  (ha : P.underlying t = some (.array 64 e)) (he : P.underlying e = some (.int .u8)) (hc : P.cellsOf e = 1) : Yr P (Sl W):=by
 rw [MakeChecks.laidMetH_plain _ _ _ hn] at h
 subst hl
 obtain ⟨ps,⟨g0,t0,cs0,f0,p0,q0,hg0,ht0,hv0,hd0,_⟩,_⟩:=h
 intro g hg j hj
 obtain rfl:=Option.some.inj (hg.symm.trans hg0)
 obtain rfl:=Option.some.inj ((ht _ hg0).symm.trans ht0)
 obtain ⟨xs,m,rfl,hx,hlen,hn64,hel⟩:=DataW.trod_array ha hd0
 simp only [Prod.mk.injEq,DataW.agg.injEq] at hx
 have hj':=hel j hj
 rw [hc] at hj'
 have hxj : xs[j]? = some (xs[j]'(by omega)):=List.getElem?_eq_getElem _
 rw [hxj] at hj'
 obtain ⟨k,e1,e2,_⟩:=DataW.trod_int he hj'
 have hk : ((xs.map (·.1))[j]?) = some (.lit (.int .u8 k)):=by
  rw [List.getElem?_map,hxj,Option.map_some,e2]
 rw [← hx.1] at hk
 have ht64 : DK.length = 64:=by decide
 rw [List.getElem?_map,List.getElem?_eq_getElem (show j < DK.length by omega),Option.map_some] at hk
 have hkk : k = ((DK[j]'(by omega) : Nat) : Int):=by simpa using hk.symm
 have hcell:=World.var?_cell hg0 hv0 j
 have hcs : cs0.toList[j]? = some (.int .u8 k):=by
  have h0 : ((cs0.toList.drop (j * 1)).take 1)[0]? = some (.int .u8 k):=by rw [e1]; rfl
  simpa [List.getElem?_take,List.getElem?_drop] using h0
 show W.cell? ⟨g,j,none⟩ = _
 rw [hcell]
 have : cs0[j]? = some (.int .u8 k):=by simpa using hcs
 rw [this,hkk]
 simp [List.getD,List.getElem?_eq_getElem (show j < DK.length by omega)]
def WW (w : Int) : Prop:=0 ≤ w ∧ w < 18446744073709551616
def UG (w : Int) (j : Nat) : Bool:=w.toNat.testBit j
theorem BI {w : Int} (h : WW w) : (BitVec.ofInt IntKind.u64.bits w).toNat = w.toNat:=by
 show (BitVec.ofInt 64 w).toNat = w.toNat
 have:=h.1; have:=h.2
 rw [BitVec.toNat_ofInt]
 omega
theorem Wy {n : Nat} (h : n < 18446744073709551616) : IntKind.u64.wrap (n : Int) = n:=by
 simp [IntKind.wrap,IntKind.signed,IntKind.bits]; omega
theorem Ade {n : Int} (h : WW n) : IntKind.u64.wrap n = n:=by
 have:=h.1; have:=h.2
 simp [IntKind.wrap,IntKind.signed,IntKind.bits]; omega
theorem WW.nat {n : Nat} (h : n < 18446744073709551616) : WW (n : Int):=⟨by omega,by omega⟩
theorem WW.toNat_lt {w : Int} (h : WW w) : w.toNat < 18446744073709551616:=by have:=h.1; have:=h.2; omega
theorem Gx (b : BitVec IntKind.u64.bits) : b.toNat < 18446744073709551616:=b.isLt
theorem AhM {x y : Int} (hx : WW x) (hy : WW y) : IntKind.u64.wrap ((BitVec.ofInt IntKind.u64.bits x ||| BitVec.ofInt IntKind.u64.bits y).toNat : Nat) = ((x.toNat ||| y.toNat : Nat) : Int):=by
 rw [Wy (Gx _),BitVec.toNat_or,BI hx,BI hy]
theorem AhP {x y : Int} (hx : WW x) (hy : WW y) : IntKind.u64.wrap ((BitVec.ofInt IntKind.u64.bits x &&& BitVec.ofInt IntKind.u64.bits y).toNat : Nat) = ((x.toNat &&& y.toNat : Nat) : Int):=by
 rw [Wy (Gx _),BitVec.toNat_and,BI hx,BI hy]
def Abn (x y : Nat) : Nat:=x &&& (18446744073709551615 - y)
theorem Abh {x y : Int} (hx : WW x) (hy : WW y) : IntKind.u64.wrap ((BitVec.ofInt IntKind.u64.bits x &&& ~~~ BitVec.ofInt IntKind.u64.bits y).toNat : Nat) = ((Abn x.toNat y.toNat : Nat) : Int):=by
 rw [Wy (Gx _),BitVec.toNat_and,BitVec.toNat_not,BI hx,BI hy]
 rfl
theorem Abo {x y j : Nat} (hx : x < 18446744073709551616) (hy : y < 18446744073709551616) : (Abn x y).testBit j = (x.testBit j && !y.testBit j):=by
 unfold Abn
 rw [Nat.testBit_and]
 by_cases hj : j < 64
 ·have e : 18446744073709551615 - y = 2 ^ 64 - (y + 1):=by omega
  rw [e,Nat.testBit_two_pow_sub_succ (by simpa using hy)]
  simp [hj]
 ·have : x.testBit j = false:=Nat.testBit_lt_two_pow (Nat.lt_of_lt_of_le hx (Nat.pow_le_pow_right (by decide : 0 < 2) (show 64 ≤ j by omega)))
  simp [this]
theorem Aav {x y : Nat} (hx : x < 18446744073709551616) : x &&& y < 18446744073709551616:=Nat.lt_of_le_of_lt Nat.and_le_left hx
theorem AcY {x y : Nat} (hx : x < 18446744073709551616) (hy : y < 18446744073709551616) : x ||| y < 18446744073709551616:=by
 have:=Nat.or_lt_two_pow (n:=64) (x:=x) (y:=y) (by simpa using hx) (by simpa using hy)
 simpa using this
theorem Aev {x : Nat} (h0 : 0 < x) (h : x < 18446744073709551616) :
  Lib.ctz 64 x < 64 ∧ x.testBit (Lib.ctz 64 x) = true ∧ (∀ j,j < Lib.ctz 64 x → x.testBit j = false) ∧ ∀ j,(x &&& (x - 1)).testBit j = (x.testBit j && decide (j ≠ Lib.ctz 64 x)):=by
 unfold Lib.ctz
 rw [if_neg (by omega)]
 obtain ⟨m,hm,hk⟩:=Lib.ctzFrom_spec 64 x h0 (by simpa using h)
 generalize Lib.ctzFrom 64 x = k at hm hk
 have hp : 0 < 2 ^ k:=Nat.two_pow_pos k
 have e1 : x = 2 ^ (k + 1) * m + 2 ^ k:=by rw [hm,Nat.pow_succ,Nat.mul_add,Nat.mul_assoc,Nat.mul_one]
 have e2 : x - 1 = 2 ^ (k + 1) * m + (2 ^ k - 1):=by omega
 have b1 : 2 ^ k < 2 ^ (k + 1):=by rw [Nat.pow_succ]; omega
 have t1 : ∀ j,x.testBit j = if j < k + 1 then decide (k = j) else m.testBit (j - (k + 1)):=by
  intro j
  rw [e1,Nat.testBit_two_pow_mul_add _ b1,Nat.testBit_two_pow]
 have t2 : ∀ j,(x - 1).testBit j = if j < k + 1 then decide (j < k) else m.testBit (j - (k + 1)):=by
  intro j
  rw [e2,Nat.testBit_two_pow_mul_add _ (by omega),Nat.testBit_two_pow_sub_one]
 refine ⟨hk,by rw [t1,if_pos (by omega)]; simp,fun j hj=>by rw [t1,if_pos (by omega)]; simp; omega,fun j=>?_⟩
 rw [Nat.testBit_and,t1,t2]
 by_cases hj : j < k + 1
 ·rw [if_pos hj,if_pos hj]
  by_cases hkj : k = j
  ·subst hkj; simp
  ·simp [hkj]
 ·rw [if_neg hj,if_neg hj]
  have : j ≠ k:=by omega
  simp [this]
end Go.Dw
