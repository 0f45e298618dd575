/-
  Plain laws about the typed programs.
-/
import Derived.Test.YtpagjjmondojpaaGreatDoorPa
namespace Go.Proofs.YtpagjjmondojpaaGreatDoor
open Go Go.Dw Go.Proofs
theorem Arr (f : Nz) (to : List Int) (hsl : f.Slots.length <= 500) : Hs (VW f to) λb=>b = true ↔ AdF f to:=by
 unfold VW
 refine .bne (λh=>.pure ⟨λh'=>(by cases h'),λh'=>(h (by rw [h'.1])).elim⟩) λh=>?_
 have hl : to.length = f.Slots.length:=by omega
 refine Hs.loop (λi=>∃ k : Nat,i = (k : Int) /\ k <= to.length /\ ∀ s : Nat,s < k -> 0 <= NS to s /\ NS to s < to.length /\ PY f (NS to s) = PY f s /\ NS to (NS to s) = NS to s) (λi=>to.length - i.toNat) ⟨0,rfl,Nat.zero_le _,λs hs=>absurd hs (Nat.not_lt_zero _)⟩ ?_
 rintro _ ⟨k,rfl,hk,hall⟩
 unfold VA
 refine .dec (λhlt=>?_) λhge=>.lft (.pure ⟨λ_=>⟨hl,λs hs=>hall s (by omega)⟩,λ_=>rfl⟩)
 have hlt : k < to.length:=by omega
 have hg : to[k]? = some (NS to k):=by have:=Qw (to:=to) (s:=k) (by omega) (by omega); simpa using this
 rw [OD,hg,Option.bind_some]
 have no : ∀ {p : Prop},¬ p -> (AdF f to -> p) -> Hs (lft (some false) : Option (Int ⊕ Bool)) (Rnd (λi=>∃ k : Nat,i = (k : Int) /\ k <= to.length /\ ∀ s : Nat,s < k -> 0 <= NS to s /\ NS to s < to.length /\ PY f (NS to s) = PY f s /\ NS to (NS to s) = NS to s) (λi=>to.length - i.toNat) (k : Int) λb=>b = true ↔ AdF f to) :=
  λhp hq=>.lft (.pure ⟨λh=>(by cases h),λh=>(hp (hq h)).elim⟩)
 refine .dec (λh0=>no (p:=0 <= NS to k) (by omega) λh=>(h.2 k hlt).1) λh0=>?_
 refine .dec (λh1=>no (p:=NS to k < to.length) (by omega) λh=>(h.2 k hlt).2.1) λh1=>?_
 refine Hs.bind (Hs.ix (i:=NS to k) (P:=λx=>x.Size = PY f (NS to k)) (by omega) (by omega) λx hx=>ZE hx) λa ha=>?_
 refine Hs.bind (Hs.ix (i:=(k : Int)) (P:=λx=>x.Size = PY f k) (by omega) (by omega) λx hx=>ZE hx) λb hb=>?_
 rw [ha,hb]
 refine .bne (λh2=>no h2 λh=>(h.2 k hlt).2.2.1) λh2=>?_
 rw [OR _ (by omega),Qw (by omega) (by omega),Option.bind_some]
 refine .bne (λh3=>no h3 λh=>(h.2 k hlt).2.2.2) λh3=>?_
 rw [NT (by omega)]
 refine .cnt ⟨⟨k + 1,rfl,hlt,λs hs=>?_⟩,by simp only; omega⟩
 by_cases e : s = k
 ·subst e; exact ⟨by omega,by omega,h2,h3⟩
 ·exact hall s (by omega)
theorem AkE {f : Nz} (hf : Om f) (r : NM) : Hs (UC f r) λe=>(e = 0 \/ e = 12) /\ (e = 0 ↔ Sj f r):=by
 have hlen:=hf.len'
 unfold UC
 refine (Arr f r.To hf.slots).bind λb hb=>.cond (λh=>.pure ⟨.inr rfl,λh=>by omega,λh'=>?_⟩) λh=>?_
 ·rw [hb.2 h'.1] at h; cases h
 have hv : AdF f r.To:=hb.1 (by simpa using h)
 refine .bne (λh=>.pure ⟨.inr rfl,λh=>by omega,λh'=>(h (by rw [h'.2.1])).elim⟩) λh=>?_
 have hkl : r.Keep.length = f.Code.length:=by omega
 unfold Xe
 refine Hs.loop (λi=>∃ k : Nat,i = (k : Int) /\ k <= f.Code.length /\ ∀ j : Nat,j < k -> Og r.Keep j = false -> (Ny f j).Op = 16 \/ (Ny f j).Op = 17) (λi=>f.Code.length - i.toNat) ⟨0,rfl,Nat.zero_le _,λs hs=>absurd hs (Nat.not_lt_zero _)⟩ ?_
 rintro _ ⟨k,rfl,hk,hall⟩
 unfold Xd
 refine .dec (λhlt=>?_) λhge=>.lft (.pure ⟨.inl rfl,λ_=>⟨hv,hkl,λj hj=>hall j (by omega)⟩,λ_=>rfl⟩)
 have hlt : k < f.Code.length:=by omega
 have hx:=hf.at (j:=(k : Int)) (by omega) (by omega)
 rw [Int.toNat_natCast] at hx
 have hg : r.Keep[k]? = some (Og r.Keep k):=by simp [Og,show k < r.Keep.length by omega]
 have stp : (Og r.Keep k = false -> (Ny f k).Op = 16 \/ (Ny f k).Op = 17) -> ∀ j : Nat,j < k + 1 -> Og r.Keep j = false -> (Ny f j).Op = 16 \/ (Ny f j).Op = 17:=by
  intro h j hj
  by_cases e : j = k
  ·subst e; exact h
  ·exact hall j (by omega)
 simp only [OD,hx.1,hg,Option.bind_some]
 rw [NT (by omega)]
 refine .cond (λh=>?_) λh=>.cnt ⟨⟨k + 1,rfl,hlt,stp λh'=>by rw [h'] at h; cases h⟩,by simp only; omega⟩
 have hkf : Og r.Keep k = false:=by simpa using h
 unfold WE
 rw [AkL,Option.bind_some,Option.bind_some]
 by_cases hd : (Ny f k).Op = 16 \/ (Ny f k).Op = 17
 ·rw [if_pos hd]
  exact .cnt ⟨⟨k + 1,rfl,hlt,stp λ_=>hd⟩,by simp only; omega⟩
 ·rw [if_neg hd]
  exact .lft (.pure ⟨.inr rfl,λh=>by omega,λh=>(hd (h.2.2 k hlt hkf)).elim⟩)
def RD (f : Nz) (l : List (List Int)) (r : NM) (k : Nat) (y : Int) : Prop :=
 ((Ny f k).Op = 16 \/ (Ny f k).Op = 17) /\ ¬ ((Ny f k).Op = 17 /\ NS r.To (Ny f k).A = NS r.To (Ny f k).B) /\ y ∈ NZ l k /\ (Og r.Keep k = true ↔ y ≠ (Ny f k).A) /\ NS r.To y = NS r.To (Ny f k).A
theorem Anq {f : Nz} (hf : Om f) (hd : Rf f) {l : NQ} (hl : Qp f l.Out) {r : NM} (hr : Sj f r) {k : Nat} (hk : k < f.Code.length) :
  Hs (PG (k : Int) f r l) λq=>q.2 = true ↔ ∃ y,RD f l.Out r k y:=by
 have hsl:=hf.slots
 have htl:=hr.1.1
 have hx:=hf.at (j:=(k : Int)) (by omega) (by omega)
 have hrow:=hl.at (j:=(k : Int)) (by omega) (by omega)
 rw [Int.toNat_natCast] at hx hrow
 have hlo:=hrow.2.1.length_le
 have hg : r.Keep[k]? = some (Og r.Keep k):=by have:=hr.2.1; simp [Og,show k < r.Keep.length by omega]
 have tg : ∀ s : Int,0 <= s -> s < f.Slots.length -> ixO r.To s = some (NS r.To s):=λs h0 h1=>by rw [OR _ h0,Qw h0 (by omega)]
 unfold PG
 simp only [OD,hx.1,Option.bind_some,AkL]
 by_cases hdef : (Ny f k).Op = 16 \/ (Ny f k).Op = 17
 ·rw [if_pos hdef]
  simp only [Bool.not_true,cond_false]
  have hA:=hd _ hx.2 hdef
  have inner : ¬ ((Ny f k).Op = 17 /\ NS r.To (Ny f k).A = NS r.To (Ny f k).B) -> Hs (Pg l (k : Int) r ((Ny f k).A,true)) λq=>q.2 = true ↔ ∃ y,RD f l.Out r k y:=by
   intro hnm
   unfold Pg
   rw [OD,hrow.1,Option.bind_some]
   refine Hs.loop (λi=>∃ j : Nat,i = (j : Int) /\ j <= (NZ l.Out k).length /\ ∀ y ∈ (NZ l.Out k).take j,¬ RD f l.Out r k y) (λi=>(NZ l.Out k).length - i.toNat) ⟨0,rfl,Nat.zero_le _,λy hy=>by simp at hy⟩ ?_
   rintro _ ⟨j,rfl,hj,hno⟩
   unfold PW
   refine .dec (λhlt=>?_) λhge=>.lft (.pure ⟨λh=>(by cases h),λ⟨y,hy⟩=>?_⟩)
   ·have hlt : j < (NZ l.Out k).length:=by omega
    have hgx : (NZ l.Out k)[j]? = some (NZ l.Out k)[j]:=List.getElem?_eq_getElem _
    have hxm:=List.getElem_mem hlt
    have htk : (NZ l.Out k).take (j + 1) = (NZ l.Out k).take j ++ [(NZ l.Out k)[j]]:=by rw [List.take_add_one,hgx]; rfl
    generalize (NZ l.Out k)[j] = y at hgx hxm htk
    have hy0:=(hrow.2.1.2 y hxm).1
    have hyn:=hrow.2.2 y hxm
    have stp : ¬ RD f l.Out r k y -> ∀ z ∈ (NZ l.Out k).take (j + 1),¬ RD f l.Out r k z:=by
     intro h z hz
     rw [htk] at hz
     rcases List.mem_append.1 hz with hz | hz
     ·exact hno z hz
     ·rw [List.mem_singleton.1 hz]; exact h
    simp only [OD,hgx,hg,tg _ hy0 hyn,tg _ hA.1 hA.2,Option.bind_some]
    rw [NT (by omega)]
    have hky : (Og r.Keep k == (y != (Ny f k).A)) = true ↔ (Og r.Keep k = true ↔ y ≠ (Ny f k).A):=by
     rw [beq_iff_eq]
     by_cases e : y = (Ny f k).A <;> cases Og r.Keep k <;> simp [e]
    refine .cond (λh1=>.beq (λh2=>.lft (.pure ⟨λ_=>⟨y,hdef,hnm,hxm,hky.1 h1,h2⟩,λ_=>rfl⟩)) λh2=>?_) λh1=>?_
    ·exact .cnt ⟨⟨j + 1,rfl,hlt,stp λh=>h2 h.2.2.2.2⟩,by simp only; omega⟩
    ·exact .cnt ⟨⟨j + 1,rfl,hlt,stp λh=>by rw [hky.2 h.2.2.2.1] at h1; cases h1⟩,by simp only; omega⟩
   ·refine (hno y ?_ hy).elim
    rw [List.take_of_length_le (by omega)]
    exact hy.2.2.1
  refine .beq (λh17=>?_) λh17=>inner λh=>h17 h.1
  have hB:=hf.uses _ hx.2 (Ny f k).B (by simp [OE,h17])
  rw [tg _ hA.1 hA.2,Option.bind_some,tg _ hB.1 hB.2,Option.bind_some]
  exact .beq (λh=>.pure ⟨λh=>(by cases h),λ⟨y,hy⟩=>(hy.2.1 ⟨h17,h⟩).elim⟩) λh=>inner λh'=>h h'.2
 ·rw [if_neg hdef]
  simp only [Bool.not_false,cond_true]
  exact .pure ⟨λh=>(by cases h),λ⟨y,hy⟩=>(hdef hy.1).elim⟩
theorem AoD {f : Nz} (hf : Om f) (hd : Rf f) {l : NQ} (hl : Acc f l.Out) {r : NM} (hr : Sj f r) : Hs (Tv f l r) λq=>q.2.2 = true ↔ ∃ k y,k < f.Code.length /\ RD f l.Out r k y:=by
 have hlen:=hf.len'
 unfold Tv
 refine (Anp hf (hl.1.len hf)).bind λe he=>.bne (λh=>(h (he.2.2 hl)).elim) λ_=>?_
 refine (AkE hf r).bind λe he=>.bne (λh=>(h (he.2.2 hr)).elim) λ_=>?_
 unfold TI
 refine Hs.loop (λi=>∃ k : Nat,i = (k : Int) /\ k <= f.Code.length /\ ∀ j y,j < k -> ¬ RD f l.Out r j y) (λi=>f.Code.length - i.toNat) ⟨0,rfl,Nat.zero_le _,λs _ hs=>absurd hs (Nat.not_lt_zero _)⟩ ?_
 rintro _ ⟨k,rfl,hk,hall⟩
 unfold TG
 refine .dec (λhlt=>?_) λhge=>.lft (.pure ⟨λh=>(by cases h),λ⟨j,y,hj,hy⟩=>(hall j y (by omega) hy).elim⟩)
 have hlt : k < f.Code.length:=by omega
 refine (Anq hf hd hl.1 hr hlt).bind λq hq=>.cond (λh=>?_) λh=>?_
 ·obtain ⟨y,hy⟩:=hq.1 h
  exact .lft (.pure ⟨λ_=>⟨k,y,hlt,hy⟩,λ_=>rfl⟩)
 ·rw [NT (by omega)]
  refine .cnt ⟨⟨k + 1,rfl,hlt,λj y hj hy=>?_⟩,by simp only; omega⟩
  by_cases e : j = k
  ·subst e; rw [hq.2 ⟨y,hy⟩] at h; cases h
  ·exact hall j y (by omega) hy
theorem AhR {f : Nz} (hf : Om f) (hd : Rf f) {l : NQ} (hl : YG l.Out) (r : NM) :
  Hs (Su f l r) λe=>(¬ Acc f l.Out /\ e = 11) \/ (Acc f l.Out /\ (¬ Sj f r \/ ∃ k y,k < f.Code.length /\ RD f l.Out r k y) /\ e = 12) \/ (Acc f l.Out /\ Sj f r /\ (∀ k y,k < f.Code.length -> ¬ RD f l.Out r k y) /\ e = 0):=by
 unfold Su
 refine (Anp hf hl).bind λe he=>.bne (λh=>.pure (.inl ⟨λh'=>h (he.2.2 h'),rfl⟩)) λh=>?_
 have ha:=he.2.1 h
 refine (AkE hf r).bind λe he=>.bne (λh=>.pure (.inr (.inl ⟨ha,.inl λh'=>h (he.2.2 h'),rfl⟩))) λh=>?_
 have hr:=he.2.1 h
 refine (AoD hf hd ha hr).bind λq hq=>.cond (λh=>.pure (.inr (.inl ⟨ha,.inr (hq.1 h),rfl⟩))) λh=>.pure (.inr (.inr ⟨ha,hr,λk y hk hy=>?_,rfl⟩))
 rw [hq.2 ⟨k,y,hk,hy⟩] at h; cases h
end Go.Proofs.YtpagjjmondojpaaGreatDoor
namespace Go.Proofs.YtpagjjmondojpaaGreatDoor
open Go Go.Dw Go.Proofs
structure Two (ps : List Int) (p q : NN) (i : Nat) (f g : Nz) (r : NM) (used nm pl : List Int) (l : List (List Int)) : Prop where
 hp : Vz ps p
 hq : Vz ps q
 hi : p.Funcs[i]? = some f
 set : q.Funcs = p.Funcs.set i g
 rw : AdE f g r used nm pl
 AaF : Om f
 defs : Rf f
 acc : Acc f l
 keeps : ∀ k y,k < f.Code.length -> ¬ RD f l r k y
def Abn (f : Nz) (l : List (List Int)) (k : Nat) : List Int:=inN (Ny f k) (NZ l k)
def AjY (f : Nz) (r : NM) (used nm : List Int) (L : List Int) (cs cs' : List NL) : Prop :=
 ∀ s ∈ L,NS r.To s ∈ used -> ∀ c : NL,cs[s.toNat]? = some c -> c.ok = true -> cs'[(NS nm s).toNat]? = some c
structure Yc (i : Nat) (f : Nz) (r : NM) (used nm : List Int) (l : List (List Int)) (a a' : VS) : Prop where
 fn : a'.f = a.f
 args : a'.args = a.args
 other : a.f ≠ i -> a'.at_ = a.at_ /\ a'.slots = a.slots
 here : a.f = i -> a'.at_ = kept r.Keep a.at_.toNat /\ AjY f r used nm (Abn f l a.at_.toNat) a.slots a'.slots
structure Rel (i : Nat) (f : Nz) (r : NM) (used nm : List Int) (l : List (List Int)) (m m' : Mch) : Prop where
 regs : m'.regs = m.regs
 input : m'.input = m.input
 tr : m'.out.Trace = m.out.Trace
 code : m'.out.Code = m.out.Code
 res : m'.out.Result = m.out.Result
 steps : m'.out.Steps <= m.out.Steps
 len : m'.acts.length = m.acts.length
 acts : ∀ (j : Nat) a a',m.acts[j]? = some a -> m'.acts[j]? = some a' -> Yc i f r used nm l a a'
def AqF (o o' : Oz) : Prop:=o'.Kind = o.Kind /\ o'.Code = o.Code /\ o'.Result = o.Result /\ o'.Trace = o.Trace /\ o'.Steps <= o.Steps
section
variable {ps : List Int} {p q : NN} {i : Nat} {f g : Nz} {r : NM} {used nm pl : List Int} {l : List (List Int)}
theorem Rel.stp {m m' : Mch} (h : Rel i f r used nm l m m') {a a' : VS} {t t' : Int} {cs cs' ar ar' : List NL} (gs : OB) (inp : List Int) (tr : List NF) (hA : Yc i f r used nm l ⟨a.f,t,cs,ar⟩ ⟨a'.f,t',cs',ar'⟩) : Rel i f r used nm l (OL m a t gs cs ar inp tr) (OL m' a' t' gs cs' ar' inp tr):=by
 have hs:=h.steps
 have hl:=h.len
 refine ⟨rfl,rfl,rfl,h.code,h.res,by simp only [OL]; omega,by simp only [OL,List.length_set]; exact hl,λj b b' hb hb'=>?_⟩
 simp only [OL] at hb hb'
 by_cases e : m.acts.length - 1 = j
 ·have h1:=(List.getElem?_eq_some_iff.1 hb).1
  rw [List.length_set] at h1
  rw [e,List.getElem?_set_self h1] at hb
  rw [hl,e,List.getElem?_set_self (by omega)] at hb'
  obtain rfl:=Option.some.inj hb
  obtain rfl:=Option.some.inj hb'
  exact hA
 ·rw [List.getElem?_set_ne e] at hb
  rw [List.getElem?_set_ne (by omega)] at hb'
  exact h.acts j b b' hb hb'
theorem Rel.alone {m m' : Mch} (h : Rel i f r used nm l m m') {a a' : VS} (ha' : m'.acts[m'.acts.length - 1]? = some a') {t : Int} {cs ar : List NL} (hA : Yc i f r used nm l ⟨a.f,t,cs,ar⟩ a') : Rel i f r used nm l (OL m a t m.regs cs ar m.input m.out.Trace) m':=by
 have hs:=h.steps
 have hl:=h.len
 refine ⟨h.regs,h.input,h.tr,h.code,h.res,by simp only [OL]; omega,by simp only [OL,List.length_set]; exact hl,λj b b' hb hb'=>?_⟩
 simp only [OL] at hb
 by_cases e : m.acts.length - 1 = j
 ·have h1:=(List.getElem?_eq_some_iff.1 hb).1
  rw [List.length_set] at h1
  rw [e,List.getElem?_set_self h1] at hb
  obtain rfl:=Option.some.inj hb
  rw [<- e,<- hl,ha'] at hb'
  obtain rfl:=Option.some.inj hb'
  exact hA
 ·rw [List.getElem?_set_ne e] at hb
  exact h.acts j b b' hb hb'
theorem Rel.ret {m m' : Mch} (h : Rel i f r used nm l m m') : Rel i f r used nm l (AbO m) (AbO m'):=by
 have hs:=h.steps
 have hl:=h.len
 refine ⟨h.regs,h.input,h.tr,h.code,h.res,by simp only [AbO]; omega,by simp only [AbO,List.length_take,hl],λj b b' hb hb'=>?_⟩
 simp only [AbO] at hb hb'
 have h1:=(List.getElem?_eq_some_iff.1 hb).1
 have h2:=(List.getElem?_eq_some_iff.1 hb').1
 rw [List.length_take] at h1 h2
 rw [List.getElem?_take_of_lt (by omega)] at hb hb'
 exact h.acts j b b' hb hb'
theorem Rel.call {m m' : Mch} (h : Rel i f r used nm l m m') {a a' : VS} (hA : Yc i f r used nm l ⟨a.f,a.at_ + 1,a.slots,a.args⟩ ⟨a'.f,a'.at_ + 1,a'.slots,a'.args⟩) {j : Int} {n n' : Nat} (hn : j ≠ i -> n' = n) : Rel i f r used nm l (XF m a j n) (XF m' a' j n'):=by
 have hb:=h.stp m.regs m.input m.out.Trace hA
 have hs:=h.steps
 have hl:=h.len
 refine ⟨h.regs,h.input,h.tr,h.code,h.res,by simp only [XF]; omega,by simp only [XF,List.length_append,List.length_set,List.length_singleton,hl],λk b b' hb1 hb2=>?_⟩
 simp only [XF] at hb1 hb2
 by_cases e : k < m.acts.length
 ·rw [List.getElem?_append_left (by simpa using e)] at hb1
  rw [List.getElem?_append_left (by simp; omega)] at hb2
  exact hb.acts k b b' hb1 hb2
 ·have hk2 : k = m.acts.length:=by
   have:=(List.getElem?_eq_some_iff.1 hb1).1
   simp at this; omega
  rw [List.getElem?_append_right (by simp; omega)] at hb1 hb2
  simp [hk2] at hb1
  simp [hk2,hl] at hb2
  subst hb1 hb2
  refine ⟨rfl,rfl,λhj=>⟨rfl,by simp only; rw [hn hj]⟩,λ_=>⟨by simp [kept],λs _ _ c hc ok=>?_⟩⟩
  simp only at hc
  have:=List.mem_replicate.1 (List.mem_of_getElem? hc)
  rw [this.2] at ok
  cases ok
structure AqG (i : Nat) (f : Nz) (r : NM) (used nm : List Int) (l : List (List Int)) (a a' : VS) (f0 f0' : Nz) (x x' : NC) : Prop where
 same : x.Op < 15 \/ x.Op = 18 \/ x.Op = 19 \/ x.Op = 22 \/ x.Op = 23 \/ x.Op = 24 -> x' = x
 next : x.Op ≠ 16 -> x.Op ≠ 17 -> x.Op ≠ 20 -> x.Op ≠ 23 -> x.Op ≠ 24 -> ∀ ar,Yc i f r used nm l ⟨a.f,a.at_ + 1,a.slots,ar⟩ ⟨a'.f,a'.at_ + 1,a'.slots,ar⟩
 load : x.Op = 15 -> x'.Op = 15 /\ x'.A = x.A /\ ∀ c : NL,ixO a.slots x.B = some c -> c.ok = true -> ixO a'.slots x'.B = some c
 store : x.Op = 16 -> x'.Op = 16 /\ x'.B = x.B /\ (0 <= x'.A /\ x'.A < a'.slots.length) /\ (∃ z z',ixO f0.Slots x.A = some z /\ ixO f0'.Slots x'.A = some z' /\ z'.Size = z.Size) /\ ∀ c,Yc i f r used nm l ⟨a.f,a.at_ + 1,a.slots.set x.A.toNat c,a.args⟩ ⟨a'.f,a'.at_ + 1,a'.slots.set x'.A.toNat c,a'.args⟩
 move : x.Op = 17 -> x'.Op = 17 /\ (0 <= x'.A /\ x'.A < a'.slots.length) /\ ∀ c : NL,ixO a.slots x.B = some c -> c.ok = true -> ixO a'.slots x'.B = some c /\ Yc i f r used nm l ⟨a.f,a.at_ + 1,a.slots.set x.A.toNat ⟨c.v,true⟩,a.args⟩ ⟨a'.f,a'.at_ + 1,a'.slots.set x'.A.toNat ⟨c.v,true⟩,a'.args⟩
 jump : x.Op = 20 -> x'.Op = 20 /\ Yc i f r used nm l ⟨a.f,x.A,a.slots,a.args⟩ ⟨a'.f,x'.A,a'.slots,a'.args⟩
 branch : x.Op = 21 -> x'.Op = 21 /\ x'.A = x.A /\ Yc i f r used nm l ⟨a.f,x.B,a.slots,a.args⟩ ⟨a'.f,x'.B,a'.slots,a'.args⟩
def Fol (i : Nat) (f : Nz) (r : NM) (used nm : List Int) (l : List (List Int)) (m m' : Mch) : Prop :=
 ∃ M,NX m = some M /\ ((M.done = true /\ M.out.Kind = 3) \/ (M.done = false /\ Rel i f r used nm l M m') \/ ∃ M',NX m' = some M' /\ ((M.done = true /\ M'.done = true /\ AqF M.out M'.out) \/ (M.done = false /\ M'.done = false /\ Rel i f r used nm l M M')))
theorem AiU (T : Two ps p q i f g r used nm pl l) {m m' : Mch} (h : MOk p m) (h' : MOk q m') (R : Rel i f r used nm l m m') {a a' : VS} {f0 f0' : Nz} {x x' : NC} (ht : Top m a f0 x) (ht' : Top m' a' f0' x') (hg : GOk ps a.f f0) (hx : f0.Code[a.at_.toNat]? = some x) (asl : a.slots.length = f0.Slots.length) (hA : Yc i f r used nm l a a') (P : AqG i f r used nm l a a' f0 f0' x x') : Fol i f r used nm l m m':=by
 have hl:=R.len
 have hst:=R.steps
 have und : (∃ M,NX m = some M /\ M.done = true /\ M.out.Kind = 3 /\ M.out.Trace = m.out.Trace) -> Fol i f r used nm l m m':=λ⟨M,h1,h2,h3,_⟩=>⟨M,h1,.inl ⟨h2,h3⟩⟩
 have go : ∀ {t t' : Int} {gs : OB} {cs cs' ar ar' : List NL} {inp : List Int} {tr : List NF},NX m = some (OL m a t gs cs ar inp tr) -> NX m' = some (OL m' a' t' gs cs' ar' inp tr) -> Yc i f r used nm l ⟨a.f,t,cs,ar⟩ ⟨a'.f,t',cs',ar'⟩ -> Fol i f r used nm l m m' :=
  λe1 e2 hr=>⟨_,e1,.inr (.inr ⟨_,e2,.inr ⟨h.run,h'.run,R.stp _ _ _ hr⟩⟩)⟩
 have nxa : x.Op ≠ 16 -> x.Op ≠ 17 -> x.Op ≠ 20 -> x.Op ≠ 23 -> x.Op ≠ 24 -> Yc i f r used nm l ⟨a.f,a.at_ + 1,a.slots,a.args⟩ ⟨a'.f,a'.at_ + 1,a'.slots,a'.args⟩:=λh1 h2 h3 h4 h5=>by
  rw [hA.args]; exact P.next h1 h2 h3 h4 h5 a.args
 cases hg.r hx with
 | plain e0 e hA8 hB8 hC8 =>
  have hxx:=P.same (by omega)
  subst hxx
  obtain ⟨v,hv,_⟩:=AnH x' m.regs m.input m.out.Trace hA8 hB8 hC8 ht.tr
  have s1:=ht.plain e
  have s2:=ht'.plain e
  rw [hv,Option.bind_some] at s1
  rw [R.regs,R.input,R.tr,hv,Option.bind_some] at s2
  cases hz : v.2.2.2
  ·rw [hz,cond_false] at s1 s2
   exact go s1 s2 (nxa (by omega) (by omega) (by omega) (by omega) (by omega))
  ·rw [hz,cond_true] at s1 s2
   exact ⟨_,s1,.inr (.inr ⟨_,s2,.inl ⟨rfl,rfl,rfl,R.code,R.res,rfl,by simp only [Abj,OL]; omega⟩⟩)⟩
 | load e hA8 hB hB1 =>
  obtain ⟨p1,p2,p3⟩:=P.load e
  have hc : ixO a.slots x.B = some (a.slots[x.B.toNat]'(by omega)):=by rw [OR _ hB]; exact List.getElem?_eq_getElem _
  generalize (a.slots[x.B.toNat]'(by omega)) = c at hc
  obtain ⟨q1,q2⟩:=ht.s15 e hA8 hc
  cases ok : c.ok
  ·exact und (q2 ok)
  ·have s2:=(ht'.s15 p1 (by rw [p2]; exact hA8) (p3 c hc ok)).1 ok
   rw [R.regs,R.input,R.tr,p2] at s2
   exact go (q1 ok) s2 (nxa (by omega) (by omega) (by omega) (by omega) (by omega))
 | store e hA0 hA1 hB8 =>
  obtain ⟨p1,p2,p3,⟨z,z',z1,z2,z3⟩,p4⟩:=P.store e
  obtain ⟨v,hv,_⟩:=AjS (Acy m.regs x.B) z.Size
  have s1:=ht.s16 e (by omega) hB8 z1 hv
  have s2:=ht'.s16 p1 p3 (by rw [p2]; exact hB8) z2 (v:=v) (by rw [R.regs,p2,z3]; exact hv)
  rw [R.regs,R.input,R.tr] at s2
  exact go s1 s2 (p4 _)
 | move e hA0 hA1 hB hB1 =>
  obtain ⟨p1,p2,p3⟩:=P.move e
  have hc : ixO a.slots x.B = some (a.slots[x.B.toNat]'(by omega)):=by rw [OR _ hB]; exact List.getElem?_eq_getElem _
  generalize (a.slots[x.B.toNat]'(by omega)) = c at hc
  obtain ⟨q1,q2⟩:=ht.s17 e (by omega) hc
  cases ok : c.ok
  ·exact und (q2 ok)
  ·obtain ⟨p4,p5⟩:=p3 c hc ok
   have s2:=(ht'.s17 p1 p2 p4).1 ok
   rw [R.regs,R.input,R.tr] at s2
   exact go (q1 ok) s2 p5
 | arg e hA8 hB8 =>
  have hxx:=P.same (by omega)
  subst hxx
  have s2:=ht'.s18 e hA8 hB8
  rw [R.regs,R.input,R.tr,hA.args] at s2
  exact go (ht.s18 e hA8 hB8) s2 (P.next (by omega) (by omega) (by omega) (by omega) (by omega) _)
 | param e hA8 hB hB1 =>
  have hxx:=P.same (by omega)
  subst hxx
  have h2:=h.two T.hp ht.ha hg (by omega)
  have hb : m.acts[m.acts.length - 2]? = some (m.acts[m.acts.length - 2]'(by omega)):=List.getElem?_eq_getElem _
  generalize (m.acts[m.acts.length - 2]'(by omega)) = b at hb
  have hb' : m'.acts[m'.acts.length - 2]? = some (m'.acts[m'.acts.length - 2]'(by omega)):=List.getElem?_eq_getElem _
  generalize (m'.acts[m'.acts.length - 2]'(by omega)) = b' at hb'
  have hR:=R.acts (m.acts.length - 2) b b' hb (by rw [<- hl]; exact hb')
  obtain ⟨_,_,_,_,_,e5⟩:=h.all _ b hb
  have hpar : f0.Params < 4:=(T.hp.par.1 _ (List.mem_of_getElem? hg.par)).2
  have hc : ixO b.args x'.B = some (b.args[x'.B.toNat]'(by omega)):=by rw [OR _ hB]; exact List.getElem?_eq_getElem _
  generalize (b.args[x'.B.toNat]'(by omega)) = c at hc
  obtain ⟨q1,q2⟩:=ht.s19 e hA8 h2 hb hc
  cases ok : c.ok
  ·exact und (q2 ok)
  ·have s2:=(ht'.s19 e hA8 (by omega) hb' (c:=c) (by rw [hR.args]; exact hc)).1 ok
   rw [R.regs,R.input,R.tr] at s2
   exact go (q1 ok) s2 (nxa (by omega) (by omega) (by omega) (by omega) (by omega))
 | jump e hA8 =>
  obtain ⟨p1,p2⟩:=P.jump e
  have s2:=ht'.s20 p1
  rw [R.regs,R.input,R.tr] at s2
  exact go (ht.s20 e) s2 p2
 | branch e hA8 hB =>
  obtain ⟨p1,p2,p3⟩:=P.branch e
  have s1:=ht.s21 e hA8
  have s2:=ht'.s21 p1 (by rw [p2]; exact hA8)
  rw [R.regs,R.input,R.tr,p2] at s2
  by_cases hz : (Acy m.regs x.A).Lo ≠ 0
  ·rw [if_pos hz] at s1 s2
   exact go s1 s2 p3
  ·rw [if_neg hz] at s1 s2
   exact go s1 s2 (nxa (by omega) (by omega) (by omega) (by omega) (by omega))
 | call e hA0 hA1 =>
  have hxx:=P.same (by omega)
  subst hxx
  have hpl:=T.hp.len
  have hql:=T.hq.len
  have a00:=(Qh ht.hf).1
  have hq : ixO p.Funcs x'.A = some (p.Funcs[x'.A.toNat]'(by omega)):=by rw [OR _ (by omega)]; exact List.getElem?_eq_getElem _
  generalize (p.Funcs[x'.A.toNat]'(by omega)) = u at hq
  have hq' : ixO q.Funcs x'.A = some (q.Funcs[x'.A.toNat]'(by omega)):=by rw [OR _ (by omega)]; exact List.getElem?_eq_getElem _
  generalize (q.Funcs[x'.A.toNat]'(by omega)) = u' at hq'
  have g1:=T.hp.all _ u (Qh hq).2.2
  have g2:=T.hq.all _ u' (Qh hq').2.2
  have s1:=ht.s22 e (by rw [h.pr]; exact hq) (by have:=g1.slots; omega)
  have s2:=ht'.s22 e (by rw [h'.pr]; exact hq') (by have:=g2.slots; omega)
  refine ⟨_,s1,.inr (.inr ⟨_,s2,.inr ⟨h.run,h'.run,R.call (nxa (by omega) (by omega) (by omega) (by omega) (by omega)) λhj=>?_⟩⟩)⟩
  have e1:=(Qh hq).2.2
  have e2:=(Qh hq').2.2
  rw [T.set,List.getElem?_set_ne (by omega),e1] at e2
  rw [Option.some.inj e2]
 | ret e =>
  have hxx:=P.same (by omega)
  subst hxx
  obtain ⟨M,q1,q2,q3⟩:=ht.s23 e
  obtain ⟨M',q1',q2',q3'⟩:=ht'.s23 e
  by_cases hn : m.acts.length = 1
  ·obtain ⟨d1,d2⟩:=q3 hn
   obtain ⟨d1',d2'⟩:=q3' (by omega)
   refine ⟨M,q1,.inr (.inr ⟨M',q1',.inl ⟨d1,d1',?_⟩⟩)⟩
   rw [d2,d2',R.regs,R.tr,R.code]
   exact ⟨rfl,rfl,rfl,rfl,by simp only; omega⟩
  ·refine ⟨M,q1,.inr (.inr ⟨M',q1',.inr ?_⟩)⟩
   rw [q2 hn,q2' (by omega)]
   exact ⟨h.run,h'.run,R.ret⟩
 | trap e =>
  have hxx:=P.same (by omega)
  subst hxx
  obtain ⟨M,q1,q2,q3⟩:=ht.s24 e
  obtain ⟨M',q1',q2',q3'⟩:=ht'.s24 e
  refine ⟨M,q1,.inr (.inr ⟨M',q1',.inl ⟨q2,q2',?_⟩⟩)⟩
  rw [q3,q3',R.tr,R.res]
  exact ⟨rfl,rfl,rfl,rfl,by simp only; omega⟩
end
end Go.Proofs.YtpagjjmondojpaaGreatDoor
namespace Go.Proofs.YtpagjjmondojpaaGreatDoor
open Go Go.Dw Go.Proofs
theorem ArC {l : List Int} (h : l.Pairwise (· < ·)) {j k : Nat} {v : Int} (hj : l[j]? = some v) (hk : l[k]? = some v) : j = k:=by
 obtain ⟨j1,rfl⟩:=List.getElem?_eq_some_iff.1 hj
 obtain ⟨k1,e⟩:=List.getElem?_eq_some_iff.1 hk
 have hp:=List.pairwise_iff_getElem.1 h
 rcases Nat.lt_trichotomy j k with c | c | c
 ·have:=hp j k j1 k1 c; omega
 ·exact c
 ·have:=hp k j k1 j1 c; omega
section
variable {ps : List Int} {p q : NN} {i : Nat} {f g : Nz} {r : NM} {used nm pl : List Int} {l : List (List Int)}
theorem ApF {a a' : VS} (hne : a.f ≠ i) (hA : Yc i f r used nm l a a') {f0 : Nz} {x : NC} {np j : Int} {ps : List Int} {T : Int -> Prop} (hr : Yd f0.Slots np j ps T x) (asl : a.slots.length = f0.Slots.length) : AqG i f r used nm l a a' f0 f0 x x:=by
 obtain ⟨e1,e2⟩:=hA.other hne
 have e3:=hA.fn
 have e4:=hA.args
 have ae : a' = a:=by
  obtain ⟨_,_,_,_⟩:=a
  obtain ⟨_,_,_,_⟩:=a'
  simp only at e1 e2 e3 e4
  subst e1 e2 e3 e4
  rfl
 subst ae
 have tr : ∀ {t : Int} {cs ar : List NL},Yc i f r used nm l ⟨a'.f,t,cs,ar⟩ ⟨a'.f,t,cs,ar⟩:=⟨rfl,rfl,λ_=>⟨rfl,rfl⟩,λh=>(hne h).elim⟩
 refine ⟨λ_=>rfl,λ_ _ _ _ _ _=>tr,λe=>⟨e,rfl,λc hc _=>hc⟩,λe=>?_,λe=>?_,λe=>⟨e,tr⟩,λe=>⟨e,rfl,tr⟩⟩
 ·cases hr with
  | store _ h0 h1 _ =>
   have hz : ixO f0.Slots x.A = some (f0.Slots[x.A.toNat]'(by omega)):=by rw [OR _ h0]; exact List.getElem?_eq_getElem _
   exact ⟨e,rfl,⟨h0,by omega⟩,⟨_,_,hz,hz,rfl⟩,λ_=>tr⟩
  | _=>omega
 ·cases hr with
  | move _ h0 h1 h2 h3=>exact ⟨e,⟨h0,by omega⟩,λc hc _=>⟨hc,tr⟩⟩
  | _=>omega
section
variable (T : Two ps p q i f g r used nm pl l) {K : Nat} (hK : K < f.Code.length)
include T hK
theorem Two.out {j : Int} (hj : j ∈ ON (Ny f K) K) (j0 : 0 <= j) {s : Int} (hs : s ∈ Abn f l j.toNat) : s ∈ NZ l K:=by
 have : ((j.toNat : Nat) : Int) = j:=Int.toNat_of_nonneg j0
 unfold Abn at hs
 rw [this] at hs
 exact T.acc.mem T.AaF hK hj hs
theorem Two.mem (s : Int) : s ∈ Abn f l K ↔ (s ∈ NZ l K /\ ¬ (((Ny f K).Op = 16 \/ (Ny f K).Op = 17) /\ (Ny f K).A = s)) \/ s ∈ OE (Ny f K):=by
 obtain ⟨o1,o2⟩:=T.acc.1.at (j:=(K : Int)) (by omega) (by omega)
 exact (Xs T.AaF (T.AaF.at (j:=(K : Int)) (by omega) (by omega)).2 o2).2 s
theorem Two.outs {s : Int} (hs : s ∈ NZ l K) : 0 <= s /\ s < f.Slots.length:=by
 obtain ⟨o1,o2⟩:=T.acc.1.at (j:=(K : Int)) (by omega) (by omega)
 exact ⟨(o2.1.2 s hs).1,o2.2 s hs⟩
end
section
variable (T : Two ps p q i f g r used nm pl l)
include T
theorem Two.Arf {s t : Int} (s0 : 0 <= s) (s1 : s < f.Slots.length) (t0 : 0 <= t) (t1 : t < f.Slots.length) (hu : NS r.To s ∈ used) (hut : NS r.To t ∈ used) : (NS nm s).toNat = (NS nm t).toNat ↔ NS r.To s = NS r.To t:=by
 obtain ⟨_,a1,a2⟩:=T.rw.nmS s0 s1
 obtain ⟨_,b1,b2⟩:=T.rw.nmS t0 t1
 have a2:=a2 hu
 have b2:=b2 hut
 constructor
 ·intro e
  rw [e,b2] at a2
  exact (Option.some.inj a2).symm
 ·intro e
  rw [e] at a2
  exact ArC T.rw.usd.1.1 a2 b2
theorem Two.wrote {K : Nat} (hK : K < f.Code.length) {cs cs' : List NL} (hcs : AjY f r used nm (Abn f l K) cs cs') {c : NL} (hdef : (Ny f K).Op = 16 \/ (Ny f K).Op = 17) (hn : (K : Int) + 1 ∈ ON (Ny f K) K) (hk : Og r.Keep K = true) (hAl : (Ny f K).A.toNat < cs.length) (hAl' : (NS nm (Ny f K).A).toNat < cs'.length)
  (hm : (Ny f K).Op = 17 -> cs[(Ny f K).B.toNat]? = some c /\ c.ok = true) : AjY f r used nm (Abn f l (K + 1)) (cs.set (Ny f K).A.toNat c) (cs'.set (NS nm (Ny f K).A).toNat c):=by
 have hx:=T.AaF.at (j:=(K : Int)) (by omega) (by omega)
 have hA:=T.defs _ hx.2 hdef
 have hAu : NS r.To (Ny f K).A ∈ used:=by
  have:=T.rw.nms K hK hk (rnS r.To (Ny f K).A) ((AdP _ _ _).2 ⟨_,by unfold Pj; rw [if_pos hdef]; simp,rfl⟩)
  rw [(T.rw.rw.1.rng hA.1 hA.2).2.2] at this
  exact this
 intro s hs hu c1 h1 ok
 have ho : s ∈ NZ l K:=T.out hK hn (by omega) (by rw [show ((K : Int) + 1).toNat = K + 1 by omega]; exact hs)
 have hsr:=T.outs hK ho
 by_cases e : (Ny f K).A = s
 ·subst e
  rw [List.getElem?_set_self hAl] at h1
  rw [List.getElem?_set_self hAl']
  exact h1
 ·rw [List.getElem?_set_ne (by omega)] at h1
  have hl : s ∈ Abn f l K:=(T.mem hK s).2 (.inl ⟨ho,λh=>e h.2⟩)
  have h2:=hcs s hl hu c1 h1 ok
  by_cases e2 : (NS nm (Ny f K).A).toNat = (NS nm s).toNat
  ·have e3:=(T.Arf hA.1 hA.2 hsr.1 hsr.2 hAu hu).1 e2
   by_cases hmv : (Ny f K).Op = 17 /\ NS r.To (Ny f K).A = NS r.To (Ny f K).B
   ·obtain ⟨m1,m2⟩:=hm hmv.1
    have hBu : (Ny f K).B ∈ OE (Ny f K):=by unfold OE; simp [hmv.1]
    have hB:=T.AaF.uses _ hx.2 _ hBu
    have h3:=hcs (Ny f K).B ((T.mem hK _).2 (.inr hBu)) (by rw [<- hmv.2]; exact hAu) c m1 m2
    rw [<- (T.Arf hA.1 hA.2 hB.1 hB.2 hAu (by rw [<- hmv.2]; exact hAu)).2 hmv.2,e2,h2] at h3
    rw [e2,List.getElem?_set_self (by rw [<- e2]; exact hAl')]
    exact h3.symm
   ·exact (T.keeps K s hK ⟨hdef,hmv,ho,⟨λ_ h=>e h.symm,λ_=>hk⟩,e3.symm⟩).elim
  ·rw [List.getElem?_set_ne e2]
   exact h2
end
end
end Go.Proofs.YtpagjjmondojpaaGreatDoor
namespace Go.Proofs.YtpagjjmondojpaaGreatDoor
open Go Go.Dw Go.Proofs
section
variable {ps : List Int} {p q : NN} {i : Nat} {f g : Nz} {r : NM} {used nm pl : List Int} {l : List (List Int)}
theorem Aqp {nm pl : List Int} {x : NC} (h : x.Op < 15 \/ x.Op = 18 \/ x.Op = 19 \/ x.Op = 22 \/ x.Op = 23 \/ x.Op = 24) : mvI pl (rnI nm x) = x:=by
 have e : rnI nm x = x:=by unfold rnI; rw [if_neg (by omega),if_neg (by omega),if_neg (by omega)]
 rw [e]
 unfold mvI
 rw [if_neg (by omega),if_neg (by omega)]
theorem AfV {x : NC} {k : Int} (h0 : x.Op ≠ 20) (h1 : x.Op ≠ 23) (h2 : x.Op ≠ 24) : k + 1 ∈ ON x k:=by
 unfold ON
 rw [if_neg h0,if_neg (by omega)]
 split
 ·split
  ·simp
  ·split <;> simp
 ·simp
theorem ArQ {x : NC} {k : Int} (h : x.Op = 21) : x.B ∈ ON x k:=by
 unfold ON
 rw [if_neg (by omega),if_neg (by omega),if_pos h]
 split
 ·simp
 ·split
  ·simp
  ·have : x.B = k + 1:=by omega
   simp [this]
theorem Aqh (T : Two ps p q i f g r used nm pl l) {a a' : VS} (he : a.f = i) (hA : Yc i f r used nm l a a') {K : Nat} (hat : a.at_ = K) (hK : K < f.Code.length) (hk : Og r.Keep K = true) (hr : Yd f.Slots f.Params i ps (λt=>0 <= t /\ t < f.Code.length) (Ny f K)) (asl : a.slots.length = f.Slots.length) (asl' : a'.slots.length = g.Slots.length) : AqG i f r used nm l a a' f g (Ny f K) (mvI pl (rnI nm (Ny f K))):=by
 have hx:=T.AaF.at (j:=(K : Int)) (by omega) (by omega)
 obtain ⟨e1,hS⟩:=hA.here he
 rw [hat,Int.toNat_natCast] at e1 hS
 have hkl:=T.rw.rw.2.1
 have hst:=AaP (keep:=r.Keep) (k:=K) (by omega)
 rw [if_pos hk] at hst
 have hfn:=hA.fn
 have tr : ∀ {t : Nat} {t' : Int} {cs cs' ar ar' : List NL},ar' = ar -> t' = kept r.Keep t -> AjY f r used nm (Abn f l t) cs cs' -> Yc i f r used nm l ⟨a.f,(t : Int),cs,ar⟩ ⟨a'.f,t',cs',ar'⟩:=λh1 h2 h3=>⟨hfn,h1,λh=>(h he).elim,λ_=>⟨by simpa using h2,by simpa using h3⟩⟩
 have seqS : (Ny f K).Op ≠ 16 -> (Ny f K).Op ≠ 17 -> ∀ j : Int,0 <= j -> j ∈ ON (Ny f K) K -> AjY f r used nm (Abn f l j.toNat) a.slots a'.slots:=λh16 h17 j j0 hj s hs hu c hc ok =>
  hS s ((T.mem hK s).2 (.inl ⟨T.out hK hj j0 hs,λh=>by omega⟩)) hu c hc ok
 have nmU : ∀ s ∈ Pj (Ny f K),0 <= s /\ s < f.Slots.length /\ NS r.To s ∈ used /\ rnS nm s = NS nm s /\ 0 <= NS nm s /\ (NS nm s).toNat < a'.slots.length:=λs hs=>by
  obtain ⟨s0,s1⟩:=Ahu T.AaF T.defs hx.2 hs
  have:=T.rw.nms K hK hk (rnS r.To s) ((AdP _ _ _).2 ⟨s,hs,rfl⟩)
  rw [(T.rw.rw.1.rng s0 s1).2.2] at this
  obtain ⟨n1,n2,_⟩:=T.rw.nmS s0 s1
  exact ⟨s0,s1,this,n1,n2,by rw [asl']; exact (T.rw.slot s0 s1 this).1⟩
 have rdB : (Ny f K).B ∈ OE (Ny f K) -> ∀ c : NL,ixO a.slots (Ny f K).B = some c -> c.ok = true -> ixO a'.slots (rnS nm (Ny f K).B) = some c:=λhu c hc ok=>by
  obtain ⟨_,_,b2,b3,b4,_⟩:=nmU (Ny f K).B (List.mem_append_left _ hu)
  rw [b3,OR _ b4]
  exact hS _ ((T.mem hK _).2 (.inr hu)) b2 c (Qh hc).2.2 ok
 refine ⟨Aqp,λh16 h17 h20 h23 h24 ar=>?_,λe=>?_,λe=>?_,λe=>?_,λe=>?_,λe=>?_⟩
 ·have:=tr (t:=K + 1) (t':=a'.at_ + 1) (ar:=ar) (ar':=ar) rfl (by omega) (by
   have:=seqS h16 h17 ((K : Int) + 1) (by omega) (AfV h20 h23 h24)
   rwa [show ((K : Int) + 1).toNat = K + 1 by omega] at this)
  rw [hat]
  exact this
 ·have ex : mvI pl (rnI nm (Ny f K)) = ⟨(Ny f K).Op,(Ny f K).A,rnS nm (Ny f K).B,(Ny f K).C,(Ny f K).Imm⟩:=by
   unfold rnI mvI; simp [e]
  rw [ex]
  exact ⟨e,rfl,rdB (by unfold OE; simp [e])⟩
 ·have ex : mvI pl (rnI nm (Ny f K)) = ⟨(Ny f K).Op,rnS nm (Ny f K).A,(Ny f K).B,(Ny f K).C,(Ny f K).Imm⟩:=by
   unfold rnI mvI; simp [e]
  obtain ⟨a0,a1,au,an,ap,al⟩:=nmU (Ny f K).A (by unfold Pj; simp [e])
  obtain ⟨_,z',hz1,hz2⟩:=T.rw.slot a0 a1 au
  have hz : ixO f.Slots (Ny f K).A = some (f.Slots[(Ny f K).A.toNat]'(by omega)):=by rw [OR _ a0]; exact List.getElem?_eq_getElem _
  rw [ex]
  simp only [an]
  refine ⟨e,trivial,⟨ap,by omega⟩,⟨_,z',hz,by rw [OR _ ap]; exact hz1,?_⟩,λc=>?_⟩
  ·rw [hz2]; exact (ZE (Qh hz).2.2).symm
  ·rw [hat]
   exact tr (t:=K + 1) hA.args (by omega) (T.wrote hK hS (.inl e) (AfV (by omega) (by omega) (by omega)) hk (by omega) al λh=>by omega)
 ·have ex : mvI pl (rnI nm (Ny f K)) = ⟨(Ny f K).Op,rnS nm (Ny f K).A,rnS nm (Ny f K).B,(Ny f K).C,(Ny f K).Imm⟩:=by
   unfold rnI mvI; simp [e]
  obtain ⟨a0,a1,au,an,ap,al⟩:=nmU (Ny f K).A (by unfold Pj; simp [e])
  rw [ex]
  simp only [an]
  refine ⟨e,⟨ap,by omega⟩,λc hc ok=>⟨rdB (by unfold OE; simp [e]) c hc ok,?_⟩⟩
  have hcc : (⟨c.v,true⟩ : NL) = c:=by rw [<- ok]
  rw [hat,hcc]
  exact tr (t:=K + 1) hA.args (by omega) (T.wrote hK hS (.inr e) (AfV (by omega) (by omega) (by omega)) hk (by omega) al λ_=>⟨(Qh hc).2.2,ok⟩)
 ·have hn : (Ny f K).A ∈ ON (Ny f K) K:=by unfold ON; simp [e]
  have ex : mvI pl (rnI nm (Ny f K)) = ⟨(Ny f K).Op,(pl[(Ny f K).A.toNat]?).getD 0,(Ny f K).B,(Ny f K).C,(Ny f K).Imm⟩:=by
   unfold rnI mvI; simp [e]
  obtain ⟨t0,t1⟩:=(Adz T.AaF hK).1 e
  rw [ex,T.rw.plc _ (by omega)]
  refine ⟨e,?_⟩
  have:=tr (t:=(Ny f K).A.toNat) (t':=(kept r.Keep (Ny f K).A.toNat : Int)) hA.args rfl (seqS (by omega) (by omega) _ t0 hn)
  rwa [Int.toNat_of_nonneg t0] at this
 ·have hn : (Ny f K).B ∈ ON (Ny f K) K:=ArQ e
  have ex : mvI pl (rnI nm (Ny f K)) = ⟨(Ny f K).Op,(Ny f K).A,(pl[(Ny f K).B.toNat]?).getD 0,(Ny f K).C,(Ny f K).Imm⟩:=by
   unfold rnI mvI; simp [e]
  obtain ⟨t0,t1⟩:=(Adz T.AaF hK).2 e
  rw [ex,T.rw.plc _ (by omega)]
  refine ⟨e,rfl,?_⟩
  have:=tr (t:=(Ny f K).B.toNat) (t':=(kept r.Keep (Ny f K).B.toNat : Int)) hA.args rfl (seqS (by omega) (by omega) _ t0 hn)
  rwa [Int.toNat_of_nonneg t0] at this
theorem AoI (T : Two ps p q i f g r used nm pl l) {m m' : Mch} (h : MOk p m) (R : Rel i f r used nm l m m') {a a' : VS} (ha' : m'.acts[m'.acts.length - 1]? = some a') {K : Nat} (ht : Top m a f (Ny f K)) (he : a.f = i) (hA : Yc i f r used nm l a a') (hat : a.at_ = K) (hK : K < f.Code.length) (hk : Og r.Keep K = false) (hr : Yd f.Slots f.Params i ps (λt=>0 <= t /\ t < f.Code.length) (Ny f K)) (asl : a.slots.length = f.Slots.length) : Fol i f r used nm l m m':=by
 have hx:=T.AaF.at (j:=(K : Int)) (by omega) (by omega)
 obtain ⟨e1,hS⟩:=hA.here he
 rw [hat,Int.toNat_natCast] at e1 hS
 have hkl:=T.rw.rw.2.1
 have hst:=AaP (keep:=r.Keep) (k:=K) (by omega)
 rw [if_neg (by rw [hk]; simp)] at hst
 have hop:=T.rw.rw.2.2 K hK hk
 have hAr:=T.defs _ hx.2 hop
 have hn : (K : Int) + 1 ∈ ON (Ny f K) K:=AfV (by omega) (by omega) (by omega)
 have und : (∃ M,NX m = some M /\ M.done = true /\ M.out.Kind = 3 /\ M.out.Trace = m.out.Trace) -> Fol i f r used nm l m m':=λ⟨M,h1,h2,h3,_⟩=>⟨M,h1,.inl ⟨h2,h3⟩⟩
 have go : ∀ {c : NL},NX m = some (OL m a (a.at_ + 1) m.regs (a.slots.set (Ny f K).A.toNat c) a.args m.input m.out.Trace) -> ((Ny f K).Op = 17 -> a.slots[(Ny f K).B.toNat]? = some c /\ c.ok = true) -> Fol i f r used nm l m m':=by
  intro c e hm
  refine ⟨_,e,.inr (.inl ⟨h.run,R.alone ha' ⟨hA.fn,hA.args,λh=>(h he).elim,λ_=>⟨by simp only [hat]; rw [show ((K : Int) + 1).toNat = K + 1 by omega]; omega,?_⟩⟩⟩)⟩
  simp only [hat]
  rw [show ((K : Int) + 1).toNat = K + 1 by omega]
  intro s hs hu c1 h1 ok
  have ho : s ∈ NZ l K:=T.out hK hn (by omega) (by rw [show ((K : Int) + 1).toNat = K + 1 by omega]; exact hs)
  have hsr:=T.outs hK ho
  by_cases e2 : (Ny f K).A = s
  ·subst e2
   rw [List.getElem?_set_self (by omega)] at h1
   obtain rfl:=Option.some.inj h1
   by_cases hmv : (Ny f K).Op = 17 /\ NS r.To (Ny f K).A = NS r.To (Ny f K).B
   ·obtain ⟨m1,m2⟩:=hm hmv.1
    have hBu : (Ny f K).B ∈ OE (Ny f K):=by unfold OE; simp [hmv.1]
    have hB:=T.AaF.uses _ hx.2 _ hBu
    have h3:=hS (Ny f K).B ((T.mem hK _).2 (.inr hBu)) (by rw [<- hmv.2]; exact hu) c m1 m2
    rw [(T.Arf hsr.1 hsr.2 hB.1 hB.2 hu (by rw [<- hmv.2]; exact hu)).2 hmv.2]
    exact h3
   ·exact (T.keeps K (Ny f K).A hK ⟨hop,hmv,ho,⟨λh=>(by rw [hk] at h; cases h),λh=>(h rfl).elim⟩,rfl⟩).elim
  ·rw [List.getElem?_set_ne (by omega)] at h1
   exact hS s ((T.mem hK s).2 (.inl ⟨ho,λh=>e2 h.2⟩)) hu c1 h1 ok
 cases hr with
 | store e h0 h1 hB8 =>
  have hz : ixO f.Slots (Ny f K).A = some (f.Slots[(Ny f K).A.toNat]'(by omega)):=by rw [OR _ h0]; exact List.getElem?_eq_getElem _
  obtain ⟨v,hv,_⟩:=AjS (Acy m.regs (Ny f K).B) (f.Slots[(Ny f K).A.toNat]'(by omega)).Size
  exact go (ht.s16 e (by omega) hB8 hz hv) λh=>by omega
 | move e h0 h1 h2 h3 =>
  have hc : ixO a.slots (Ny f K).B = some (a.slots[(Ny f K).B.toNat]'(by omega)):=by rw [OR _ h2]; exact List.getElem?_eq_getElem _
  generalize (a.slots[(Ny f K).B.toNat]'(by omega)) = c at hc
  obtain ⟨q1,q2⟩:=ht.s17 e (by omega) hc
  cases ok : c.ok
  ·exact und (q2 ok)
  ·have hcc : (⟨c.v,true⟩ : NL) = c:=by rw [<- ok]
   have q1:=q1 ok
   rw [hcc] at q1
   exact go q1 λ_=>⟨(Qh hc).2.2,ok⟩
 | _=>omega
theorem follow (T : Two ps p q i f g r used nm pl l) {m m' : Mch} (h : MOk p m) (h' : MOk q m') (R : Rel i f r used nm l m m') (hs : m.out.Steps <= 100000) : Fol i f r used nm l m m':=by
 have hst:=R.steps
 have hl:=R.len
 obtain ⟨a,f0,x,ht,hg,hx,a0,a1,asl⟩:=h.top T.hp hs
 obtain ⟨a',f0',x',ht',hg',hx',a0',a1',asl'⟩:=h'.top T.hq (by omega)
 have hA:=R.acts _ a a' ht.ha (by rw [<- hl]; exact ht'.ha)
 have hf:=ht.hf
 have hf':=ht'.hf
 rw [h.pr] at hf
 rw [h'.pr] at hf'
 obtain ⟨f1,_,f2⟩:=Qh hf
 have f3:=(Qh hf').2.2
 rw [hA.fn,T.set] at f3
 by_cases he : a.f = i
 ·rw [he,Int.toNat_natCast] at f2
  rw [T.hi] at f2
  obtain rfl:=Option.some.inj f2
  rw [he,Int.toNat_natCast,List.getElem?_set_self (List.getElem?_eq_some_iff.1 T.hi).1] at f3
  obtain rfl:=Option.some.inj f3
  have hxc : x = Ny f a.at_.toNat:=by unfold Ny; rw [Int.toNat_natCast,hx]; rfl
  subst hxc
  have hgr:=hg.r hx
  rw [he] at hgr
  cases hk : Og r.Keep a.at_.toNat
  ·exact AoI T h R ht'.ha ht he hA (by omega) (by omega) hk hgr asl
  ·have hat:=(hA.here he).1
   have hxx:=T.rw.at (j:=a.at_.toNat) (by omega) hk
   rw [hat,Int.toNat_natCast,hxx] at hx'
   obtain rfl:=Option.some.inj hx'
   exact AiU T h h' R ht ht' hg hx asl hA (Aqh T he hA (by omega) (by omega) hk hgr asl asl')
 ·rw [List.getElem?_set_ne (by omega),f2] at f3
  obtain rfl:=Option.some.inj f3
  have hat:=(hA.other he).1
  rw [hat,hx] at hx'
  obtain rfl:=Option.some.inj hx'
  exact AiU T h h' R ht ht' hg hx asl hA (ApF he hA (hg.r hx) asl)
end
end Go.Proofs.YtpagjjmondojpaaGreatDoor
namespace Go.Proofs.YtpagjjmondojpaaGreatDoor
open Go Go.Dw Go.Proofs
section
variable {ps : List Int} {p q : NN} {i : Nat} {f g : Nz} {r : NM} {used nm pl : List Int} {l : List (List Int)}
theorem AjQ {fuel : Int} {m : Mch} (h : m.done = true) : ZL fuel m = some (.inr (m.out,m.deep,0)):=by unfold ZL; rw [if_pos h]
theorem AlE (T : Two ps p q i f g r used nm pl l) {fuel : Int} (hf : fuel <= 100000) : ∀ (k : Nat) (m m' : Mch),MOk p m -> MOk q m' -> Rel i f r used nm l m m' -> ∀ o d e,Abi (ZL fuel) k m = some (o,d,e) -> (o.Kind = 0 \/ o.Kind = 1 \/ o.Kind = 2) -> ∃ o' d' e',NY (ZL fuel) m' = some (o',d',e') /\ AqF o o'
 | 0,_,_,_,_,_,_,_,_,hk,_=>by cases hk
 | k + 1,m,m',h,h',R,o,d,e,hk,ho=>by
  rw [SD] at hk
  have hst:=R.steps
  by_cases hs : m.out.Steps >= fuel
  ·have : ZL fuel m = some (.inr ((Abj m 4).out,m.deep,0)):=by unfold ZL; rw [if_neg (by rw [h.run]; simp),if_pos hs]
   rw [this] at hk
   have:=(Prod.mk.inj (Option.some.inj hk)).1
   rw [<- this] at ho
   simp only [Abj] at ho
   omega
  ·obtain ⟨M,e1,hM⟩:=follow T h h' R (by omega)
   obtain ⟨M0,e0,hM0,_⟩:=AlF T.hp h (by omega)
   rw [e1] at e0
   obtain rfl:=Option.some.inj e0
   have hr : ZL fuel m = some (.inl M):=by unfold ZL; rw [if_neg (by rw [h.run]; simp),if_neg hs,e1]; rfl
   rw [hr] at hk
   simp only at hk
   rcases hM with ⟨d1,d2⟩ | ⟨d1,R1⟩ | ⟨M',e2,hM'⟩
   ·cases k with
    | zero=>cases hk
    | succ k =>
     rw [SD,AjQ d1] at hk
     have:=(Prod.mk.inj (Option.some.inj hk)).1
     rw [<- this,d2] at ho
     omega
   ·obtain ⟨hm,_⟩:=hM0.resolve_left (by rw [d1]; simp)
    exact AlE T hf k M m' hm h' R1 o d e hk ho
   ·have hr' : ZL fuel m' = some (.inl M'):=by unfold ZL; rw [if_neg (by rw [h'.run]; simp),if_neg (by omega),e2]; rfl
    rw [AbX,hr']
    simp only
    rcases hM' with ⟨d1,d2,hO⟩ | ⟨d1,d2,R1⟩
    ·cases k with
     | zero=>cases hk
     | succ k =>
      rw [SD,AjQ d1] at hk
      have:=(Prod.mk.inj (Option.some.inj hk)).1
      rw [AbX,AjQ d2]
      exact ⟨_,_,_,rfl,by rw [<- this]; exact hO⟩
    ·obtain ⟨M0',e0',hM0',_⟩:=AlF T.hq h' (by omega)
     rw [e2] at e0'
     obtain rfl:=Option.some.inj e0'
     obtain ⟨hm,_⟩:=hM0.resolve_left (by rw [d1]; simp)
     obtain ⟨hm',_⟩:=hM0'.resolve_left (by rw [d2]; simp)
     exact AlE T hf k M M' hm hm' R1 o d e hk ho
theorem AsV {p q : NN} (input : List Int) {n n' : Nat} (hn : i ≠ 0 -> n' = n) : Rel i f r used nm l (Ada p input n) (Ada q input n'):=by
 refine ⟨rfl,rfl,rfl,rfl,rfl,Int.le_refl _,rfl,λj a a' ha ha'=>?_⟩
 simp only [Ada] at ha ha'
 cases j with
 | succ j=>simp at ha
 | zero =>
  simp at ha ha'
  subst ha ha'
  refine ⟨rfl,rfl,λhj=>⟨rfl,by simp only; rw [hn (by simp only at hj; omega)]⟩,λ_=>⟨by simp [kept],λs _ _ c hc ok=>?_⟩⟩
  simp only at hc
  have:=List.mem_replicate.1 (List.mem_of_getElem? hc)
  rw [this.2] at ok
  cases ok
theorem Aom (T : Two ps p q i f g r used nm pl l) (input : List Int) {fuel : Int} (h0 : 0 <= fuel) (hf : fuel <= 100000) : Hs (Wx p input fuel) λa=>Hs (Wx q input fuel) λb=>a.2 = 0 /\ b.2 = 0 /\ a.1.Trace.length <= 200000 /\ (a.1.Kind = 0 \/ a.1.Kind = 1 \/ a.1.Kind = 2 -> AqF a.1 b.1):=by
 refine (Aqs T.hp input h0 hf).mono λa ⟨a1,a3,f0,z0,d,a2⟩=>(Aqs T.hq input h0 hf).mono λb ⟨b1,_,g0,z1,d',b2⟩=>⟨a1,b1,a3,λho=>?_⟩
 obtain ⟨k,hk⟩:=Aer.1 a2
 have hn : i ≠ 0 -> g0.Slots.length = f0.Slots.length:=λhi=>by
  rw [T.set,List.getElem?_set_ne hi,z0] at z1
  rw [Option.some.inj z1]
 obtain ⟨o',d2,e2,h1,h2⟩:=AlE T hf k _ _ (AkR T.hp input z0) (AkR T.hq input z1) (AsV input hn) _ _ _ hk ho
 rw [b2] at h1
 rw [(Prod.mk.inj (Option.some.inj h1)).1]
 exact h2
end
end Go.Proofs.YtpagjjmondojpaaGreatDoor
namespace Go.Proofs.YtpagjjmondojpaaGreatDoor
open Go Go.Dw Go.Proofs
instance {f : Nz} {l : List (List Int)} {r : NM} {k : Nat} {y : Int} : Decidable (RD f l r k y):=by unfold RD; infer_instance
theorem RD.mono {f : Nz} {l l' : List (List Int)} {r : NM} {k : Nat} {y : Int} (h : RD f l' r k y) (hs : ∀ v ∈ NZ l' k,v ∈ NZ l k) : RD f l r k y :=
 ⟨h.1,h.2.1,hs y h.2.2.1,h.2.2.2.1,h.2.2.2.2⟩
def UY (f : Nz) (l : List (List Int)) (r : NM) (k : Nat) : Option Int:=(NZ l k).find? λy=>decide (RD f l r k y)
def AfT (o : Option Int) : Int × Bool:=match o with | some y=>(y,true) | none=>(0,false)
theorem ArI {l : List Int} {p : Int -> Bool} {j : Nat} {y : Int} (h : l[j]? = some y) (hp : p y = true) (hn : ∀ z ∈ l.take j,p z = false) : l.find? p = some y:=by
 have e : l = l.take j ++ y :: l.drop (j + 1):=by
  obtain ⟨hl,rfl⟩:=List.getElem?_eq_some_iff.1 h
  rw [List.getElem_cons_drop,List.take_append_drop]
 rw [e,List.find?_append,List.find?_eq_none.2 λz hz=>by simp [hn z hz],Option.none_or,List.find?_cons_of_pos hp]
def AhU (f : Nz) (l : List (List Int)) (r : NM) (q : Int × Int × Bool) : Prop :=
 (∃ (k : Nat) (y : Int),k < f.Code.length /\ UY f l r k = some y /\ (∀ j < k,UY f l r j = none) /\ q = ((k : Int),y,true)) \/ ((∀ j < f.Code.length,UY f l r j = none) /\ q = (0,0,false))
end Go.Proofs.YtpagjjmondojpaaGreatDoor
namespace Go.Proofs.YtpagjjmondojpaaGreatDoor
open Go Go.Dw Go.Proofs
theorem AnK {f : Nz} (hf : Om f) (hd : Rf f) {l : NQ} (hl : Qp f l.Out) {r : NM} (hr : Sj f r) {k : Nat} (hk : k < f.Code.length) :
  Hs (Wt f l r (k : Int)) λq=>q = AfT (UY f l.Out r k):=by
 have hsl:=hf.slots
 have htl:=hr.1.1
 have hx:=hf.at (j:=(k : Int)) (by omega) (by omega)
 have hrow:=hl.at (j:=(k : Int)) (by omega) (by omega)
 rw [Int.toNat_natCast] at hx hrow
 have hlo:=hrow.2.1.length_le
 have hg : r.Keep[k]? = some (Og r.Keep k):=by have:=hr.2.1; simp [Og,show k < r.Keep.length by omega]
 have tg : ∀ s : Int,0 <= s -> s < f.Slots.length -> ixO r.To s = some (NS r.To s):=λs h0 h1=>by rw [OR _ h0,Qw h0 (by omega)]
 have none' : (∀ y,¬ RD f l.Out r k y) -> UY f l.Out r k = none:=λh=>List.find?_eq_none.2 λy _=>by simp [h y]
 unfold Wt
 simp only [OD,hx.1,Option.bind_some,AhZ,AfN]
 by_cases hdef : (Ny f k).Op = 16 \/ (Ny f k).Op = 17
 ·rw [if_pos hdef]
  simp only [Bool.not_true,cond_false]
  have hA:=hd _ hx.2 hdef
  have inner : ¬ ((Ny f k).Op = 17 /\ NS r.To (Ny f k).A = NS r.To (Ny f k).B) -> Hs (RU r (k : Int) l ((Ny f k).A,true)) λq=>q = AfT (UY f l.Out r k):=by
   intro hnm
   unfold RU
   simp only [OD,hg,hrow.1,Option.bind_some]
   refine .cond (λh=>?_) λh=>?_
   ·have hkf : Og r.Keep k = false:=by simpa using h
    rw [AcL _ _ (by omega),Option.bind_some]
    have only : ∀ y,RD f l.Out r k y -> y = (Ny f k).A:=λy hy=>Classical.byContradiction λhn=>by rw [hy.2.2.2.1.2 hn] at hkf; cases hkf
    refine .dec (λhm=>.pure ?_) λhm=>.pure ?_
    ·have hL : RD f l.Out r k (Ny f k).A:=⟨hdef,hnm,hm,⟨λh=>(by rw [h] at hkf; cases hkf),λh=>(h rfl).elim⟩,rfl⟩
     show ((Ny f k).A,true) = AfT (UY f l.Out r k)
     cases hla : UY f l.Out r k with
     | none=>exact ((List.find?_eq_none.1 hla _ hm) (by simp [hL])).elim
     | some y =>
      rw [only y (by simpa using List.find?_some hla)]; rfl
    ·show (0,false) = AfT (UY f l.Out r k)
     rw [none' λy hy=>hm (only y hy ▸ hy.2.2.1)]
     rfl
   ·have hkt : Og r.Keep k = true:=by simpa using h
    refine Hs.loop (λi=>∃ j : Nat,i = (j : Int) /\ j <= (NZ l.Out k).length /\ ∀ y ∈ (NZ l.Out k).take j,¬ RD f l.Out r k y) (λi=>(NZ l.Out k).length - i.toNat) ⟨0,rfl,Nat.zero_le _,λy hy=>by simp at hy⟩ ?_
    rintro _ ⟨j,rfl,hj,hno⟩
    unfold VP
    simp only [OD,hrow.1,Option.bind_some]
    refine .dec (λhlt=>?_) λhge=>.lft (.pure ?_)
    ·have hlt : j < (NZ l.Out k).length:=by omega
     have hgx : (NZ l.Out k)[j]? = some (NZ l.Out k)[j]:=List.getElem?_eq_getElem _
     have hxm:=List.getElem_mem hlt
     have htk : (NZ l.Out k).take (j + 1) = (NZ l.Out k).take j ++ [(NZ l.Out k)[j]]:=by rw [List.take_add_one,hgx]; rfl
     generalize (NZ l.Out k)[j] = y at hgx hxm htk
     have hy0:=(hrow.2.1.2 y hxm).1
     have hyn:=hrow.2.2 y hxm
     have stp : ¬ RD f l.Out r k y -> ∀ z ∈ (NZ l.Out k).take (j + 1),¬ RD f l.Out r k z:=by
      intro h z hz
      rw [htk] at hz
      rcases List.mem_append.1 hz with hz | hz
      ·exact hno z hz
      ·rw [List.mem_singleton.1 hz]; exact h
     simp only [hgx,tg _ hy0 hyn,tg _ hA.1 hA.2,Option.bind_some]
     rw [NT (by omega)]
     refine .bne (λh1=>.beq (λh2=>.lft (.pure ?_)) λh2=>?_) λh1=>?_
     ·have hL : RD f l.Out r k y:=⟨hdef,hnm,hxm,⟨λ_=>h1,λ_=>hkt⟩,h2⟩
      show (y,true) = AfT (UY f l.Out r k)
      rw [UY,ArI hgx (by simp [hL]) λz hz=>by simp [hno z hz]]
      rfl
     ·exact .cnt ⟨⟨j + 1,rfl,hlt,stp λh=>h2 h.2.2.2.2⟩,by simp only; omega⟩
     ·exact .cnt ⟨⟨j + 1,rfl,hlt,stp λh=>h.2.2.2.1.1 hkt h1⟩,by simp only; omega⟩
    ·show (0,false) = AfT (UY f l.Out r k)
     rw [none' λy hy=>hno y (by rw [List.take_of_length_le (by omega)]; exact hy.2.2.1) hy]
     rfl
  refine .beq (λh17=>?_) λh17=>inner λh=>h17 h.1
  have hB:=hf.uses _ hx.2 (Ny f k).B (by simp [OE,h17])
  rw [tg _ hA.1 hA.2,Option.bind_some,tg _ hB.1 hB.2,Option.bind_some]
  refine .beq (λh=>.pure ?_) λh=>inner λh'=>h h'.2
  rw [none' λy hy=>hy.2.1 ⟨h17,h⟩]
  rfl
 ·rw [if_neg hdef]
  simp only [Bool.not_false,cond_true]
  refine .pure ?_
  rw [none' λy hy=>hdef hy.1]
  rfl
theorem AnJ {f : Nz} (hf : Om f) (hd : Rf f) {l : NQ} (hl : YG l.Out) (r : NM) : Hs (Ws f l r) λq=>(Acc f l.Out /\ Sj f r -> AhU f l.Out r q) /\ (¬ (Acc f l.Out /\ Sj f r) -> q = (0,0,false)):=by
 have hlen:=hf.len'
 unfold Ws
 refine (Ahv hf hl).bind λe he=>.bne (λh=>.pure ⟨λh'=>(h (he.2.2 h'.1)).elim,λ_=>rfl⟩) λh=>?_
 have ha:=he.2.1 h
 refine (AeT hf r).bind λe he=>.bne (λh=>.pure ⟨λh'=>(h (he.2.2 h'.2)).elim,λ_=>rfl⟩) λh=>?_
 have hr:=he.2.1 h
 refine Hs.mono (P:=AhU f l.Out r) ?_ λq hq=>⟨λ_=>hq,λh'=>(h' ⟨ha,hr⟩).elim⟩
 unfold VO
 refine Hs.loop (λi=>∃ k : Nat,i = (k : Int) /\ k <= f.Code.length /\ ∀ j < k,UY f l.Out r j = none) (λi=>f.Code.length - i.toNat) ⟨0,rfl,Nat.zero_le _,λj hj=>absurd hj (Nat.not_lt_zero _)⟩ ?_
 rintro _ ⟨k,rfl,hk,hall⟩
 unfold VN
 refine .dec (λhlt=>?_) λhge=>.lft (.pure (Or.inr ⟨λj hj=>hall j (by omega),rfl⟩))
 have hlt : k < f.Code.length:=by omega
 refine (AnK hf hd ha.1 hr hlt).bind λq hq=>?_
 subst hq
 cases hlk : UY f l.Out r k with
 | some y=>exact .lft (.pure (Or.inl ⟨k,y,hlt,hlk,hall,rfl⟩))
 | none =>
  simp only [AfT,cond_false]
  rw [NT (by omega)]
  refine .cnt ⟨⟨k + 1,rfl,hlt,λj hj=>?_⟩,by simp only; omega⟩
  by_cases e : j = k
  ·subst e; exact hlk
  ·exact hall j (by omega)
theorem AhU.found {f : Nz} {l : List (List Int)} {r : NM} {q : Int × Int × Bool} (h : AhU f l r q) : q.2.2 = true ↔ ∃ k y,k < f.Code.length /\ RD f l r k y:=by
 rcases h with ⟨k,y,hk,h1,_,rfl⟩ | ⟨h1,rfl⟩
 ·exact ⟨λ_=>⟨k,y,hk,by simpa using List.find?_some h1⟩,λ_=>rfl⟩
 ·refine ⟨λh=>(by cases h),λ⟨k,y,hk,hy⟩=>?_⟩
  have:=List.find?_eq_none.1 (h1 k hk) y hy.2.2.1
  simp [hy] at this
theorem AoL {f : Nz} (hf : Om f) (hd : Rf f) {l : NQ} (hl : YG l.Out) (r : NM) :
  Hs (Aad f l r) λe=>(¬ Acc f l.Out /\ e = 11) \/ (Acc f l.Out /\ (¬ Sj f r \/ ∃ k y,k < f.Code.length /\ RD f l.Out r k y) /\ e = 12) \/ (Acc f l.Out /\ Sj f r /\ (∀ k y,k < f.Code.length -> ¬ RD f l.Out r k y) /\ e = 0):=by
 unfold Aad
 refine (Ahv hf hl).bind λe he=>.bne (λh=>.pure (.inl ⟨λh'=>h (he.2.2 h'),he.1.resolve_left h⟩)) λh=>?_
 have ha:=he.2.1 h
 refine (AnJ hf hd hl r).bind λq hq=>.cond (λh=>.pure (.inr (.inl ⟨ha,?_,rfl⟩))) λh=>(AeT hf r).bind λe he=>.bne (λh=>.pure (.inr (.inl ⟨ha,.inl λh'=>h (he.2.2 h'),rfl⟩))) λh'=>.pure (.inr (.inr ⟨ha,he.2.1 h',λk y hk hy=>?_,rfl⟩))
 ·by_cases hr : Sj f r
  ·exact .inr ((hq.1 ⟨ha,hr⟩).found.1 h)
  ·exact .inl hr
 ·rw [(hq.1 ⟨ha,he.2.1 h'⟩).found.2 ⟨k,y,hk,hy⟩] at h; cases h
end Go.Proofs.YtpagjjmondojpaaGreatDoor
namespace Go.Proofs.YtpagjjmondojpaaGreatDoor
open Go Go.Dw Go.Proofs
abbrev Ajg : Nz:=Nz.mk 0 ([(NV.mk 8 8),(NV.mk 8 8)] : List NV) ([(NC.mk 16 0 0 0 0),(NC.mk 16 1 0 0 0),(NC.mk 15 0 0 0 0),(NC.mk 23 0 0 0 0)] : List NC)
abbrev Ang : List (List Int):=[[0],[0],[],[]]
theorem Aeu : Om Ajg:=by
 refine ⟨by simp,by simp,by simp,λk x hx j hj=>?_,λx hx v hv=>?_⟩
 ·match k,hx with
  | 0,hx=>simp at hx; subst hx; simp [ON] at hj; subst hj; simp
  | 1,hx=>simp at hx; subst hx; simp [ON] at hj; subst hj; simp
  | 2,hx=>simp at hx; subst hx; simp [ON] at hj; subst hj; simp
  | 3,hx=>simp at hx; subst hx; simp [ON] at hj
  | n + 4,hx=>simp at hx
 ·simp at hx
  rcases hx with rfl | rfl | rfl | rfl <;> simp [OE] at hv <;> subst hv <;> simp
theorem AlI : Rf Ajg:=by
 intro x hx h
 simp at hx
 rcases hx with rfl | rfl | rfl | rfl <;> simp at h ⊢
theorem AfI : Acc Ajg Ang:=by
 refine ⟨⟨rfl,λs hs=>?_⟩,λj hj=>?_⟩
 ·have : s = [] \/ s = [0]:=by simp at hs; rcases hs with rfl | rfl <;> simp
  rcases this with rfl | rfl
  ·exact Ox.nil _
  ·exact ⟨⟨List.pairwise_singleton _ _,λx hx=>by simp at hx; omega⟩,λx hx=>by simp at hx; simp [hx]⟩
 ·match j,hj with
  | 0,_=>decide
  | 1,_=>decide
  | 2,_=>decide
  | 3,_=>decide
  | n + 4,h=>exact absurd h (by simp)
theorem ApT : RD Ajg Ang ⟨[0,0],[true,true,true,true]⟩ 1 0:=by
 refine ⟨by decide,by decide,by decide,by decide,by decide⟩
theorem ArD : Sj Ajg ⟨[0,1],[true,true,true,true]⟩:=by
 refine ⟨⟨rfl,λs hs=>?_⟩,rfl,λk hk h=>?_⟩
 ·match s,hs with
  | 0,_=>decide
  | 1,_=>decide
  | n + 2,h=>exact absurd h (by simp)
 ·match k,hk with
  | 0,_=>exact absurd h (by decide)
  | 1,_=>exact absurd h (by decide)
  | 2,_=>exact absurd h (by decide)
  | 3,_=>exact absurd h (by decide)
  | n + 4,h=>exact absurd h (by simp)
theorem ApU {k : Nat} {y : Int} (hk : k < Ajg.Code.length) : ¬ RD Ajg Ang ⟨[0,1],[true,true,true,true]⟩ k y:=by
 rintro ⟨h1,-,h3,h4,h5⟩
 match k,hk with
 | 0,_ =>
  have hy : y = 0:=by simpa [NZ] using h3
  subst hy
  exact absurd h4 (by decide)
 | 1,_ =>
  have hy : y = 0:=by simpa [NZ] using h3
  subst hy
  exact absurd h5 (by decide)
 | 2,_=>exact absurd h1 (by decide)
 | 3,_=>exact absurd h1 (by decide)
 | n + 4,h=>exact absurd h (by simp)
theorem ArE : ZN = some true:=by
 obtain ⟨r,h1,h2⟩:=AhR Aeu AlI (l:=⟨Ang⟩) (AfI.1.len Aeu) ⟨[0,1],[true,true,true,true]⟩
 obtain ⟨q,k1,k2⟩:=AhR Aeu AlI (l:=⟨Ang⟩) (AfI.1.len Aeu) ⟨[0,0],[true,true,true,true]⟩
 have hr : r = 0:=by
  rcases h2 with ⟨h,_⟩ | ⟨_,h | ⟨k,y,hk,h⟩,_⟩ | ⟨_,_,_,h⟩
  ·exact (h AfI).elim
  ·exact (h ArD).elim
  ·exact (ApU hk h).elim
  ·exact h
 have hq : q = 12:=by
  rcases k2 with ⟨h,_⟩ | ⟨_,_,h⟩ | ⟨_,_,h,_⟩
  ·exact (h AfI).elim
  ·exact h
  ·exact (h 1 0 (by simp) ApT).elim
 subst hr hq
 unfold ZN
 rw [h1,Option.bind_some,show ((0 : Int) == 0) = true from rfl,cond_true,k1,Option.bind_some]
 rfl
end Go.Proofs.YtpagjjmondojpaaGreatDoor
namespace Go.Proofs.YtpagjjmondojpaaGreatDoor
open Go Go.Dw Go.Proofs
theorem Arb {c : Mk} (h : okC c) {f : Nz} (hf : Om f) : Hs (TY c f) λp=>okC p.2 /\ Acc f p.1.Out:=by
 have hlen:=hf.len
 have hlen':=hf.len'
 have hsl:=hf.slots
 unfold TY
 refine (Age hf).bind λl hl=>.chk (by have:=hl.ok.1; simp; omega) ((Of h (by omega) (by omega)).bind λr hr=>?_)
 refine Hs.loop (λs=>okC ⟨s.1,s.2.1⟩ /\ Acc f s.2.2.1 /\ 0 <= s.2.2.2 /\ s.2.2.2 < 3) (λs=>s.2.2.2.toNat) ⟨hr.1,by simpa using hl.acc hf,hr.2⟩ ?_
 rintro ⟨l,a,x,n⟩ ⟨hc,hx,hn0,hn1⟩
 simp only at hc hx hn0 hn1
 have w : IntKind.i64.wrap (n - 1) = n - 1:=wrap64 (by omega) (by omega)
 unfold Ud
 refine .dec (λhlt=>.dec (λhsl0=>?_) λ_=>.lft (.pure ⟨hc,hx⟩)) λ_=>.lft (.pure ⟨hc,hx⟩)
 have hlt : 0 < n:=hlt
 unfold Uf
 refine (Of hc (by omega) (by omega)).bind λu hu=>?_
 have hxl:=hx.1.1
 refine Hs.loop (λs=>∃ k : Nat,s.2 = (k : Int) /\ k <= x.length /\ s.1 = Aai u.1 x k) (λs=>x.length - s.2.toNat) ⟨0,rfl,Nat.zero_le _,(Apr _ _).symm⟩ ?_
 rintro ⟨y,i⟩ ⟨k,hi,hk,hy⟩
 simp only at hi hy
 subst hi hy
 have hyl:=Anc u.1 x hk
 unfold Ue
 refine .dec (λhlt=>?_) λhge=>?_
 ·have hlt : k < x.length:=by simp only at hlt; omega
  refine .chk (by omega) ?_
  have hs:=hx.1.2 _ (List.getElem_mem hlt)
  rw [Int.toNat_natCast,ApP hlt,Option.bind_some,add_eq _ _ (by have:=hs.1.length_le; omega),Option.bind_some]
  refine .chk (by omega) ?_
  rw [Option.bind_some,ApQ hlt,NT (by omega)]
  exact .cnt ⟨⟨k + 1,rfl,hlt,rfl⟩,by simp only; omega⟩
 ·obtain rfl : k = x.length:=by simp only at hge; omega
  rw [ApO]
  unfold Ug
  exact .lft (.cnt ⟨⟨hu.1,ArA hf hx hu.2,by simp only [w]; omega,by simp only [w]; omega⟩,by simp only [w]; omega⟩)
end Go.Proofs.YtpagjjmondojpaaGreatDoor
namespace Go.Proofs.YtpagjjmondojpaaGreatDoor
open Go Go.Dw Go.Proofs
theorem AlT (s : List NV) : Hs (SI s) λe=>e = 0 -> s.length <= 512:=by
 unfold SI
 refine .dec (λ_=>.pure λh=>by simp at h) λh=>?_
 have hl : s.length <= 512:=by omega
 refine (Hs.loop (Q:=λ_=>True) (λi=>∃ k : Nat,i = (k : Int) /\ k <= s.length) (λi=>s.length - i.toNat) ⟨0,rfl,Nat.zero_le _⟩ ?_).mono λ_ _ _=>hl
 rintro _ ⟨k,rfl,hk⟩
 unfold Wd
 refine .dec (λhlt=>?_) λ_=>.lft (.pure trivial)
 refine (Hs.ix (P:=λ_=>True) (by omega) hlt λ_ _=>trivial).bind λx _=>(Asc _).bind λb _=>.cond (λ_=>.lft (.pure trivial)) λ_=>?_
 refine (Hs.ix (P:=λ_=>True) (by omega) hlt λ_ _=>trivial).bind λy _=>(Aju _).bind λb _=>.cond (λ_=>.lft (.pure trivial)) λ_=>?_
 rw [NT (by omega)]
 exact .cnt ⟨⟨k + 1,rfl,by omega⟩,by simp only; omega⟩
theorem Apv {g : List (List Int)} {n : Int} (hn : n <= 1000) (hr : ∀ row ∈ g,row.length <= 512) : Hs (ZY g n) λb=>b = true -> (g.length : Int) = n:=by
 unfold ZY
 refine .bne (λ_=>.pure λh=>by cases h) λhgl=>?_
 refine (Hs.loop (Q:=λ_=>True) (λi=>∃ k : Nat,i = (k : Int) /\ k <= g.length) (λi=>g.length - i.toNat) ⟨0,rfl,Nat.zero_le _⟩ ?_).mono λ_ _ _=>hgl
 rintro _ ⟨k,rfl,hk⟩
 unfold Zd
 refine .dec (λhlt=>?_) λ_=>.lft (.pure trivial)
 have hkl : k < g.length:=by omega
 have e : ixO g (k : Int) = some g[k]:=by rw [OD]; exact List.getElem?_eq_getElem hkl
 have hrow:=hr g[k] (List.getElem_mem _)
 rw [e,Option.bind_some,Ano _ (by omega),Option.bind_some]
 refine .cond (λ_=>.lft (.pure trivial)) λhc=>?_
 have hs : Pa g[k]:=(Afc _).1 (by simpa using hc)
 rw [Option.bind_some,AcL _ _ (by omega),Option.bind_some]
 refine .cond (λ_=>.lft (.pure trivial)) λ_=>?_
 unfold Zg
 refine Hs.loop (λi=>∃ j : Nat,i = (j : Int) /\ j <= (g[k]).length) (λi=>(g[k]).length - i.toNat) ⟨0,rfl,Nat.zero_le _⟩ ?_
 rintro _ ⟨j,rfl,hj⟩
 unfold Ze
 rw [e,Option.bind_some]
 refine .dec (λhlt=>?_) λ_=>.lft ?_
 ·rw [Option.bind_some]
  refine (Hs.ix (by omega) hlt λv hv=>hs.2 v (List.mem_of_getElem? hv)).bind λv hv=>?_
  refine .dec (λ_=>.lft (.lft (.pure trivial))) λhvn=>?_
  refine (Hs.ix hv.1 (by omega) λx hx=>hr x (List.mem_of_getElem? hx)).bind λx hx=>?_
  rw [AcL _ _ (by omega),Option.bind_some]
  refine .cond (λ_=>.lft (.lft (.pure trivial))) λ_=>?_
  rw [NT (by omega)]
  exact .cnt ⟨⟨j + 1,rfl,by omega⟩,by simp only; omega⟩
 ·unfold Zf
  rw [NT (by omega)]
  exact .cnt ⟨⟨k + 1,rfl,by omega⟩,by simp only; omega⟩
theorem ApW (a b : NV) : Hs (YA a b) λ_=>True:=by
 unfold YA
 exact .cond (λ_=>.pure trivial) λ_=>.cond (λ_=>.pure trivial) λ_=>.pure trivial
theorem Arh (s : List NV) (hs : s.length <= 1000) : Hs (Aaf s) λout=>out.length = s.length /\ ∀ v ∈ out,0 <= v /\ v < s.length:=by
 unfold Aaf
 refine Hs.loop (λq=>∃ k : Nat,q.2 = (k : Int) /\ k <= s.length /\ q.1.length = k /\ ∀ v ∈ q.1,0 <= v /\ v < s.length) (λq=>s.length - q.2.toNat) ⟨0,rfl,Nat.zero_le _,rfl,λv hv=>by cases hv⟩ ?_
 rintro ⟨out,_⟩ ⟨k,rfl,hk,hol,hov⟩
 replace hol : out.length = k:=hol
 replace hov : ∀ v ∈ out,0 <= v /\ v < s.length:=hov
 unfold Zx
 dsimp only
 refine .dec (λhlt=>?_) λhge=>.lft (.pure ⟨by omega,hov⟩)
 have hlt : k < s.length:=by omega
 have j3 : ∀ m : Int,0 <= m -> m <= out.length -> Hs (TR out (k : Int) m) (Rnd (λq : List Int × Int=>∃ k : Nat,q.2 = (k : Int) /\ k <= s.length /\ q.1.length = k /\ ∀ v ∈ q.1,0 <= v /\ v < s.length) (λq=>s.length - q.2.toNat) (out,(k : Int)) (λout=>out.length = s.length /\ ∀ v ∈ out,0 <= v /\ v < s.length)):=by
  intro m h0 h1
  unfold TR
  refine .chk ⟨h0,h1⟩ (.chk (by simp; omega) (.chk (by simp; omega) (.chk ⟨h0,h1⟩ (.chk (by simp; omega) ?_))))
  unfold Zz
  rw [NT (by omega)]
  refine .cnt ⟨⟨k + 1,rfl,hlt,by simp; omega,λv hv=>?_⟩,by simp only; omega⟩
  simp only [List.nil_append,List.mem_append,List.mem_singleton] at hv
  rcases hv with (hv | hv) | hv
  ·exact hov v (List.mem_of_mem_take hv)
  ·omega
  ·exact hov v (List.mem_of_mem_drop hv)
 refine Hs.loop (λm=>0 <= m /\ m <= out.length) (λm=>m.toNat) ⟨by omega,by omega⟩ ?_
 rintro m ⟨h0,h1⟩
 unfold Zy
 refine .dec (λhp=>?_) λ_=>.lft (j3 m h0 h1)
 have hp : 0 < m:=hp
 rw [wrap64 (n:=m - 1) (by omega) (by omega)]
 exact (Hs.ix (P:=λ_=>True) (by omega) (by omega) λ_ _=>trivial).bind λx _=>.chk (by omega) ((Hs.get (by omega) (by omega) λv hv=>hov v (List.mem_of_getElem? hv)).bind λv hv=>(Hs.ix (P:=λ_=>True) hv.1 hv.2 λ_ _=>trivial).bind λy _=>(ApW x y).bind λb _=>.cond (λ_=>.cnt ⟨⟨by omega,by omega⟩,by simp only; omega⟩) λ_=>.lft (j3 m h0 h1))
theorem ApS (s : List NV) (hs : s.length <= 500) {g : List (List Int)} (hg : ∀ row ∈ g,row.length <= 512) (frm : Int) : Hs (Yz s g frm) λq=>q.2 = 0 -> q.1.length = s.length:=by
 unfold Yz
 refine (AlT s).bind λe _=>.bne (λhe=>.pure λh=>(he h).elim) λ_=>(Apv (by omega) hg).bind λb hb=>.cond (λ_=>.pure λh=>by simp at h) λhb'=>?_
 have hgl : g.length = s.length:=by have:=hb (by simpa using hb'); omega
 rw [AfM,Option.bind_some]
 refine .cond (λ_=>.pure λh=>by simp at h) λ_=>?_
 unfold XY
 refine .chk (by omega) (.chk (by omega) ((Arh s (by omega)).bind λord hord=>?_))
 refine Hs.loop (λq=>∃ k : Nat,q.2.2 = (k : Int) /\ k <= ord.length /\ q.1.length = s.length /\ q.2.1.length = s.length) (λq=>ord.length - q.2.2.toNat) ⟨0,rfl,Nat.zero_le _,by simp,by simp⟩ ?_
 rintro ⟨done,off,_⟩ ⟨k,rfl,hk,hdl,hfl⟩
 replace hdl : done.length = s.length:=hdl
 replace hfl : off.length = s.length:=hfl
 unfold XW
 dsimp only
 refine .dec (λhlt=>?_) λ_=>.lft (.pure λ_=>hfl)
 have hlt : k < ord.length:=by omega
 refine .chk (by omega) ((Hs.get (by omega) (by omega) λv hv=>hord.2 v (List.mem_of_getElem? hv)).bind λv hv=>?_)
 refine Hs.loop (λq=>∃ j : Nat,q.2 = (j : Int) /\ j <= s.length /\ q.1.length <= j) (λq=>s.length - q.2.toNat) ⟨0,rfl,Nat.zero_le _,by simp⟩ ?_
 rintro ⟨used,_⟩ ⟨j,rfl,hj,hul⟩
 replace hul : used.length <= j:=hul
 unfold XX
 dsimp only
 refine .dec (λhlt=>?_) λ_=>.lft ?_
 ·have hlt : j < s.length:=by omega
  have j5 : ∀ b : Bool,Hs (Tl (j : Int) off s used b) (Rnd (λq : List Oa × Int=>∃ j : Nat,q.2 = (j : Int) /\ j <= s.length /\ q.1.length <= j) (λq=>s.length - q.2.toNat) (used,(j : Int)) (Rnd (λq : List Bool × List Int × Int=>∃ k : Nat,q.2.2 = (k : Int) /\ k <= ord.length /\ q.1.length = s.length /\ q.2.1.length = s.length) (λq=>ord.length - q.2.2.toNat) (done,off,(k : Int)) λq=>q.2 = 0 -> q.1.length = s.length)):=by
   intro b
   unfold Tl
   rw [NT (by omega)]
   refine .cond (λ_=>.chk (by omega) ((Hs.get (P:=λ_=>True) (by omega) (by omega) λ_ _=>trivial).bind λa _=>(Hs.ix (P:=λ_=>True) (by omega) (by omega) λ_ _=>trivial).bind λx _=>.chk (by simp; omega) (.cnt ⟨⟨j + 1,rfl,hlt,by simp; omega⟩,by simp only; omega⟩))) λ_=>.cnt ⟨⟨j + 1,rfl,hlt,by simp only; omega⟩,by simp only; omega⟩
  refine .chk (by omega) ((Hs.get (P:=λ_=>True) (by omega) (by omega) λ_ _=>trivial).bind λd _=>.cond (λ_=>?_) λ_=>j5 false)
  refine (Hs.ix hv.1 (by omega) λx hx=>hg x (List.mem_of_getElem? hx)).bind λx hx=>?_
  rw [AcL _ _ (by omega),Option.bind_some]
  exact j5 _
 ·refine (Hs.ix (P:=λ_=>True) hv.1 hv.2 λ_ _=>trivial).bind λx _=>(Hs.ix (P:=λ_=>True) hv.1 hv.2 λ_ _=>trivial).bind λy _=>(Asu used (by omega) frm _ _).bind λq _=>.bne (λhe=>.lft (.pure λh=>(he h).elim)) λ_=>?_
  refine .chk (by omega) ((Hs.get (P:=λ_=>True) (by omega) (by omega) λ_ _=>trivial).bind λ_ _=>.chk (by omega) ((Hs.get (P:=λ_=>True) (by omega) (by omega) λ_ _=>trivial).bind λ_ _=>?_))
  unfold Ya
  rw [NT (by omega)]
  exact .cnt ⟨⟨k + 1,rfl,hlt,by simpa using hdl,by simpa using hfl⟩,by simp only; omega⟩
theorem Apc {p : NN} {i : Int} {f : Nz} (hi : ixO p.Funcs i = some f) (hl : f.Code.length <= 10000) (hc : ∀ x ∈ f.Code,x.Op = 22 -> 0 <= x.A /\ x.A < p.Funcs.length) : Hs (ZA p i) λ_=>True:=by
 unfold ZA
 rw [hi,Option.bind_some]
 refine Hs.loop (λq=>∃ k : Nat,q.2 = (k : Int) /\ k <= f.Code.length) (λq=>f.Code.length - q.2.toNat) ⟨0,rfl,Nat.zero_le _⟩ ?_
 rintro ⟨n,_⟩ ⟨k,rfl,hk⟩
 unfold Aaz
 dsimp only
 refine .dec (λhlt=>?_) λ_=>.lft (.pure trivial)
 have hlt : k < f.Code.length:=by omega
 have e : ixO f.Code (k : Int) = some f.Code[k]:=by rw [OD]; exact List.getElem?_eq_getElem hlt
 simp only [e,Option.bind_some]
 rw [NT (by omega)]
 refine .beq (λ_=>.cnt ⟨⟨k + 1,rfl,hlt⟩,by simp only; omega⟩) λ_=>.beq (λh=>?_) λ_=>.cnt ⟨⟨k + 1,rfl,hlt⟩,by simp only; omega⟩
 have:=hc _ (List.getElem_mem _) h
 exact (Hs.ix (P:=λ_=>True) this.1 this.2 λ_ _=>trivial).bind λ_ _=>.cnt ⟨⟨k + 1,rfl,hlt⟩,by simp only; omega⟩
theorem Ast (s : List NV) (hs : s.length <= 1000) (off : List Int) : Hs (AcX s off) λ_=>True:=by
 unfold AcX
 refine Hs.loop (λq=>∃ k : Nat,q.2 = (k : Int) /\ k <= s.length) (λq=>s.length - q.2.toNat) ⟨0,rfl,Nat.zero_le _⟩ ?_
 rintro ⟨n,_⟩ ⟨k,rfl,hk⟩
 unfold AbK
 dsimp only
 refine .dec (λhlt=>.dec (λhlt2=>?_) λ_=>.lft (.pure trivial)) λ_=>.lft (.pure trivial)
 have hlt : k < s.length:=by omega
 unfold AbL
 rw [NT (by omega)]
 exact (Hs.ix (P:=λ_=>True) (by omega) (by omega) λ_ _=>trivial).bind λ_ _=>(Hs.ix (P:=λ_=>True) (by omega) (by omega) λ_ _=>trivial).bind λ_ _=>.cnt ⟨⟨k + 1,rfl,hlt⟩,by simp only; omega⟩
theorem Aqu (s : List NV) : Hs (ZR s) λ_=>True:=by
 unfold ZR
 refine (AlT s).bind λe he=>.bne (λ_=>.pure trivial) λh=>?_
 have hs:=he h
 refine Hs.loop (λq=>∃ k : Nat,q.2 = (k : Int) /\ k <= s.length) (λq=>s.length - q.2.toNat) ⟨0,rfl,Nat.zero_le _⟩ ?_
 rintro ⟨n,_⟩ ⟨k,rfl,hk⟩
 unfold YN
 dsimp only
 refine .dec (λhlt=>?_) λ_=>.lft (.pure trivial)
 have hlt : k < s.length:=by omega
 rw [NT (by omega)]
 exact (Hs.ix (P:=λ_=>True) (by omega) (by omega) λ_ _=>trivial).bind λ_ _=>.cnt ⟨⟨k + 1,rfl,hlt⟩,by simp only; omega⟩
theorem Aqi (p : NN) (hp : p.Funcs.length <= 1000) : Hs (ZT p) λ_=>True:=by
 unfold ZT
 refine Hs.loop (λq=>∃ k : Nat,q.2 = (k : Int) /\ k <= p.Funcs.length) (λq=>p.Funcs.length - q.2.toNat) ⟨0,rfl,Nat.zero_le _⟩ ?_
 rintro ⟨n,_⟩ ⟨k,rfl,hk⟩
 unfold YS
 dsimp only
 refine .dec (λhlt=>?_) λ_=>.lft (.pure trivial)
 have hlt : k < p.Funcs.length:=by omega
 rw [NT (by omega)]
 exact (Hs.ix (P:=λ_=>True) (by omega) (by omega) λ_ _=>trivial).bind λx _=>(Aqu _).bind λ_ _=>.cnt ⟨⟨k + 1,rfl,hlt⟩,by simp only; omega⟩
theorem ApZ {p : NN} {i : Int} {f : Nz} (hi : ixO p.Funcs i = some f) (hl : f.Code.length <= 10000) (hs : f.Slots.length <= 500) (hc : ∀ x ∈ f.Code,x.Op = 22 -> 0 <= x.A /\ x.A < p.Funcs.length) (al : Int) (off : List Int) : Hs (YB p i al off) λ_=>True:=by
 unfold YB
 rw [hi,Option.bind_some]
 refine .bne (λ_=>.pure trivial) λho=>?_
 have ho : off.length = f.Slots.length:=by omega
 refine Hs.loop (λq=>∃ k : Nat,q = (k : Int) /\ k <= f.Slots.length) (λq=>f.Slots.length - q.toNat) ⟨0,rfl,Nat.zero_le _⟩ ?_
 rintro _ ⟨k,rfl,hk⟩
 unfold Yb
 refine .dec (λhlt=>?_) λ_=>.lft ?_
 ·have hlt : k < f.Slots.length:=by omega
  rw [NT (by omega)]
  exact (Hs.ix (P:=λ_=>True) (by omega) (by omega) λ_ _=>trivial).bind λ_ _=>(Hs.ix (P:=λ_=>True) (by omega) (by omega) λ_ _=>trivial).bind λ_ _=>(Ael _).bind λ_ _=>.cond (λ_=>.lft (.pure trivial)) λ_=>.cnt ⟨⟨k + 1,rfl,hlt⟩,by simp only; omega⟩
 ·exact (Apc hi hl hc).bind λa _=>(Ast _ (by omega) off).bind λe _=>(Arz _ _).bind λq _=>.bne (λ_=>.pure trivial) λ_=>.dec (λ_=>.pure trivial) λ_=>.chk (by simp; omega) (.pure trivial)
end Go.Proofs.YtpagjjmondojpaaGreatDoor
namespace Go.Proofs.YtpagjjmondojpaaGreatDoor
open Go Go.Dw Go.Proofs
theorem Apw {f : Nz} (hlen : f.Code.length <= 10000) (hsl : f.Slots.length <= 500) (hml : AdC f) {g : List (List Int)} {Q : Nat -> Int -> Prop} (hg : Qd f.Slots.length g Q) (hsym : ∀ (x y : Nat) r s,g[x]? = some r -> g[y]? = some s -> (y : Int) ∈ r -> (x : Int) ∈ s)
  (hirr : ∀ (x : Nat) r,g[x]? = some r -> (x : Int) ∉ r) : Hs (UA f g) λto=>Aba f g to:=by
 unfold UA
 refine Hs.loop (λs=>∃ k : Nat,s.2 = (k : Int) /\ k <= f.Slots.length /\ s.1.length = k /\ ∀ j : Nat,j < k -> s.1[j]? = some (j : Int)) (λs=>f.Slots.length - s.2.toNat) ⟨0,rfl,Nat.zero_le _,rfl,λj hj=>absurd hj (Nat.not_lt_zero _)⟩ ?_
 rintro ⟨to,_⟩ ⟨k,rfl,hk,htl,hto⟩
 replace htl : to.length = k:=htl
 replace hto : ∀ j : Nat,j < k -> to[j]? = some (j : Int):=hto
 unfold WI
 refine .dec (λhlt=>?_) λhge=>.lft ?_
 ·have hlt : k < f.Slots.length:=by simp only at hlt; omega
  refine .chk (by simp; omega) ?_
  rw [NT (by omega)]
  refine .cnt ⟨⟨k + 1,rfl,hlt,by simp [htl],λj hj=>?_⟩,by simp only; omega⟩
  show (to ++ [(k : Int)])[j]? = some (j : Int)
  by_cases e : j = k
  ·subst e; rw [<- htl,List.getElem?_concat_length]
  ·rw [List.getElem?_append_left (by omega)]; exact hto j (by omega)
 have hkk : k = f.Slots.length:=by simp only at hge; omega
 subst hkk
 have hid : ∀ j : Nat,j < f.Slots.length -> NS to j = (j : Int):=by
  intro j h1
  simp only [NS,Int.toNat_natCast,hto j h1,Option.getD_some]
 have hc0 : Aba f g to:=by
  refine ⟨⟨htl,λs hs=>?_⟩,λx y row hx hy he hr hyr=>?_⟩
  ·have:=hid s (by omega)
   rw [this,this]
   exact ⟨by omega,by omega,rfl,rfl⟩
  ·rw [hid x (by omega),hid y (by omega)] at he
   have : x = y:=by omega
   subst this
   exact hirr x row hr hyr
 clear hto hid
 refine (ArX hlen).bind λmv hmv=>?_
 obtain ⟨hmvl,hmv⟩:=hmv
 refine Hs.loop (λs=>∃ i : Nat,s.2 = (i : Int) /\ i <= mv.length /\ Aba f g s.1) (λs=>mv.length - s.2.toNat) ⟨0,rfl,Nat.zero_le _,hc0⟩ ?_
 clear hc0 htl hge
 rintro ⟨to,_⟩ ⟨i,rfl,hi,hc⟩
 replace hc : Aba f g to:=hc
 have htl:=hc.ok.1
 unfold WJ
 refine .dec (λhlt=>?_) λ_=>.lft (.pure hc)
 have hlt : i < mv.length:=by simp only at hlt; omega
 have hgp : mv[i]? = some mv[i]:=List.getElem?_eq_getElem _
 have hpm:=List.getElem_mem hlt
 generalize mv[i] = p at hgp hpm
 obtain ⟨x,hx,hop,rfl⟩:=hmv p hpm
 obtain ⟨a0,a1,b0,b1,hsz⟩:=hml x hx hop
 have hA:=Qw (to:=to) (s:=x.A) a0 (by omega)
 have hB:=Qw (to:=to) (s:=x.B) b0 (by omega)
 simp only [Int.toNat_natCast,hgp,Option.bind_some,hA,hB]
 have skip : Hs (Qu (i : Int) to) (Rnd (λs : List Int × Int=>∃ i : Nat,s.2 = (i : Int) /\ i <= mv.length /\ Aba f g s.1) (λs=>mv.length - s.2.toNat) (to,(i : Int)) λto=>Aba f g to):=by
  unfold Qu
  rw [NT (by omega)]
  exact .cnt ⟨⟨i + 1,rfl,hlt,hc⟩,by simp only; omega⟩
 refine .chk (by omega) (.chk (by omega) (.chk (by omega) (.chk (by omega) (.beq (λ_=>skip) λhne=>?_))))
 refine (AqI hg htl hsl (NS to x.A) (NS to x.B)).bind λr hr=>.cond (λ_=>skip) λhrt=>?_
 have hap:=hr (by simpa using hrt)
 have nat : ∀ {s : Int},0 <= s -> s < to.length -> 0 <= NS to s /\ NS to s < to.length /\ PY f (NS to s) = PY f s /\ NS to (NS to s) = NS to s:=by
  intro s h0 h1
  obtain ⟨j,rfl⟩ : ∃ j : Nat,s = (j : Int):=⟨s.toNat,by omega⟩
  exact hc.ok.2 j (by omega)
 obtain ⟨qa1,qa2,qa3,qa4⟩:=nat a0 (by omega)
 obtain ⟨qb1,qb2,qb3,qb4⟩:=nat b0 (by omega)
 generalize NS to x.A = a at *
 generalize NS to x.B = b at *
 unfold WL
 refine Hs.loop (λs=>∃ k : Nat,s.2 = (k : Int) /\ k <= to.length /\ s.1.length = to.length /\ ∀ j : Nat,j < to.length -> NS s.1 j = if j < k then PX a b (NS to j) else NS to j) (λs=>to.length - s.2.toNat) ⟨0,rfl,Nat.zero_le _,rfl,λj _=>(by simp)⟩ ?_
 rintro ⟨t2,_⟩ ⟨k,rfl,hk,h2l,h2⟩
 replace h2l : t2.length = to.length:=h2l
 replace h2 : ∀ j : Nat,j < to.length -> NS t2 j = if j < k then PX a b (NS to j) else NS to j:=h2
 unfold WK
 refine .dec (λhlt2=>?_) λhge2=>.lft ?_
 ·have hlt2 : k < to.length:=by simp only at hlt2; omega
  have hgk:=Qw (to:=t2) (s:=(k : Int)) (by omega) (by omega)
  rw [h2 k hlt2,if_neg (Nat.lt_irrefl _)] at hgk
  refine .chk (by omega) ?_
  rw [hgk,Option.bind_some]
  have fin : ∀ q : Bool,(q = true ↔ NS to k = a \/ NS to k = b) -> Hs (Sr (k : Int) t2 a b q) (Rnd (λs : List Int × Int=>∃ k : Nat,s.2 = (k : Int) /\ k <= to.length /\ s.1.length = to.length /\ ∀ j : Nat,j < to.length -> NS s.1 j = if j < k then PX a b (NS to j) else NS to j) (λs=>to.length - s.2.toNat) (t2,(k : Int)) (Rnd (λs : List Int × Int=>∃ i : Nat,s.2 = (i : Int) /\ i <= mv.length /\ Aba f g s.1) (λs=>mv.length - s.2.toNat) (to,(i : Int)) λto=>Aba f g to)):=by
   intro q hq
   unfold Sr
   rw [NT (by omega)]
   refine .cond (λh=>.chk (by omega) ?_) λh=>.cnt ⟨⟨k + 1,rfl,hlt2,h2l,λj hj=>?_⟩,by simp only; omega⟩
   ·rw [hgk,Option.bind_some]
    refine .cnt ⟨⟨k + 1,rfl,hlt2,by simp [h2l],λj hj=>?_⟩,by simp only; omega⟩
    show NS (t2.set ((k : Nat) : Int).toNat (Sl a b)) j = _
    by_cases e : j = k
    ·subst e
     rw [if_pos (Nat.lt_succ_self _)]
     simp only [NS,Int.toNat_natCast]
     rw [List.getElem?_set_self (by omega)]
     have:=hq.1 h
     simp only [NS,Int.toNat_natCast] at this
     simp only [PX,if_pos this,Option.getD_some]
    ·have:=h2 j hj
     simp only [NS,Int.toNat_natCast] at this ⊢
     rw [List.getElem?_set_ne (by omega),this]
     by_cases h' : j < k
     ·rw [if_pos h',if_pos (by omega)]
     ·rw [if_neg h',if_neg (by omega)]
   ·show NS t2 j = _
    rw [h2 j hj]
    by_cases e : j = k
    ·subst e
     have : ¬ (NS to j = a \/ NS to j = b):=λh'=>by rw [hq.2 h'] at h; cases h
     rw [if_neg (Nat.lt_irrefl _),if_pos (Nat.lt_succ_self _),PX,if_neg this]
    ·by_cases h' : j < k
     ·rw [if_pos h',if_pos (by omega)]
     ·rw [if_neg h',if_neg (by omega)]
  refine .beq (λh=>fin true ⟨λ_=>.inl h,λ_=>rfl⟩) λh=>.chk (by omega) ?_
  rw [Option.bind_some]
  exact fin _ ⟨λh'=>.inr (by simpa using h'),λh'=>by simpa using h'.resolve_left h⟩
 ·have hkk : k = to.length:=by simp only at hge2; omega
  subst hkk
  unfold Qu
  rw [NT (by omega)]
  refine .cnt ⟨⟨i + 1,rfl,hlt,?_⟩,by simp only; omega⟩
  refine hc.join hg hsym (a:=a) (b:=b) ⟨qa1,by omega⟩ ⟨qb1,by omega⟩ qa4 qb4 (by rw [qa3,qb3,hsz]) hap h2l λj hj=>?_
  rw [h2 j hj,if_pos hj]
def Ads (f : Nz) (l : List (List Int)) (k : Nat) : Prop:=((Ny f k).Op = 16 \/ (Ny f k).Op = 17) /\ (Ny f k).A ∉ NZ l k
theorem ArH {f : Nz} (hf : Om f) {l : NQ} (hl : Qp f l.Out) {k : Nat} (hk : k < f.Code.length) : Hs (AbH f l (k : Int)) λb=>b = true ↔ Ads f l.Out k:=by
 have hx:=hf.at (j:=(k : Int)) (by omega) (by omega)
 have hrow:=hl.at (j:=(k : Int)) (by omega) (by omega)
 rw [Int.toNat_natCast] at hx hrow
 have hlo:=hrow.2.1.length_le
 unfold AbH
 simp only [OD,hx.1,Option.bind_some,AhZ,AfN]
 by_cases hd : (Ny f k).Op = 16 \/ (Ny f k).Op = 17
 ·rw [if_pos hd]
  simp only [cond_true,hrow.1,Option.bind_some]
  rw [AcL _ _ (by omega),Option.bind_some]
  exact .pure ⟨λh=>⟨hd,by simpa using h⟩,λh=>by simpa using h.2⟩
 ·rw [if_neg hd]
  exact .pure ⟨λh=>(by cases h),λh=>(hd h.1).elim⟩
theorem ArL {f : Nz} (hf : Om f) {l : NQ} (hl : Qp f l.Out) {to : List Int} (hml : AdC f) (htl : to.length = f.Slots.length) : Hs (Zq f l to) λkeep=>keep.length = f.Code.length /\ ∀ k : Nat,k < f.Code.length -> (Og keep k = true ↔ ¬ Ads f l.Out k /\ ¬ ((Ny f k).Op = 17 /\ NS to (Ny f k).A = NS to (Ny f k).B)):=by
 have hlen:=hf.len'
 unfold Zq
 refine Hs.loop (λs=>∃ k : Nat,s.2 = (k : Int) /\ k <= f.Code.length /\ s.1.length = k /\ ∀ j : Nat,j < k -> (Og s.1 j = true ↔ ¬ Ads f l.Out j /\ ¬ ((Ny f j).Op = 17 /\ NS to (Ny f j).A = NS to (Ny f j).B))) (λs=>f.Code.length - s.2.toNat) ⟨0,rfl,Nat.zero_le _,rfl,λj hj=>absurd hj (Nat.not_lt_zero _)⟩ ?_
 rintro ⟨keep,_⟩ ⟨k,rfl,hk,hkl,hkp⟩
 replace hkl : keep.length = k:=hkl
 replace hkp : ∀ j : Nat,j < k -> (Og keep j = true ↔ ¬ Ads f l.Out j /\ ¬ ((Ny f j).Op = 17 /\ NS to (Ny f j).A = NS to (Ny f j).B)):=hkp
 unfold Aat
 refine .dec (λhlt=>?_) λhge=>.lft (.pure ?_)
 ·have hlt : k < f.Code.length:=by simp only at hlt; omega
  have hx:=hf.at (j:=(k : Int)) (by omega) (by omega)
  rw [Int.toNat_natCast] at hx
  simp only [OD,hx.1,Option.bind_some]
  rw [NT (by omega)]
  have fin : ∀ q : Bool,(q = true ↔ ¬ Ads f l.Out k /\ ¬ ((Ny f k).Op = 17 /\ NS to (Ny f k).A = NS to (Ny f k).B)) -> Hs (chk (keep.length + ([q] : List Bool).length <= 16777216) (cnt (keep ++ ([q] : List Bool),((k + 1 : Nat) : Int)) : Option ((List Bool × Int) ⊕ List Bool))) (Rnd (λs : List Bool × Int=>∃ k : Nat,s.2 = (k : Int) /\ k <= f.Code.length /\ s.1.length = k /\ ∀ j : Nat,j < k -> (Og s.1 j = true ↔ ¬ Ads f l.Out j /\ ¬ ((Ny f j).Op = 17 /\ NS to (Ny f j).A = NS to (Ny f j).B))) (λs=>f.Code.length - s.2.toNat) (keep,(k : Int)) λkeep=>keep.length = f.Code.length /\ ∀ k : Nat,k < f.Code.length -> (Og keep k = true ↔ ¬ Ads f l.Out k /\ ¬ ((Ny f k).Op = 17 /\ NS to (Ny f k).A = NS to (Ny f k).B))):=by
   intro q hq
   refine .chk (by simp; omega) (.cnt ⟨⟨k + 1,rfl,hlt,by simp [hkl],λj hj=>?_⟩,by simp only; omega⟩)
   show Og (keep ++ [q]) j = true ↔ _
   by_cases e : j = k
   ·subst e
    have : Og (keep ++ [q]) j = q:=by
     unfold Og
     rw [<- hkl,List.getElem?_concat_length]; rfl
    rw [this]; exact hq
   ·have : Og (keep ++ [q]) j = Og keep j:=by
     unfold Og
     rw [List.getElem?_append_left (by omega)]
    rw [this]; exact hkp j (by omega)
  refine (ArH hf hl hlt).bind λr hr=>.cond (λh=>?_) λh=>fin false ⟨λh=>(by cases h),λh'=>(h'.1 (hr.1 (by simpa using h))).elim⟩
  have hnd : ¬ Ads f l.Out k:=λh'=>by rw [hr.2 h'] at h; cases h
  refine .beq (λh17=>?_) λh17=>fin true ⟨λ_=>⟨hnd,λh=>h17 h.1⟩,λ_=>rfl⟩
  obtain ⟨a0,a1,b0,b1,_⟩:=hml _ hx.2 h17
  rw [OR _ a0,Qw a0 (by omega),Option.bind_some,OR _ b0,Qw b0 (by omega),Option.bind_some]
  exact fin _ ⟨λh=>⟨hnd,λh'=>by simp [h'.2] at h⟩,λh=>by simpa using λh'=>h.2 ⟨h17,h'⟩⟩
 ·have hkk : k = f.Code.length:=by simp only at hge; omega
  subst hkk
  exact ⟨hkl,hkp⟩
end Go.Proofs.YtpagjjmondojpaaGreatDoor
namespace Go.Proofs.YtpagjjmondojpaaGreatDoor
open Go Go.Dw Go.Proofs
theorem AnB {c : Mk} (h : okC c) : Hs (Sk c) λp=>okC p.2 /\ I64 p.1:=by
 unfold Sk
 refine (Of h (by omega) (by omega)).bind λr hr=>.beq (λ_=>?_) λ_=>?_
 ·refine (Of hr.1 (by simp) (by simp)).bind λq hq=>.chk ?_ ?_
  ·simp at hq; simp; omega
  ·refine (Hs.get hq.2.1 (by simpa using hq.2.2) λx hx=>List.mem_of_getElem? hx).bind λx hx=>.pure ⟨hq.1,?_⟩
   simp at hx
   unfold I64
   simp only
   omega
 ·exact (Of hr.1 (by omega) (by omega)).bind λq hq=>(Of hq.1 (by omega) (by omega)).bind λu hu=>.chk hu.2.1 (.pure ⟨hu.1,ArK _⟩)
theorem ArM {c : Mk} (h : okC c) {f : Nz} (hf : Om f) : Hs (UI c f) λp=>okC p.2 /\ p.1.Out.length <= f.Code.length /\ AdD p.1.Out:=by
 have hlen:=hf.len
 have hlen':=hf.len'
 have hsl:=hf.slots
 unfold UI
 refine (Age hf).bind λl hl=>(Of h (by omega) (by omega)).bind λr hr=>.beq (λ_=>?_) λ_=>?_
 ·exact .pure ⟨hr.1,by have:=hl.ok.1; simp only; omega,Ye.rows λs hs=>(hl.ok.2 s hs).1⟩
 ·refine .chk (by have:=hl.ok.1; simp; omega) ((Of hr.1 (by omega) (by omega)).bind λq hq=>?_)
  have j1 : ∀ {l : List Int} {a : Int} {x : List (List Int)},okC ⟨l,a⟩ -> x.length = f.Code.length -> Ye x -> Hs (Rn l a x) λp=>okC p.2 /\ p.1.Out.length <= f.Code.length /\ AdD p.1.Out:=by
   intro l a x hc hx hs
   unfold Rn
   refine (Of hc (by omega) (by omega)).bind λr hr=>.beq (λ_=>?_) λ_=>.beq (λ_=>?_) λ_=>?_
   ·refine .chk (by omega) (.pure ⟨hr.1,by simp; omega,λs hm=>hs.rows s (List.mem_of_mem_drop hm)⟩)
   ·refine (AnB hr.1).bind λu hu=>(AnB hu.1).bind λv hv=>.chk (by omega) ((Hs.get (by omega) (by omega) λx hx=>hx).bind λ_ _=>.pure ⟨hv.1,by simp; omega,λs hm=>?_⟩)
    rcases List.mem_or_eq_of_mem_set hm with h1 | rfl
    ·exact hs.rows s h1
    ·refine ⟨by simp,λw hw=>?_⟩
     simp at hw
     rcases hw with rfl | rfl
     ·exact hu.2
     ·exact hv.2
   ·exact .pure ⟨hr.1,by simp only; omega,hs.rows⟩
  refine Hs.loop (λs=>okC ⟨s.1,s.2.1⟩ /\ s.2.2.1.length = f.Code.length /\ Ye s.2.2.1 /\ 0 <= s.2.2.2 /\ s.2.2.2 < 4) (λs=>s.2.2.2.toNat) ⟨hq.1,by simpa using hl.ok.1,λs hs=>(hl.ok.2 s (by simpa using hs)).1,hq.2⟩ ?_
  rintro ⟨l,a,x,n⟩ ⟨hc,hx,hs,hn0,hn1⟩
  simp only at hc hx hs hn0 hn1
  have w : IntKind.i64.wrap (n - 1) = n - 1:=wrap64 (by omega) (by omega)
  unfold UJ
  refine .dec (λhlt=>.dec (λhsl0=>?_) λ_=>.lft (j1 hc hx hs)) λ_=>.lft (j1 hc hx hs)
  have hlt : 0 < n:=hlt
  unfold UL
  have j4 : ∀ {l : List Int} {a : Int} {y : List (List Int)},okC ⟨l,a⟩ -> y.length = f.Code.length -> Ye y -> Hs (Qs n l a y) (Rnd (λs : List Int × Int × List (List Int) × Int=>okC ⟨s.1,s.2.1⟩ /\ s.2.2.1.length = f.Code.length /\ Ye s.2.2.1 /\ 0 <= s.2.2.2 /\ s.2.2.2 < 4) (λs=>s.2.2.2.toNat) (‹List Int›,‹Int›,x,n) (λp : NQ × Mk=>okC p.2 /\ p.1.Out.length <= f.Code.length /\ AdD p.1.Out)):=by
   intro l a y hc hy hs
   unfold Qs
   exact .cnt ⟨⟨hc,hy,hs,by simp only [w]; omega,by simp only [w]; omega⟩,by simp only [w]; omega⟩
  refine (Of hc (by omega) (by omega)).bind λu hu=>(Of hu.1 (by omega) (by omega)).bind λv hv=>.beq (λ_=>?_) λ_=>?_
  ·refine Hs.loop (λs=>s.1.length = f.Code.length /\ Ye s.1 /\ 0 <= s.2 /\ s.2 <= f.Code.length) (λs=>f.Code.length - s.2.toNat) ⟨hx,hs,by simp,by simp⟩ ?_
   rintro ⟨y,k⟩ ⟨hy,hys,hk0,hk1⟩
   simp only at hy hys hk0 hk1
   unfold UK
   refine .dec (λhk=>?_) λ_=>.lft (j4 hv.1 hy hys)
   have hk : k < y.length:=hk
   have wk : IntKind.i64.wrap (k + 1) = k + 1:=wrap64 (by omega) (by omega)
   refine .chk ⟨hk0,hk⟩ ((Hs.get hk0 hk λz hz=>hys z (List.mem_of_getElem? hz)).bind λz hz=>?_)
   rw [add_eq z u.1 (by have:=hz.length_le; omega),Option.bind_some]
   refine .chk ⟨hk0,hk⟩ ((Hs.get hk0 hk λz hz=>hz).bind λ_ _=>.cnt ⟨⟨by simpa using hy,hys.set (hz.add _),by simp only [wk]; omega,by simp only [wk]; omega⟩,by simp only [wk]; omega⟩)
  ·refine (Of hv.1 (n:=(x.length : Int)) (by omega) (by omega)).bind λk hk=>(Of hk.1 (by omega) (by omega)).bind λt ht=>.beq (λ_=>?_) λ_=>?_
   ·refine .chk hk.2 ((Hs.get hk.2.1 hk.2.2 λz hz=>hs z (List.mem_of_getElem? hz)).bind λz hz=>?_)
    rw [add_eq z u.1 (by have:=hz.length_le; omega),Option.bind_some]
    exact .chk hk.2 ((Hs.get hk.2.1 hk.2.2 λz hz=>hz).bind λ_ _=>j4 ht.1 (by simpa using hx) (hs.set (hz.add _)))
   ·refine .chk hk.2 ((Hs.get hk.2.1 hk.2.2 λz hz=>hs z (List.mem_of_getElem? hz)).bind λz hz=>?_)
    rw [AlR z u.1 (by have:=hz.length_le; omega),Option.bind_some]
    exact .chk hk.2 ((Hs.get hk.2.1 hk.2.2 λz hz=>hz).bind λ_ _=>j4 ht.1 (by simpa using hx) (hs.set (hz.filter _)))
end Go.Proofs.YtpagjjmondojpaaGreatDoor
namespace Go.Proofs.YtpagjjmondojpaaGreatDoor
open Go Go.Dw Go.Proofs
def YE (n : Nat) (f : Nz) : Prop:=∀ x ∈ f.Code,x.Op = 22 -> 0 <= x.A /\ x.A < n
theorem QP.calls {ps : List Int} {i most : Int} {f : Nz} (h : QP ps i most f) (hi : 0 <= i) : YE ps.length f:=by
 intro x hx hop
 obtain ⟨k,hk⟩:=List.getElem?_of_mem hx
 have hkl:=(List.getElem?_eq_some_iff.1 hk).1
 by_cases hk1 : k + 1 < f.Code.length
 ·have hins:=h.body k x hk hk1
  cases hins with
  | call j h0 h1=>exact ⟨by simp only; omega,h1⟩
  | bin op a b c h1 h2 h3 h4 h5 h6=>simp only at hop; omega
  | un op a h1 h2=>simp only at hop; omega
  | _=>simp at hop
 ·have he:=h.last x (by rw [show f.Code.length - 1 = k by omega]; exact hk)
  rcases he with rfl | ⟨w,_,rfl⟩ <;> simp at hop
theorem ApD {n : Nat} {f : Nz} (h : YE n f) {keep : List Bool} {to pl : List Int} (hk : f.Code.length <= keep.length) : ∀ x ∈ VX f keep to pl f.Code.length,x.Op = 22 -> 0 <= x.A /\ x.A < n:=by
 intro x hx hop
 obtain ⟨p,hp⟩:=List.getElem?_of_mem hx
 obtain ⟨j,h1,_,_,rfl⟩:=(Yt (f:=f) (keep:=keep) (to:=to) (pl:=pl) _ hk).2 p x hp
 have hm : Ny f (j : Nat) ∈ f.Code:=by
  have : Ny f ((j : Nat) : Int) = f.Code[j]:=by simp [Ny,h1]
  rw [this]; exact List.getElem_mem _
 have ho : (mvI pl (rnI to (Ny f (j : Nat)))).Op = (Ny f (j : Nat)).Op:=by
  refine Eq.trans ?_ (AfH to _)
  unfold mvI
  split
  ·rfl
  ·split <;> rfl
 rw [ho] at hop
 have e : mvI pl (rnI to (Ny f (j : Nat))) = Ny f (j : Nat):=by simp [mvI,rnI,hop]
 rw [e]
 exact h _ hm hop
theorem Aox {f : Nz} (hf : Om f) (hd : Rf f) (hlast : UD f) {n : Nat} (hc : YE n f) {r : NM} (hr : Sj f r) : Hs (RG f r) λq=>q.2 = 0 /\ Om q.1 /\ Rf q.1 /\ YE n q.1:=by
 obtain ⟨q,e,h1,h2,h3⟩:=Apt hf hd hlast hr
 obtain ⟨q',e',_,used,to,pl,_,_,_,_,_,_,_,_,cd⟩:=Anh hf hd hr
 rw [e] at e'; cases e'
 refine ⟨q,e,h1,h2,h3,?_⟩
 unfold YE
 rw [cd]
 exact ApD hc (by rw [hr.2.1]; exact Nat.le_refl _)
theorem Apx {f : Nz} (hf : Om f) (hd : Rf f) (hml : AdC f) {l : NQ} (hacc : Acc f l.Out) : Hs (ZZ f l) λg=>Hs (UA f g.1) λto=>Hs (Zq f l to) λkeep=>Sj f ⟨to,keep⟩:=by
 have hlen:=hf.len'
 have hsl:=hf.slots
 refine Hs.mono (P:=AdB AdA f l.Out) ?_ λg hg=>?_
 ·unfold ZZ
  exact (AlS hf hd (hacc.1.len hf) false).bind λr hr=>.pure hr
 rcases hg with ⟨_,_,hg⟩ | ⟨_,hn,_⟩
 rotate_left
 ·exact (hn hacc).elim
 refine (Apw hlen hsl hml hg (λx y r s hr hs hy=>((hg.2 y s hs).2 _).2 (((hg.2 x r hr).2 _).1 hy).symm) λx r hr hx=>?_).mono λto hto=>?_
 ·rcases ((hg.2 x r hr).2 _).1 hx with ⟨_,_,_,_,_,_,h',_⟩ | ⟨_,_,_,_,_,_,h',_⟩ <;> exact h' rfl
 refine (ArL hf hacc.1 hml hto.ok.1).mono λkeep ⟨hkl,hkp⟩=>⟨hto.ok,hkl,λk hk h=>?_⟩
 by_cases h1 : Ads f l.Out k
 ·exact h1.1
 ·by_cases h2 : (Ny f k).Op = 17 /\ NS to (Ny f k).A = NS to (Ny f k).B
  ·exact .inr h2.1
  ·have:=(hkp k hk).2 ⟨h1,h2⟩
   rw [h] at this; cases this
theorem ApH {p : NN} {i : Int} {f : Nz} (hi : ixO p.Funcs i = some f) (hf : Om f) (hd : Rf f) (hml : AdC f) (hlast : UD f) (hc : YE p.Funcs.length f) (hp : p.Funcs.length <= 1000) : Hs (Xp p i) λq=>Sj f q.Rename /\ Acc f q.Live.Out:=by
 obtain ⟨i0,i1,_⟩:=Qh hi
 unfold Xp
 rw [hi,Option.bind_some]
 refine (Age hf).bind λl hl=>?_
 have hacc:=hl.acc hf
 refine (Apx hf hd hml hacc).bind λg hg=>hg.bind λto hto=>hto.bind λkeep hr=>?_
 refine (Aox hf hd hlast hc hr).bind λq ⟨_,qf,qd,qc⟩=>?_
 refine (Age qf).bind λl2 hl2=>?_
 have hacc2:=hl2.acc qf
 refine Hs.bind (P:=AdB Ajt q.1 l2.Out) ?_ λs hs=>?_
 ·unfold AbF
  exact (AlS qf qd (hacc2.1.len qf) true).bind λr hr=>.pure hr
 have hrows : ∀ row ∈ s.1,row.length <= 512:=by
  rcases hs with ⟨_,_,hs⟩ | ⟨_,hn,_⟩
  ·intro row hrow
   obtain ⟨k,hk⟩:=List.getElem?_of_mem hrow
   exact (hs.2 k row hk).1.1.length_le
  ·exact (hn hacc2).elim
 refine (Apc hi hf.len' hc).bind λa _=>(ApS _ qf.slots hrows a).bind λo _=>.bne (λ_=>.pure ⟨hr,hacc⟩) λ_=>?_
 have hset : ixO (p.Funcs.set i.toNat q.1) i = some q.1:=by
  rw [OR _ i0]; exact List.getElem?_set_self (by omega)
 refine Hs.bind (P:=λr=>r = ⟨p.Funcs.set i.toNat q.1⟩) ?_ λr hr'=>?_
 ·unfold Adw UB
  refine Hs.bind (P:=λr=>r = ⟨p.Funcs.set i.toNat q.1⟩) (.chk (by simp; omega) (.chk (by simp; omega) ((Hs.get (P:=λ_=>True) i0 (by simp; omega) λ_ _=>trivial).bind λ_ _=>.pure (by simp)))) λr h=>.pure h
 subst hr'
 exact (Aqi p hp).bind λal _=>(ApZ hset qf.len' qf.slots (by simpa [YE] using qc) al _).bind λy _=>.pure ⟨hr,hacc⟩
end Go.Proofs.YtpagjjmondojpaaGreatDoor
namespace Go.Proofs.YtpagjjmondojpaaGreatDoor
open Go Go.Dw Go.Proofs
theorem Aql {c : Mk} (h : okC c) {p : NN} {i : Int} {f : Nz} (hi : ixO p.Funcs i = some f) (hf : Om f) (hd : Rf f) (hml : AdC f) (hlast : UD f) (hc : YE p.Funcs.length f) (hp : p.Funcs.length <= 1000) :
  Hs (Tp c p i) λq=>okC q.2 /\ q.1.To.length = f.Slots.length /\ q.1.Keep.length = f.Code.length:=by
 have hlen:=hf.len'
 have hlen1:=hf.len
 have hsl:=hf.slots
 unfold Tp
 rw [hi,Option.bind_some]
 refine (ApH hi hf hd hml hlast hc hp).bind λq hq=>?_
 obtain ⟨⟨hto,hkl,_⟩,_⟩:=hq
 have htl:=hto.1
 refine .chk (by simp; omega) (.chk (by simp; omega) ?_)
 have j1 : ∀ {l : List Int} {a : Int} {x : List Int} {y : List Bool},okC ⟨l,a⟩ -> x.length = f.Slots.length -> y.length = f.Code.length -> Hs (QH f l a x y) λq=>okC q.2 /\ q.1.To.length = f.Slots.length /\ q.1.Keep.length = f.Code.length:=by
  intro l a x y hc hx hy
  unfold QH
  refine (Of hc (by omega) (by omega)).bind λr hr=>?_
  refine Hs.loop (λs=>okC ⟨s.1,s.2.1⟩ /\ s.2.2.1.length = f.Slots.length /\ s.2.2.2.1.length = f.Code.length /\ 0 <= s.2.2.2.2 /\ s.2.2.2.2 < 4) (λs=>s.2.2.2.2.toNat) ⟨hr.1,hx,hy,hr.2.1,hr.2.2⟩ ?_
  rintro ⟨l,a,x,y,n⟩ ⟨hc,hx,hy,hn0,hn1⟩
  replace hx : x.length = f.Slots.length:=hx
  replace hy : y.length = f.Code.length:=hy
  replace hn0 : 0 <= n:=hn0
  replace hn1 : n < 4:=hn1
  have w : IntKind.i64.wrap (n - 1) = n - 1:=wrap64 (by omega) (by omega)
  unfold Tz
  dsimp only
  refine .dec (λhp=>?_) λ_=>.lft (.pure ⟨hc,hx,hy⟩)
  have j5 : ∀ {l : List Int} {a : Int} {x : List Int} {y : List Bool},okC ⟨l,a⟩ -> x.length = f.Slots.length -> y.length = f.Code.length -> Hs (Pb n l a x y) (Rnd (λs : List Int × Int × List Int × List Bool × Int=>okC ⟨s.1,s.2.1⟩ /\ s.2.2.1.length = f.Slots.length /\ s.2.2.2.1.length = f.Code.length /\ 0 <= s.2.2.2.2 /\ s.2.2.2.2 < 4) (λs=>s.2.2.2.2.toNat) (‹List Int›,‹Int›,x,y,n) (λq : NM × Mk=>okC q.2 /\ q.1.To.length = f.Slots.length /\ q.1.Keep.length = f.Code.length)):=by
   intro l a x y hc hx hy
   unfold Pb
   rw [w]
   exact .cnt ⟨⟨hc,hx,hy,by simp only; omega,by simp only; omega⟩,by simp only; omega⟩
  refine (Of hc (by omega) (by omega)).bind λr hr=>(Of hr.1 (by omega) (by omega)).bind λu hu=>?_
  have j7 : ∀ {l : List Int} {a : Int} (b : Bool),okC ⟨l,a⟩ -> Hs (PV r y n x l a b) (Rnd (λs : List Int × Int × List Int × List Bool × Int=>okC ⟨s.1,s.2.1⟩ /\ s.2.2.1.length = f.Slots.length /\ s.2.2.2.1.length = f.Code.length /\ 0 <= s.2.2.2.2 /\ s.2.2.2.2 < 4) (λs=>s.2.2.2.2.toNat) (‹List Int›,‹Int›,x,y,n) (λq : NM × Mk=>okC q.2 /\ q.1.To.length = f.Slots.length /\ q.1.Keep.length = f.Code.length)):=by
   intro l a b hc
   unfold PV
   refine .cond (λ_=>.chk (by omega) ((Hs.get (P:=λ_=>True) (by omega) (by omega) λ_ _=>trivial).bind λv _=>.chk (by omega) ((Hs.get (P:=λ_=>True) (by omega) (by omega) λ_ _=>trivial).bind λ_ _=>j5 hc hx (by simpa using hy)))) λ_=>j5 hc hx hy
  have j9 : ∀ {l : List Int} {a : Int} (b : Bool),okC ⟨l,a⟩ -> 0 < f.Slots.length \/ b = false -> Hs (QK f x n y l a b) (Rnd (λs : List Int × Int × List Int × List Bool × Int=>okC ⟨s.1,s.2.1⟩ /\ s.2.2.1.length = f.Slots.length /\ s.2.2.2.1.length = f.Code.length /\ 0 <= s.2.2.2.2 /\ s.2.2.2.2 < 4) (λs=>s.2.2.2.2.toNat) (‹List Int›,‹Int›,x,y,n) (λq : NM × Mk=>okC q.2 /\ q.1.To.length = f.Slots.length /\ q.1.Keep.length = f.Code.length)):=by
   intro l a b hc hb
   unfold QK
   refine .cond (λe=>?_) λ_=>j5 hc hx hy
   have h0 : 0 < f.Slots.length:=by
    rcases hb with h | h
    ·exact h
    ·rw [h] at e; cases e
   exact (Of hc (n:=(f.Slots.length : Int)) (by omega) (by omega)).bind λs hs=>(AnB hs.1).bind λt ht=>.chk (by omega) ((Hs.get (P:=λ_=>True) (by omega) (by omega) λ_ _=>trivial).bind λ_ _=>j5 ht.1 (by simpa using hx) hy)
  have j6 : ∀ b : Bool,Hs (QI f r y n x u b) (Rnd (λs : List Int × Int × List Int × List Bool × Int=>okC ⟨s.1,s.2.1⟩ /\ s.2.2.1.length = f.Slots.length /\ s.2.2.2.1.length = f.Code.length /\ 0 <= s.2.2.2.2 /\ s.2.2.2.2 < 4) (λs=>s.2.2.2.2.toNat) (‹List Int›,‹Int›,x,y,n) (λq : NM × Mk=>okC q.2 /\ q.1.To.length = f.Slots.length /\ q.1.Keep.length = f.Code.length)):=by
   intro b
   unfold QI
   refine .cond (λ_=>?_) λ_=>.beq (λ_=>.dec (λh0=>?_) λ_=>j5 hu.1 hx hy) λ_=>.beq (λ_=>.dec (λh0=>?_) λ_=>j9 false hu.1 (.inr rfl)) λ_=>j5 hu.1 hx hy
   ·refine (Hs.ix (P:=λ_=>True) hr.2.1 hr.2.2 λ_ _=>trivial).bind λz _=>.cond (λ_=>j7 true hu.1) λ_=>.cond (λ_=>j7 true hu.1) λ_=>?_
    exact (Of hu.1 (by omega) (by omega)).bind λv hv=>j7 _ hv.1
   ·have h0 : 0 < f.Slots.length:=by omega
    refine (Of hu.1 (n:=(f.Slots.length : Int)) (by omega) (by omega)).bind λs hs=>(Apg hs.1 hs.2.1 hs.2.2 (by omega)).bind λt ht=>?_
    obtain ⟨t0,t1,_⟩:=ht.2
    refine .chk (by omega) ((Hs.get (P:=λ_=>True) (by omega) (by omega) λ_ _=>trivial).bind λv _=>?_)
    refine Hs.loop (λq=>∃ k : Nat,q.2 = (k : Int) /\ k <= f.Slots.length /\ q.1.length = f.Slots.length) (λq=>f.Slots.length - q.2.toNat) ⟨0,rfl,Nat.zero_le _,hx⟩ ?_
    rintro ⟨z,_⟩ ⟨k,rfl,hk,hz⟩
    replace hz : z.length = f.Slots.length:=hz
    unfold TA
    dsimp only
    refine .dec (λhlt=>?_) λ_=>.lft (j5 ht.1 hz hy)
    have hlt : k < f.Slots.length:=by omega
    rw [NT (by omega)]
    exact .chk (by omega) ((Hs.get (P:=λ_=>True) (by omega) (by omega) λ_ _=>trivial).bind λ_ _=>.beq (λ_=>.chk (by omega) ((Hs.get (P:=λ_=>True) (by omega) (by omega) λ_ _=>trivial).bind λ_ _=>.cnt ⟨⟨k + 1,rfl,hlt,by simpa using hz⟩,by simp only; omega⟩)) λ_=>.cnt ⟨⟨k + 1,rfl,hlt,hz⟩,by simp only; omega⟩)
   ·have h0 : 0 < f.Slots.length:=by omega
    exact (Of hu.1 (by omega) (by omega)).bind λv hv=>j9 _ hv.1 (.inl h0)
  exact .cond (λ_=>j6 _) λ_=>j6 _
 refine (Of h (by omega) (by omega)).bind λr hr=>.cond (λ_=>?_) λ_=>j1 hr.1 (by simpa using htl) (by simpa using hkl)
 refine Hs.loop (λq=>∃ k : Nat,q.2 = (k : Int) /\ k <= f.Slots.length /\ q.1.length = f.Slots.length) (λq=>f.Slots.length - q.2.toNat) ⟨0,rfl,Nat.zero_le _,by simpa using htl⟩ ?_
 rintro ⟨x,_⟩ ⟨k,rfl,hk,hx⟩
 replace hx : x.length = f.Slots.length:=hx
 unfold Tx
 dsimp only
 refine .dec (λhlt=>?_) λ_=>.lft ?_
 ·have hlt : k < f.Slots.length:=by omega
  rw [NT (by omega)]
  exact .chk (by omega) ((Hs.get (P:=λ_=>True) (by omega) (by omega) λ_ _=>trivial).bind λ_ _=>.cnt ⟨⟨k + 1,rfl,hlt,by simpa using hx⟩,by simp only; omega⟩)
 ·refine Hs.loop (λq=>∃ k : Nat,q.2 = (k : Int) /\ k <= f.Code.length /\ q.1.length = f.Code.length) (λq=>f.Code.length - q.2.toNat) ⟨0,rfl,Nat.zero_le _,by simpa using hkl⟩ ?_
  rintro ⟨y,_⟩ ⟨k,rfl,hk,hy⟩
  replace hy : y.length = f.Code.length:=hy
  unfold Ty
  dsimp only
  refine .dec (λhlt=>?_) λ_=>.lft (j1 hr.1 hx hy)
  have hlt : k < f.Code.length:=by omega
  rw [NT (by omega)]
  exact .chk (by omega) ((Hs.get (P:=λ_=>True) (by omega) (by omega) λ_ _=>trivial).bind λ_ _=>.cnt ⟨⟨k + 1,rfl,hlt,by simpa using hy⟩,by simp only; omega⟩)
end Go.Proofs.YtpagjjmondojpaaGreatDoor
namespace Go.Proofs.YtpagjjmondojpaaGreatDoor
open Go Go.Dw Go.Proofs
theorem AqW {c : Mk} (h : okC c) : Hs (TX c) λq=>okC q.2:=by
 unfold TX
 refine (Of h (by omega) (by omega)).bind λr hr=>?_
 refine Hs.loop (λs=>okC ⟨s.1,s.2.1⟩ /\ 0 <= s.2.2.2 /\ (s.2.2.1.length : Int) + s.2.2.2 <= 4) (λs=>s.2.2.2.toNat) ⟨hr.1,hr.2.1,by simp only [List.length_nil]; omega⟩ ?_
 rintro ⟨c1,c2,l,n⟩ ⟨hc,hn,hl⟩
 simp only at hc hn hl
 unfold Uc
 refine .dec (λhlt=>?_) λ_=>.lft (.pure hc)
 have hlt : 0 < n:=hlt
 have w : IntKind.i64.wrap (n - 1) = n - 1:=wrap64 (by omega) (by omega)
 refine (AlG hc).bind λx hx=>.chk (by simp; omega) (.cnt ⟨⟨hx.1,by simp only [w]; omega,by simp only [w,List.length_append,List.length_singleton]; omega⟩,by simp only [w]; omega⟩)
theorem Aqz (a : List NF) (hl : a.length <= 9000000) : Hs (Vk a a) λb=>b = true:=by
 unfold Vk
 refine .bne (λh=>(h rfl).elim) λ_=>?_
 refine Hs.loop (λs=>∃ k : Nat,s = (k : Int) /\ k <= a.length) (λs=>a.length - s.toNat) ⟨0,rfl,Nat.zero_le _⟩ ?_
 rintro _ ⟨k,rfl,hk⟩
 unfold Vl
 refine .dec (λhlt=>?_) λ_=>.lft (.pure rfl)
 have hlt : k < a.length:=by omega
 rw [OD,List.getElem?_eq_getElem hlt,Option.bind_some,Option.bind_some]
 simp only [beq_self_eq_true,Bool.and_true,Bool.not_true,cond_false]
 rw [NT (by omega)]
 exact .cnt ⟨⟨k + 1,rfl,hlt⟩,by simp only; omega⟩
theorem Apb (codes : List Int) (hc : qL (Pu .u8) codes) : Hs (ZO codes) λq=>okC q.2.2.2.2 /\ ∃ ps i f,Vz ps q.1 /\ 0 <= q.2.1 /\ q.1.Funcs[q.2.1.toNat]? = some f /\ QP ps i 14 f /\ YG q.2.2.1.Out:=by
 unfold ZO
 obtain ⟨c,e1,hcok⟩:=Asy codes 350 hc (by omega) (by omega)
 rw [e1,Option.bind_some]
 refine (ApG hcok (by omega) (by omega) (by omega) (by omega)).bind λp hp=>?_
 obtain ⟨ps,hps,hz,hp1,hp2,hfl,hall⟩:=hp.2
 refine (Of hp.1 (by omega) (by omega)).bind λk hk=>?_
 have hix : ixO p.1.Funcs k.1 = some (p.1.Funcs[k.1.toNat]'(by omega)):=by
  rw [OR _ hk.2.1]; exact List.getElem?_eq_getElem _
 generalize hff : (p.1.Funcs[k.1.toNat]'(by omega)) = f at hix
 have hfx : p.1.Funcs[k.1.toNat]? = some f:=by rw [<- OR _ hk.2.1]; exact hix
 have hfo : QP ps (k.1.toNat : Nat) 14 f:=hall k.1.toNat f hfx
 have hpw : Vz ps p.1:=⟨hps,hz,by omega,hfl,λj g hj=>(hall j g hj).gok (by omega)⟩
 have hf:=hfo.AaF (by omega)
 have hcalls : YE p.1.Funcs.length f:=by rw [hfl]; exact hfo.calls (by omega)
 have hpl : p.1.Funcs.length <= 1000:=by omega
 have j1 : ∀ {l : List Int} {a : Int} {x : List (List Int)},okC ⟨l,a⟩ -> YG x -> Hs (TM p k x l a) λq=>okC q.2.2.2.2 /\ ∃ ps i f,Vz ps q.1 /\ 0 <= q.2.1 /\ q.1.Funcs[q.2.1.toNat]? = some f /\ QP ps i 14 f /\ YG q.2.2.1.Out:=by
  intro l a x hc hx
  unfold TM
  exact (Aql hc hix hf hfo.defs hfo.Aqe hfo.Aqb hcalls hpl).bind λr hr=>.pure ⟨hr.1,ps,_,f,hpw,hk.2.1,hfx,hfo,hx⟩
 rw [hix,Option.bind_some]
 refine (Arb hk.1 hf).bind λl hl=>(Of hl.1 (by omega) (by omega)).bind λr hr=>.cond (λ_=>?_) λ_=>j1 hr.1 (hl.2.1.len hf)
 rw [Option.bind_some]
 exact (ArM hr.1 hf).bind λl hl=>j1 hl.1 (AdD.len hf hl.2.1 hl.2.2)
theorem AsC {ps : List Int} {p : NN} (hp : Vz ps p) {n : Nat} {i : Int} {f : Nz} (hfx : p.Funcs[n]? = some f) (hfo : QP ps i 14 f) {l : NQ} (ha : Acc f l.Out) {r : NM} (hr : Sj f r) (hn : ∀ k y,k < f.Code.length -> ¬ RD f l.Out r k y) {g : Nz} {used nm pl : List Int} (hrw : AdE f g r used nm pl) : Two ps p ⟨p.Funcs.set n g⟩ n f g r used nm pl l.Out:=by
 have hf:=hfo.AaF (by omega)
 have hgf:=hp.all n f hfx
 refine ⟨hp,⟨hp.par,hp.zero,hp.few,by simp [hp.len],λj u hu=>?_⟩,hfx,rfl,hrw,hf,hfo.defs,ha,hn⟩
 by_cases e : n = j
 ·subst e
  simp only at hu
  rw [List.getElem?_set_self (List.getElem?_eq_some_iff.1 hfx).1] at hu
  obtain rfl:=Option.some.inj hu
  exact hrw.gok hgf hf hfo.defs hfo.Aqe
 ·simp only at hu
  rw [List.getElem?_set_ne e] at hu
  exact hp.all j u hu
theorem AdK (codes : List Int) (fuel : Int) (hc : qL (Pu .u8) codes) (hfu : 0 <= fuel /\ fuel <= 255) : Hs (Rt codes fuel) λb=>b = true:=by
 unfold Rt
 rw [ArE]
 simp only [Option.bind_some,Bool.not_true,cond_false]
 refine (Apb codes hc).bind λq ⟨hcc,ps,i,f,hp,h0,hfx,hfo,hlen⟩=>?_
 have hf:=hfo.AaF (by omega)
 have hd:=hfo.defs
 rw [OR _ h0,hfx,Option.bind_some]
 refine (AhR hf hd hlen q.2.2.2.1).bind λe he=>.bne (λh=>?_) λh=>?_
 ·rw [Option.bind_some]
  refine (AoL hf hd hlen q.2.2.2.1).bind λe' he'=>.pure ?_
  rcases he' with ⟨_,h'⟩ | ⟨_,_,h'⟩ | ⟨a1,a2,a3,_⟩
  ·rw [h']; rfl
  ·rw [h']; rfl
  ·rcases he with ⟨b,_⟩ | ⟨_,b | ⟨k,y,hk,b⟩,_⟩ | ⟨_,_,_,b⟩
   ·exact (b a1).elim
   ·exact (b a2).elim
   ·exact (a3 k y hk b).elim
   ·exact (h b).elim
 subst h
 obtain ⟨ha,hr,hn⟩ : Acc f q.2.2.1.Out /\ Sj f q.2.2.2.1 /\ ∀ k y,k < f.Code.length -> ¬ RD f q.2.2.1.Out q.2.2.2.1 k y:=by
  rcases he with ⟨_,h⟩ | ⟨_,_,h⟩ | ⟨a,b,c,_⟩
  ·cases h
  ·cases h
  ·exact ⟨a,b,c⟩
 rw [Option.bind_some]
 refine (ApR hf hd hr).bind λg ⟨g0,used,nm,pl,hrw⟩=>.bne (λh=>(h g0).elim) λ_=>?_
 have hpl:=hp.len
 have hpf:=hp.few
 have hil:=(List.getElem?_eq_some_iff.1 hfx).1
 unfold UB
 simp only [List.nil_append]
 rw [Oj (by simp; omega),Oj (by omega),hfx,Option.bind_some,Option.bind_some]
 have T:=AsC hp hfx hfo ha hr hn hrw
 refine Hs.loop (λs=>okC ⟨s.1,s.2.1⟩ /\ ∃ k : Nat,s.2.2 = (k : Int) /\ k <= 3) (λs=>3 - s.2.2.toNat) ⟨hcc,0,rfl,by omega⟩ ?_
 rintro ⟨c1,c2,_⟩ ⟨hok,k,rfl,hk⟩
 simp only at hok
 unfold RL
 refine .dec (λhlt=>?_) λ_=>.lft (.pure rfl)
 have hlt : k < 3:=by simp only at hlt; omega
 refine (AqW hok).bind λinp hin=>?_
 have wf : IntKind.i64.wrap fuel = fuel:=wrap64 (by omega) (by omega)
 rw [wf]
 obtain ⟨a,ea,b,eb,z1,z2,htr,ho⟩:=Aom T inp.1 hfu.1 (by omega : fuel <= 100000)
 rw [ea,Option.bind_some,eb,Option.bind_some,z1,z2]
 simp only [bne_self_eq_false,cond_false]
 unfold RM
 have nx : Hs (cnt (inp.2.list,inp.2.at_,IntKind.i64.wrap ((k : Int) + 1)) : Option ((List Int × Int × Int) ⊕ Bool)) (Rnd (λs : List Int × Int × Int=>okC ⟨s.1,s.2.1⟩ /\ ∃ k : Nat,s.2.2 = (k : Int) /\ k <= 3) (λs=>3 - s.2.2.toNat) (c1,c2,(k : Int)) λb=>b = true):=by
  rw [NT (by omega)]
  exact .cnt ⟨⟨hin,k + 1,rfl,hlt⟩,by simp only; omega⟩
 have he : Hs (Abx a.1) λb=>b = true -> a.1.Kind = 0 \/ a.1.Kind = 1 \/ a.1.Kind = 2:=by
  unfold Abx
  exact .beq (λh=>.pure λ_=>.inl h) λ_=>.beq (λh=>.pure λ_=>.inr (.inl h)) λ_=>.pure λh=>.inr (.inr (by simpa using h))
 refine he.bind λt ht=>.cond (λh=>?_) λ_=>nx
 obtain ⟨o1,o2,o3,o4,o5⟩:=ho (ht h)
 rw [o1,o2,o3,o4]
 simp only [bne_self_eq_false,beq_self_eq_true,Bool.and_true,Bool.not_true,cond_false]
 refine (Aqz _ (by omega)).bind λt ht=>?_
 subst ht
 simp only [Bool.not_true,cond_false]
 rw [decide_eq_false (by omega),cond_false]
 exact nx
theorem AcZ (codes : List Int) (fuel : Int) (hc : qL (Pu .u8) codes) (hfu : Pu .u8 fuel) : Rt codes fuel = some true:=by
 have hr : 0 <= fuel /\ fuel <= 255:=by
  unfold Pu at hfu
  simpa [IntKind.min,IntKind.max,IntKind.signed,IntKind.bits] using hfu
 obtain ⟨r,h,rfl⟩:=AdK codes fuel hc hr
 exact h
end Go.Proofs.YtpagjjmondojpaaGreatDoor
