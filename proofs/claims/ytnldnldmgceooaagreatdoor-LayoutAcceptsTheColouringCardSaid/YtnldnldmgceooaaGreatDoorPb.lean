/-
  Plain laws about the typed programs.
-/
import Derived.Test.YtnldnldmgceooaaGreatDoorPa
namespace Go.Proofs.YtnldnldmgceooaaGreatDoor
open Go Go.Dw Go.Proofs
theorem Anb {f : OX} (hlen : f.Code.length ≤ 10000) (hsl : f.Slots.length ≤ 500) (hml : Aeg f) {g : List (List Int)} {Q : Nat → Int → Prop} (hg : Qy f.Slots.length g Q) (hsym : ∀ (x y : Nat) r s,g[x]? = some r → g[y]? = some s → (y : Int) ∈ r → (x : Int) ∈ s)
  (hirr : ∀ (x : Nat) r,g[x]? = some r → (x : Int) ∉ r) : Hs (Vd f g) fun to=>AaL f g to:=by
 unfold Vd
 refine Hs.loop (fun s=>∃ k : Nat,s.2 = (k : Int) ∧ k ≤ f.Slots.length ∧ s.1.length = k ∧ ∀ j : Nat,j < k → s.1[j]? = some (j : Int)) (fun s=>f.Slots.length - s.2.toNat) ⟨0,rfl,Nat.zero_le _,rfl,fun j hj=>absurd hj (Nat.not_lt_zero _)⟩ ?_
 rintro ⟨to,_⟩ ⟨k,rfl,hk,htl,hto⟩
 replace htl : to.length = k:=htl
 replace hto : ∀ j : Nat,j < k → to[j]? = some (j : Int):=hto
 unfold WZ
 refine .dec (fun hlt=>?_) fun hge=>.lft ?_
 ·have hlt : k < f.Slots.length:=by simp only at hlt; omega
  refine .chk (by simp; omega) ?_
  rw [Pl (by omega)]
  refine .cnt ⟨⟨k + 1,rfl,hlt,by simp [htl],fun j hj=>?_⟩,by simp only; omega⟩
  show (to ++ [(k : Int)])[j]? = some (j : Int)
  by_cases e : j = k
  ·subst e; rw [← htl,List.getElem?_concat_length]
  ·rw [List.getElem?_append_left (by omega)]; exact hto j (by omega)
 have hkk : k = f.Slots.length:=by simp only at hge; omega
 subst hkk
 have hid : ∀ j : Nat,j < f.Slots.length → Pu to j = (j : Int):=by
  intro j h1
  simp only [Pu,Int.toNat_natCast,hto j h1,Option.getD_some]
 have hc0 : AaL f g to:=by
  refine ⟨⟨htl,fun s hs=>?_⟩,fun x y row hx hy he hr hyr=>?_⟩
  ·have:=hid s (by omega)
   rw [this,this]
   exact ⟨by omega,by omega,rfl,rfl⟩
  ·rw [hid x (by omega),hid y (by omega)] at he
   have : x = y:=by omega
   subst this
   exact hirr x row hr hyr
 clear hto hid
 refine (Apr hlen).bind fun mv hmv=>?_
 obtain ⟨hmvl,hmv⟩:=hmv
 refine Hs.loop (fun s=>∃ i : Nat,s.2 = (i : Int) ∧ i ≤ mv.length ∧ AaL f g s.1) (fun s=>mv.length - s.2.toNat) ⟨0,rfl,Nat.zero_le _,hc0⟩ ?_
 clear hc0 htl hge
 rintro ⟨to,_⟩ ⟨i,rfl,hi,hc⟩
 replace hc : AaL f g to:=hc
 have htl:=hc.ok.1
 unfold Xa
 refine .dec (fun hlt=>?_) fun _=>.lft (.pure hc)
 have hlt : i < mv.length:=by simp only at hlt; omega
 have hgp : mv[i]? = some mv[i]:=List.getElem?_eq_getElem _
 have hpm:=List.getElem_mem hlt
 generalize mv[i] = p at hgp hpm
 obtain ⟨x,hx,hop,rfl⟩:=hmv p hpm
 obtain ⟨a0,a1,b0,b1,hsz⟩:=hml x hx hop
 have hA:=TX (to:=to) (s:=x.A) a0 (by omega)
 have hB:=TX (to:=to) (s:=x.B) b0 (by omega)
 simp only [Int.toNat_natCast,hgp,Option.bind_some,hA,hB]
 have skip : Hs (Rk (i : Int) to) (Rnd (fun s : List Int × Int=>∃ i : Nat,s.2 = (i : Int) ∧ i ≤ mv.length ∧ AaL f g s.1) (fun s=>mv.length - s.2.toNat) (to,(i : Int)) fun to=>AaL f g to):=by
  unfold Rk
  rw [Pl (by omega)]
  exact .cnt ⟨⟨i + 1,rfl,hlt,hc⟩,by simp only; omega⟩
 refine .chk (by omega) (.chk (by omega) (.chk (by omega) (.chk (by omega) (.beq (fun _=>skip) fun hne=>?_))))
 refine (Aor hg htl hsl (Pu to x.A) (Pu to x.B)).bind fun r hr=>.cond (fun _=>skip) fun hrt=>?_
 have hap:=hr (by simpa using hrt)
 have nat : ∀ {s : Int},0 ≤ s → s < to.length → 0 ≤ Pu to s ∧ Pu to s < to.length ∧ RN f (Pu to s) = RN f s ∧ Pu to (Pu to s) = Pu to s:=by
  intro s h0 h1
  obtain ⟨j,rfl⟩ : ∃ j : Nat,s = (j : Int):=⟨s.toNat,by omega⟩
  exact hc.ok.2 j (by omega)
 obtain ⟨qa1,qa2,qa3,qa4⟩:=nat a0 (by omega)
 obtain ⟨qb1,qb2,qb3,qb4⟩:=nat b0 (by omega)
 generalize Pu to x.A = a at *
 generalize Pu to x.B = b at *
 unfold Xc
 refine Hs.loop (fun s=>∃ k : Nat,s.2 = (k : Int) ∧ k ≤ to.length ∧ s.1.length = to.length ∧ ∀ j : Nat,j < to.length → Pu s.1 j = if j < k then QJ a b (Pu to j) else Pu to j) (fun s=>to.length - s.2.toNat) ⟨0,rfl,Nat.zero_le _,rfl,fun j _=>(by simp)⟩ ?_
 rintro ⟨t2,_⟩ ⟨k,rfl,hk,h2l,h2⟩
 replace h2l : t2.length = to.length:=h2l
 replace h2 : ∀ j : Nat,j < to.length → Pu t2 j = if j < k then QJ a b (Pu to j) else Pu to j:=h2
 unfold Xb
 refine .dec (fun hlt2=>?_) fun hge2=>.lft ?_
 ·have hlt2 : k < to.length:=by simp only at hlt2; omega
  have hgk:=TX (to:=t2) (s:=(k : Int)) (by omega) (by omega)
  rw [h2 k hlt2,if_neg (Nat.lt_irrefl _)] at hgk
  refine .chk (by omega) ?_
  rw [hgk,Option.bind_some]
  have fin : ∀ q : Bool,(q = true ↔ Pu to k = a ∨ Pu to k = b) → Hs (Td (k : Int) t2 a b q) (Rnd (fun s : List Int × Int=>∃ k : Nat,s.2 = (k : Int) ∧ k ≤ to.length ∧ s.1.length = to.length ∧ ∀ j : Nat,j < to.length → Pu s.1 j = if j < k then QJ a b (Pu to j) else Pu to j) (fun s=>to.length - s.2.toNat) (t2,(k : Int)) (Rnd (fun s : List Int × Int=>∃ i : Nat,s.2 = (i : Int) ∧ i ≤ mv.length ∧ AaL f g s.1) (fun s=>mv.length - s.2.toNat) (to,(i : Int)) fun to=>AaL f g to)):=by
   intro q hq
   unfold Td
   rw [Pl (by omega)]
   refine .cond (fun h=>.chk (by omega) ?_) fun h=>.cnt ⟨⟨k + 1,rfl,hlt2,h2l,fun j hj=>?_⟩,by simp only; omega⟩
   ·rw [hgk,Option.bind_some]
    refine .cnt ⟨⟨k + 1,rfl,hlt2,by simp [h2l],fun j hj=>?_⟩,by simp only; omega⟩
    show Pu (t2.set ((k : Nat) : Int).toNat (Sm a b)) j = _
    by_cases e : j = k
    ·subst e
     rw [if_pos (Nat.lt_succ_self _)]
     simp only [Pu,Int.toNat_natCast]
     rw [List.getElem?_set_self (by omega)]
     have:=hq.1 h
     simp only [Pu,Int.toNat_natCast] at this
     simp only [QJ,if_pos this,Option.getD_some]
    ·have:=h2 j hj
     simp only [Pu,Int.toNat_natCast] at this ⊢
     rw [List.getElem?_set_ne (by omega),this]
     by_cases h' : j < k
     ·rw [if_pos h',if_pos (by omega)]
     ·rw [if_neg h',if_neg (by omega)]
   ·show Pu t2 j = _
    rw [h2 j hj]
    by_cases e : j = k
    ·subst e
     have : ¬ (Pu to j = a ∨ Pu to j = b):=fun h'=>by rw [hq.2 h'] at h; cases h
     rw [if_neg (Nat.lt_irrefl _),if_pos (Nat.lt_succ_self _),QJ,if_neg this]
    ·by_cases h' : j < k
     ·rw [if_pos h',if_pos (by omega)]
     ·rw [if_neg h',if_neg (by omega)]
  refine .beq (fun h=>fin true ⟨fun _=>.inl h,fun _=>rfl⟩) fun h=>.chk (by omega) ?_
  rw [Option.bind_some]
  exact fin _ ⟨fun h'=>.inr (by simpa using h'),fun h'=>by simpa using h'.resolve_left h⟩
 ·have hkk : k = to.length:=by simp only at hge2; omega
  subst hkk
  unfold Rk
  rw [Pl (by omega)]
  refine .cnt ⟨⟨i + 1,rfl,hlt,?_⟩,by simp only; omega⟩
  refine hc.join hg hsym (a:=a) (b:=b) ⟨qa1,by omega⟩ ⟨qb1,by omega⟩ qa4 qb4 (by rw [qa3,qb3,hsz]) hap h2l fun j hj=>?_
  rw [h2 j hj,if_pos hj]
def AcB (f : OX) (l : List (List Int)) (k : Nat) : Prop:=((Pb f k).Op = 16 ∨ (Pb f k).Op = 17) ∧ (Pb f k).A ∉ Pr l k
theorem Ape {f : OX} (hf : Py f) {l : Ph} (hl : Rb f l.Out) {k : Nat} (hk : k < f.Code.length) : Hs (Abm f l (k : Int)) fun b=>b = true ↔ AcB f l.Out k:=by
 have hx:=hf.at (j:=(k : Int)) (by omega) (by omega)
 have hrow:=hl.at (j:=(k : Int)) (by omega) (by omega)
 rw [Int.toNat_natCast] at hx hrow
 have hlo:=hrow.2.1.length_le
 unfold Abm
 simp only [PD,hx.1,Option.bind_some,Aji,AfC]
 by_cases hd : (Pb f k).Op = 16 ∨ (Pb f k).Op = 17
 ·rw [if_pos hd]
  simp only [cond_true,hrow.1,Option.bind_some]
  rw [Wp _ _ (by omega),Option.bind_some]
  exact .pure ⟨fun h=>⟨hd,by simpa using h⟩,fun h=>by simpa using h.2⟩
 ·rw [if_neg hd]
  exact .pure ⟨fun h=>(by cases h),fun h=>(hd h.1).elim⟩
theorem Api {f : OX} (hf : Py f) {l : Ph} (hl : Rb f l.Out) {to : List Int} (hml : Aeg f) (htl : to.length = f.Slots.length) : Hs (Zs f l to) fun keep=>keep.length = f.Code.length ∧ ∀ k : Nat,k < f.Code.length → (PK keep k = true ↔ ¬ AcB f l.Out k ∧ ¬ ((Pb f k).Op = 17 ∧ Pu to (Pb f k).A = Pu to (Pb f k).B)):=by
 have hlen:=hf.len'
 unfold Zs
 refine Hs.loop (fun s=>∃ k : Nat,s.2 = (k : Int) ∧ k ≤ f.Code.length ∧ s.1.length = k ∧ ∀ j : Nat,j < k → (PK s.1 j = true ↔ ¬ AcB f l.Out j ∧ ¬ ((Pb f j).Op = 17 ∧ Pu to (Pb f j).A = Pu to (Pb f j).B))) (fun s=>f.Code.length - s.2.toNat) ⟨0,rfl,Nat.zero_le _,rfl,fun j hj=>absurd hj (Nat.not_lt_zero _)⟩ ?_
 rintro ⟨keep,_⟩ ⟨k,rfl,hk,hkl,hkp⟩
 replace hkl : keep.length = k:=hkl
 replace hkp : ∀ j : Nat,j < k → (PK keep j = true ↔ ¬ AcB f l.Out j ∧ ¬ ((Pb f j).Op = 17 ∧ Pu to (Pb f j).A = Pu to (Pb f j).B)):=hkp
 unfold Aao
 refine .dec (fun hlt=>?_) fun hge=>.lft (.pure ?_)
 ·have hlt : k < f.Code.length:=by simp only at hlt; omega
  have hx:=hf.at (j:=(k : Int)) (by omega) (by omega)
  rw [Int.toNat_natCast] at hx
  simp only [PD,hx.1,Option.bind_some]
  rw [Pl (by omega)]
  have fin : ∀ q : Bool,(q = true ↔ ¬ AcB f l.Out k ∧ ¬ ((Pb f k).Op = 17 ∧ Pu to (Pb f k).A = Pu to (Pb f k).B)) → Hs (chk (keep.length + ([q] : List Bool).length ≤ 16777216) (cnt (keep ++ ([q] : List Bool),((k + 1 : Nat) : Int)) : Option ((List Bool × Int) ⊕ List Bool))) (Rnd (fun s : List Bool × Int=>∃ k : Nat,s.2 = (k : Int) ∧ k ≤ f.Code.length ∧ s.1.length = k ∧ ∀ j : Nat,j < k → (PK s.1 j = true ↔ ¬ AcB f l.Out j ∧ ¬ ((Pb f j).Op = 17 ∧ Pu to (Pb f j).A = Pu to (Pb f j).B))) (fun s=>f.Code.length - s.2.toNat) (keep,(k : Int)) fun keep=>keep.length = f.Code.length ∧ ∀ k : Nat,k < f.Code.length → (PK keep k = true ↔ ¬ AcB f l.Out k ∧ ¬ ((Pb f k).Op = 17 ∧ Pu to (Pb f k).A = Pu to (Pb f k).B))):=by
   intro q hq
   refine .chk (by simp; omega) (.cnt ⟨⟨k + 1,rfl,hlt,by simp [hkl],fun j hj=>?_⟩,by simp only; omega⟩)
   show PK (keep ++ [q]) j = true ↔ _
   by_cases e : j = k
   ·subst e
    have : PK (keep ++ [q]) j = q:=by
     unfold PK
     rw [← hkl,List.getElem?_concat_length]; rfl
    rw [this]; exact hq
   ·have : PK (keep ++ [q]) j = PK keep j:=by
     unfold PK
     rw [List.getElem?_append_left (by omega)]
    rw [this]; exact hkp j (by omega)
  refine (Ape hf hl hlt).bind fun r hr=>.cond (fun h=>?_) fun h=>fin false ⟨fun h=>(by cases h),fun h'=>(h'.1 (hr.1 (by simpa using h))).elim⟩
  have hnd : ¬ AcB f l.Out k:=fun h'=>by rw [hr.2 h'] at h; cases h
  refine .beq (fun h17=>?_) fun h17=>fin true ⟨fun _=>⟨hnd,fun h=>h17 h.1⟩,fun _=>rfl⟩
  obtain ⟨a0,a1,b0,b1,_⟩:=hml _ hx.2 h17
  rw [QX _ a0,TX a0 (by omega),Option.bind_some,QX _ b0,TX b0 (by omega),Option.bind_some]
  exact fin _ ⟨fun h=>⟨hnd,fun h'=>by simp [h'.2] at h⟩,fun h=>by simpa using fun h'=>h.2 ⟨h17,h'⟩⟩
 ·have hkk : k = f.Code.length:=by simp only at hge; omega
  subst hkk
  exact ⟨hkl,hkp⟩
end Go.Proofs.YtnldnldmgceooaaGreatDoor
namespace Go.Proofs.YtnldnldmgceooaaGreatDoor
open Go Go.Dw Go.Proofs
theorem Aog (f : OX) (to : List Int) (hsl : f.Slots.length ≤ 500) : Hs (ZX f to) fun b=>b = true ↔ Ahm f to:=by
 unfold ZX
 refine .bne (fun h=>.pure ⟨fun h'=>(by cases h'),fun h'=>(h (by rw [h'.1])).elim⟩) fun h=>?_
 have hl : to.length = f.Slots.length:=by omega
 refine Hs.loop (fun i=>∃ k : Nat,i = (k : Int) ∧ k ≤ to.length ∧ ∀ s : Nat,s < k → 0 ≤ Pu to s ∧ Pu to s < to.length) (fun i=>to.length - i.toNat) ⟨0,rfl,Nat.zero_le _,fun s hs=>absurd hs (Nat.not_lt_zero _)⟩ ?_
 rintro _ ⟨k,rfl,hk,hall⟩
 unfold Zn
 refine .dec (fun hlt=>?_) fun hge=>.lft ?_
 ·have hlt : k < to.length:=by omega
  have hg : to[k]? = some (Pu to k):=by have:=TX (to:=to) (s:=k) (by omega) (by omega); simpa using this
  simp only [PD,hg,Option.bind_some]
  refine .dec (fun h0=>.lft (.pure ⟨fun h=>(by cases h),fun h=>?_⟩)) fun h0=>.dec (fun h1=>.lft (.pure ⟨fun h=>(by cases h),fun h=>?_⟩)) fun h1=>?_
  ·have:=(h.2 k hlt).1; omega
  ·have:=(h.2 k hlt).2.1; omega
  rw [Pl (by omega)]
  refine .cnt ⟨⟨k + 1,rfl,hlt,fun s hs=>?_⟩,by simp only; omega⟩
  by_cases e : s = k
  ·subst e; exact ⟨by omega,by omega⟩
  ·exact hall s (by omega)
 have hkk : k = to.length:=by omega
 subst hkk
 refine Hs.loop (fun i=>∃ k : Nat,i = (k : Int) ∧ k ≤ to.length ∧ ∀ s : Nat,s < k → RN f (Pu to s) = RN f s ∧ Pu to (Pu to s) = Pu to s) (fun i=>to.length - i.toNat) ⟨0,rfl,Nat.zero_le _,fun s hs=>absurd hs (Nat.not_lt_zero _)⟩ ?_
 rintro _ ⟨k,rfl,hk,hall2⟩
 unfold Zo
 refine .dec (fun hlt=>?_) fun hge=>.lft (.pure ?_)
 ·have hlt : k < to.length:=by omega
  obtain ⟨q0,q1⟩:=hall k hlt
  have hg : to[k]? = some (Pu to k):=by have:=TX (to:=to) (s:=k) (by omega) (by omega); simpa using this
  simp only [PD,hg,Option.bind_some]
  refine Hs.bind (Hs.ix (i:=Pu to k) (P:=fun x=>x.Size = RN f (Pu to k)) (by omega) (by omega) fun x hx=>Afa hx) fun a ha=>?_
  refine Hs.bind (Hs.get (i:=(k : Int)) (P:=fun x=>x.Size = RN f k) (by omega) (by omega) fun x hx=>Afa hx) fun b hb=>?_
  rw [ha,hb]
  refine .bne (fun h2=>.lft (.pure ⟨fun h=>(by cases h),fun h=>(h2 (h.2 k hlt).2.2.1).elim⟩)) fun h2=>?_
  rw [QX _ (by omega),TX (by omega) (by omega),Option.bind_some]
  refine .bne (fun h3=>.lft (.pure ⟨fun h=>(by cases h),fun h=>(h3 (h.2 k hlt).2.2.2).elim⟩)) fun h3=>?_
  rw [Pl (by omega)]
  refine .cnt ⟨⟨k + 1,rfl,hlt,fun s hs=>?_⟩,by simp only; omega⟩
  by_cases e : s = k
  ·subst e; exact ⟨h2,h3⟩
  ·exact hall2 s (by omega)
 ·exact ⟨fun _=>⟨hl,fun s hs=>⟨(hall s hs).1,(hall s hs).2,(hall2 s (by omega)).1,(hall2 s (by omega)).2⟩⟩,fun _=>rfl⟩
theorem Aoe (x : OZ) : RJ x = some (decide (x.Op = 16 ∨ x.Op = 17)):=by
 unfold RJ
 by_cases h16 : x.Op = 16
 ·simp [h16]
 ·have e16 : (x.Op == 16) = false:=by simpa using h16
  rw [e16,cond_false]
  by_cases h17 : x.Op = 17 <;> simp [h16,h17]
theorem Amz {f : OX} (hf : Py f) (r : Pw) : Hs (ZZ f r) fun e=>(e = 0 ∨ e = 12) ∧ (e = 0 ↔ AdN f r):=by
 have hlen:=hf.len'
 unfold ZZ
 refine (Aog f r.To hf.slots).bind fun b hb=>.cond (fun h=>.pure ⟨.inr rfl,fun h=>by omega,fun h'=>?_⟩) fun h=>?_
 ·rw [hb.2 h'.1] at h; cases h
 have hv : Ahm f r.To:=hb.1 (by simpa using h)
 refine .bne (fun h=>.pure ⟨.inr rfl,fun h=>by omega,fun h'=>(h (by rw [h'.2.1])).elim⟩) fun h=>?_
 have hkl : r.Keep.length = f.Code.length:=by omega
 unfold Zy
 refine Hs.loop (fun i=>∃ k : Nat,i = (k : Int) ∧ k ≤ f.Code.length ∧ ∀ j : Nat,j < k → PK r.Keep j = false → (Pb f j).Op = 16 ∨ (Pb f j).Op = 17) (fun i=>f.Code.length - i.toNat) ⟨0,rfl,Nat.zero_le _,fun s hs=>absurd hs (Nat.not_lt_zero _)⟩ ?_
 rintro _ ⟨k,rfl,hk,hall⟩
 unfold Zx
 refine .dec (fun hlt=>?_) fun hge=>.lft (.pure ⟨.inl rfl,fun _=>⟨hv,hkl,fun j hj=>hall j (by omega)⟩,fun _=>rfl⟩)
 have hlt : k < f.Code.length:=by omega
 have hx:=hf.at (j:=(k : Int)) (by omega) (by omega)
 rw [Int.toNat_natCast] at hx
 have hg : r.Keep[k]? = some (PK r.Keep k):=by simp [PK,show k < r.Keep.length by omega]
 have stp : (PK r.Keep k = false → (Pb f k).Op = 16 ∨ (Pb f k).Op = 17) → ∀ j : Nat,j < k + 1 → PK r.Keep j = false → (Pb f j).Op = 16 ∨ (Pb f j).Op = 17:=by
  intro h j hj
  by_cases e : j = k
  ·subst e; exact h
  ·exact hall j (by omega)
 simp only [PD,hx.1,hg,Option.bind_some,Aoe]
 rw [Pl (by omega)]
 refine .cond (fun h=>?_) fun h=>.cnt ⟨⟨k + 1,rfl,hlt,stp fun h'=>by rw [h'] at h; cases h⟩,by simp only; omega⟩
 have hkf : PK r.Keep k = false:=by simpa using h
 refine .cond (fun h=>.lft (.pure ⟨.inr rfl,fun h=>by omega,fun h'=>?_⟩)) fun h=>.cnt ⟨⟨k + 1,rfl,hlt,stp fun _=>Classical.byContradiction fun hn=>by rw [decide_eq_false hn] at h; cases h⟩,by simp only; omega⟩
 have:=h'.2.2 k hlt hkf
 simp [this] at h
end Go.Proofs.YtnldnldmgceooaaGreatDoor
namespace Go.Proofs.YtnldnldmgceooaaGreatDoor
open Go Go.Dw Go.Proofs
theorem AmJ : ∀ {l : List Int} {a n : Int},l.Pairwise (· < ·) → (∀ x ∈ l,a ≤ x ∧ x < n) → (l.length : Int) ≤ max 0 (n - a)
 | [],a,n,_,_=>by simp; omega
 | x :: l,a,n,hp,hr=>by
  have h:=List.pairwise_cons.1 hp
  have hx:=hr x (by simp)
  have:=AmJ (l:=l) (a:=x + 1) (n:=n) h.2 fun y hy=>⟨by have:=h.1 y hy; omega,(hr y (by simp [hy])).2⟩
  simp only [List.length_cons]
  omega
theorem Aos {f : OX} (hsl : f.Slots.length ≤ 500) {r : Pw} (htl : r.To.length = f.Slots.length) {u : Int} {x : Pm} {out : List Pm} {i : Nat} (hi : i ≤ 1000) {l : List Int} (hll : l.length ≤ 1000) (ho : out.length = i) (hl : ∀ t ∈ l,0 ≤ t ∧ t < f.Slots.length) {I : List Pm × Int → Prop} {μ : List Pm × Int → Nat} {s0 : List Pm × Int} {Q : OX × Int → Prop}
  (hI : ∀ y : Pm,Rnd I μ s0 Q (.inl (out ++ [y],((i + 1 : Nat) : Int)))) : Hs (Pq (fun s=>WH l f out x (i : Int) s.1 s.2) (x.Align,0)) (Rnd I μ s0 Q):=by
 refine Hs.loop (fun s=>∃ k : Nat,s.2 = (k : Int) ∧ k ≤ l.length) (fun s=>l.length - s.2.toNat) ⟨0,rfl,Nat.zero_le _⟩ ?_
 rintro ⟨a,_⟩ ⟨k,rfl,hk⟩
 unfold WH
 refine .dec (fun hlt=>?_) fun _=>.lft (.chk (by simp; omega) (.chk (by simp; omega) ?_))
 ·have hlt : k < l.length:=by simp only at hlt; omega
  refine .chk (by omega) ((Hs.get (by omega) (by omega) fun t ht=>List.mem_of_getElem? ht).bind fun t ht=>?_)
  have:=hl t ht
  refine (Hs.ix (P:=fun _=>True) this.1 this.2 fun _ _=>trivial).bind fun y _=>?_
  rw [Pl (by omega)]
  exact .cnt ⟨⟨k + 1,rfl,hlt⟩,by simp only; omega⟩
 ·unfold Zw
  rw [Pl (by omega)]
  exact .cnt (hI _)
theorem Ald {f : OX} (hf : Py f) (hd : XO f) {r : Pw} (hr : AdN f r) : Hs (VT f r) fun q=>q.2 = 0 ∧ ∃ used to pl : List Int,PC f.Slots.length used ∧ (∀ k : Nat,k < f.Code.length → PK r.Keep k = true → ∀ v ∈ RC (rnI r.To (Pb f k)),v ∈ used) ∧ to.length = r.To.length ∧ (∀ (s : Nat) x,to[s]? = some x → 0 ≤ x ∧ (Pu r.To s ∈ used → used[x.toNat]? = some (Pu r.To s))) ∧
  pl.length = r.Keep.length ∧ (∀ j : Nat,j < r.Keep.length → pl[j]? = some (kept r.Keep j : Int)) ∧ q.1.Slots.length = used.length ∧ q.1.Params = f.Params ∧ q.1.Code = XM f r.Keep to pl f.Code.length:=by
 have hlen:=hf.len'
 have hsl:=hf.slots
 have hkl:=hr.2.1
 have htl:=hr.1.1
 unfold VT
 refine (Amz hf r).bind fun e he=>.bne (fun h=>(h (he.2.2 hr)).elim) fun _=>?_
 refine (Apz hf hd hr).bind fun used ⟨hu1,hu2⟩=>?_
 have hul:=hu1.1.length_le
 refine Hs.loop (fun s=>∃ i : Nat,s.2 = (i : Int) ∧ i ≤ used.length ∧ s.1.length = i) (fun s=>used.length - s.2.toNat) ⟨0,rfl,Nat.zero_le _,rfl⟩ ?_
 rintro ⟨out,_⟩ ⟨i,rfl,hi,ho⟩
 replace ho : out.length = i:=ho
 unfold Zv
 refine .dec (fun hlt=>?_) fun hge=>.lft ?_
 ·have hlt : i < used.length:=by simp only at hlt; omega
  have hgx : used[i]? = some used[i]:=List.getElem?_eq_getElem _
  have hxm:=List.getElem_mem hlt
  generalize used[i] = u at hgx hxm
  have h0:=(hu1.1.2 u hxm).1
  have h1:=hu1.2 u hxm
  refine .chk (by omega) ?_
  simp only [Int.toNat_natCast,hgx,Option.bind_some]
  refine (Hs.ix (P:=fun _=>True) h0 h1 fun _ _=>trivial).bind fun x _=>.chk (by omega) ?_
  refine (Ajg (by omega) u).bind fun l hm=>?_
  refine Aos (u:=u) hsl htl (by omega) (l:=l) (by omega) ho (fun t ht=>?_) fun y=>⟨⟨i + 1,rfl,hlt,by simp [ho]⟩,by simp only; omega⟩
  obtain ⟨j,q1,rfl,_⟩:=(hm.2 t).1 ht
  omega
 have hii : i = used.length:=by simp only at hge; omega
 subst hii
 refine (Anm (by omega) hul).bind fun to ⟨n1,n2⟩=>(AnV r (by omega)).bind fun pl ⟨p1,p2⟩=>?_
 refine (Aop hf hkl to pl p1 out).mono fun q hq=>?_
 subst hq
 exact ⟨rfl,used,to,pl,hu1,hu2,n1,n2,p1,p2,ho,rfl,rfl⟩
end Go.Proofs.YtnldnldmgceooaaGreatDoor
namespace Go.Proofs.YtnldnldmgceooaaGreatDoor
open Go Go.Dw Go.Proofs
theorem AlC (to : List Int) (x : OZ) (v : Int) : v ∈ RC (rnI to x) ↔ ∃ s ∈ RC x,v = rnS to s:=by
 have hop:=Agr to x
 unfold RC PW
 rw [hop]
 unfold rnI
 by_cases h15 : x.Op = 15
 ·simp [h15]
 ·by_cases h16 : x.Op = 16
  ·simp [h16]
  ·by_cases h17 : x.Op = 17
   ·simp [h17]
   ·simp [h15,h16,h17]
theorem AoI (pl : List Int) (x : OZ) : RC (mvI pl x) = RC x:=by
 unfold mvI
 by_cases h20 : x.Op = 20
 ·simp [h20,RC,PW]
 ·by_cases h21 : x.Op = 21
  ·simp [h21,RC,PW]
  ·simp [h20,h21]
theorem AnO {f : OX} (hf : Py f) (hd : XO f) {x : OZ} (hx : x ∈ f.Code) {s : Int} (hs : s ∈ RC x) : 0 ≤ s ∧ s < f.Slots.length:=by
 rcases List.mem_append.1 hs with h | h
 ·exact hf.uses x hx s h
 ·by_cases hop : x.Op = 16 ∨ x.Op = 17
  ·rw [if_pos hop] at h
   rw [List.mem_singleton.1 h]
   exact hd x hx hop
  ·rw [if_neg hop] at h; cases h
theorem Amj {f : OX} (hf : Py f) (hd : XO f) {r : Pw} (hr : AdN f r) {used to pl : List Int} (hu : ∀ k : Nat,k < f.Code.length → PK r.Keep k = true → ∀ v ∈ RC (rnI r.To (Pb f k)),v ∈ used) (htl : to.length = r.To.length)
  (hto : ∀ (s : Nat) x,to[s]? = some x → 0 ≤ x ∧ (Pu r.To s ∈ used → used[x.toNat]? = some (Pu r.To s))) {p : Nat} {x : OZ} (hx : (XM f r.Keep to pl f.Code.length)[p]? = some x) : ∀ v ∈ RC x,0 ≤ v ∧ v < used.length:=by
 have hkl:=hr.2.1
 have hrl:=hr.1.1
 obtain ⟨j,hj,hk,rfl,rfl⟩:=(AbK (f:=f) (keep:=r.Keep) (to:=to) (pl:=pl) f.Code.length (by omega)).2 p x hx
 have hxm:=(hf.at (j:=(j : Int)) (by omega) (by omega)).2
 intro v hv
 rw [AoI,AlC] at hv
 obtain ⟨s,hs,rfl⟩:=hv
 obtain ⟨h0,h1⟩:=AnO hf hd hxm hs
 have hm:=hu j hj hk (rnS r.To s) ((AlC _ _ _).2 ⟨s,hs,rfl⟩)
 rw [(hr.1.rng h0 h1).2.2] at hm
 have hg:=TX (to:=to) (s:=s) h0 (by omega)
 have e : rnS to s = Pu to s:=by unfold rnS; rw [if_pos (by omega)]
 rw [e]
 obtain ⟨q1,q2⟩:=hto s.toNat _ hg
 rw [Int.toNat_of_nonneg h0] at q2
 have:=(List.getElem?_eq_some_iff.1 (q2 hm)).1
 omega
end Go.Proofs.YtnldnldmgceooaaGreatDoor
namespace Go.Proofs.YtnldnldmgceooaaGreatDoor
open Go Go.Dw Go.Proofs
theorem QW.ApP {ps : List Int} {i most : Int} {f : OX} (h : QW ps i most f) : AaO f:=by
 have hl:=h.len
 have hg : f.Code[f.Code.length - 1]? = some (Pb f (f.Code.length - 1 : Nat)):=by simp [Pb,show f.Code.length - 1 < f.Code.length by omega]
 have he:=h.last _ hg
 unfold AaO
 rcases he with e | ⟨w,_,e⟩ <;> rw [e] <;> simp
theorem AmY {f : OX} (hf : Py f) (hd : XO f) (hlast : AaO f) {r : Pw} (hr : AdN f r) : Hs (VT f r) fun q=>q.2 = 0 ∧ Py q.1 ∧ XO q.1:=by
 have hkl:=hr.2.1
 have hsl:=hf.slots
 have hlen:=hf.len'
 have hl1:=hf.len
 refine (Ald hf hd hr).mono fun q ⟨h0,used,to,pl,u1,u2,n1,n2,p1,p2,sl,_,cd⟩=>⟨h0,?_⟩
 have hcl : q.1.Code.length = kept r.Keep f.Code.length:=by rw [cd]; exact (AbK (f:=f) (keep:=r.Keep) (to:=to) (pl:=pl) _ (by omega)).1
 have hk0:=AiZ hf hlast hr (t:=0) (by omega)
 have hkl2:=AiY r.Keep f.Code.length
 have hul:=AmJ (l:=used) (a:=0) (n:=f.Slots.length) u1.1.1 fun x hx=>⟨(u1.1.2 x hx).1,u1.2 x hx⟩
 have nm : ∀ x ∈ q.1.Code,∀ v ∈ RC x,0 ≤ v ∧ v < q.1.Slots.length:=by
  intro x hx v hv
  obtain ⟨p,hp⟩:=List.getElem?_of_mem hx
  rw [cd] at hp
  have:=Amj hf hd hr u2 n1 n2 hp v hv
  omega
 refine ⟨⟨by omega,by omega,by omega,fun k x hx j hj=>?_,fun x hx v hv=>nm x hx v (List.mem_append_left _ hv)⟩,fun x hx hop=>nm x hx x.A (by unfold RC; rw [if_pos hop]; simp)⟩
 rw [cd] at hx
 have:=AmZ hf hlast hr p2 hx j hj
 omega
end Go.Proofs.YtnldnldmgceooaaGreatDoor
namespace Go.Proofs.YtnldnldmgceooaaGreatDoor
open Go Go.Dw Go.Proofs
theorem AfX {c : Mk} (h : okC c) : Hs (Rs c) fun p=>okC p.2 ∧ I64 p.1:=by
 unfold Rs
 refine (Pt h (by omega) (by omega)).bind fun r hr=>.beq (fun _=>?_) fun _=>?_
 ·refine (Pt hr.1 (by simp) (by simp)).bind fun q hq=>.chk ?_ ?_
  ·simp at hq; simp; omega
  ·refine (Hs.get hq.2.1 (by simpa using hq.2.2) fun x hx=>List.mem_of_getElem? hx).bind fun x hx=>.pure ⟨hq.1,?_⟩
   simp at hx
   unfold I64
   simp only
   omega
 ·exact (Pt hr.1 (by omega) (by omega)).bind fun q hq=>(Pt hq.1 (by omega) (by omega)).bind fun u hu=>.chk hu.2.1 (.pure ⟨hu.1,Aph _⟩)
theorem Apk {c : Mk} (h : okC c) {f : OX} (hf : Py f) : Hs (Vi c f) fun p=>okC p.2 ∧ p.1.Out.length ≤ f.Code.length ∧ AcL p.1.Out:=by
 have hlen:=hf.len
 have hlen':=hf.len'
 have hsl:=hf.slots
 unfold Vi
 refine (Afb hf).bind fun l hl=>(Pt h (by omega) (by omega)).bind fun r hr=>.beq (fun _=>?_) fun _=>?_
 ·exact .pure ⟨hr.1,by have:=hl.ok.1; simp only; omega,Yh.rows fun s hs=>(hl.ok.2 s hs).1⟩
 ·refine .chk (by have:=hl.ok.1; simp; omega) ((Pt hr.1 (by omega) (by omega)).bind fun q hq=>?_)
  have j1 : ∀ {l : List Int} {a : Int} {x : List (List Int)},okC ⟨l,a⟩ → x.length = f.Code.length → Yh x → Hs (RT l a x) fun p=>okC p.2 ∧ p.1.Out.length ≤ f.Code.length ∧ AcL p.1.Out:=by
   intro l a x hc hx hs
   unfold RT
   refine (Pt hc (by omega) (by omega)).bind fun r hr=>.beq (fun _=>?_) fun _=>.beq (fun _=>?_) fun _=>?_
   ·refine .chk (by omega) (.pure ⟨hr.1,by simp; omega,fun s hm=>hs.rows s (List.mem_of_mem_drop hm)⟩)
   ·refine (AfX hr.1).bind fun u hu=>(AfX hu.1).bind fun v hv=>.chk (by omega) ((Hs.get (by omega) (by omega) fun x hx=>hx).bind fun _ _=>.pure ⟨hv.1,by simp; omega,fun s hm=>?_⟩)
    rcases List.mem_or_eq_of_mem_set hm with h1 | rfl
    ·exact hs.rows s h1
    ·refine ⟨by simp,fun w hw=>?_⟩
     simp at hw
     rcases hw with rfl | rfl
     ·exact hu.2
     ·exact hv.2
   ·exact .pure ⟨hr.1,by simp only; omega,hs.rows⟩
  refine Hs.loop (fun s=>okC ⟨s.1,s.2.1⟩ ∧ s.2.2.1.length = f.Code.length ∧ Yh s.2.2.1 ∧ 0 ≤ s.2.2.2 ∧ s.2.2.2 < 4) (fun s=>s.2.2.2.toNat) ⟨hq.1,by simpa using hl.ok.1,fun s hs=>(hl.ok.2 s (by simpa using hs)).1,hq.2⟩ ?_
  rintro ⟨l,a,x,n⟩ ⟨hc,hx,hs,hn0,hn1⟩
  simp only at hc hx hs hn0 hn1
  have w : IntKind.i64.wrap (n - 1) = n - 1:=wrap64 (by omega) (by omega)
  unfold Vj
  refine .dec (fun hlt=>.dec (fun hsl0=>?_) fun _=>.lft (j1 hc hx hs)) fun _=>.lft (j1 hc hx hs)
  have hlt : 0 < n:=hlt
  unfold Vl
  have j4 : ∀ {l : List Int} {a : Int} {y : List (List Int)},okC ⟨l,a⟩ → y.length = f.Code.length → Yh y → Hs (Re n l a y) (Rnd (fun s : List Int × Int × List (List Int) × Int=>okC ⟨s.1,s.2.1⟩ ∧ s.2.2.1.length = f.Code.length ∧ Yh s.2.2.1 ∧ 0 ≤ s.2.2.2 ∧ s.2.2.2 < 4) (fun s=>s.2.2.2.toNat) (‹List Int›,‹Int›,x,n) (fun p : Ph × Mk=>okC p.2 ∧ p.1.Out.length ≤ f.Code.length ∧ AcL p.1.Out)):=by
   intro l a y hc hy hs
   unfold Re
   exact .cnt ⟨⟨hc,hy,hs,by simp only [w]; omega,by simp only [w]; omega⟩,by simp only [w]; omega⟩
  refine (Pt hc (by omega) (by omega)).bind fun u hu=>(Pt hu.1 (by omega) (by omega)).bind fun v hv=>.beq (fun _=>?_) fun _=>?_
  ·refine Hs.loop (fun s=>s.1.length = f.Code.length ∧ Yh s.1 ∧ 0 ≤ s.2 ∧ s.2 ≤ f.Code.length) (fun s=>f.Code.length - s.2.toNat) ⟨hx,hs,by simp,by simp⟩ ?_
   rintro ⟨y,k⟩ ⟨hy,hys,hk0,hk1⟩
   simp only at hy hys hk0 hk1
   unfold Vk
   refine .dec (fun hk=>?_) fun _=>.lft (j4 hv.1 hy hys)
   have hk : k < y.length:=hk
   have wk : IntKind.i64.wrap (k + 1) = k + 1:=wrap64 (by omega) (by omega)
   refine .chk ⟨hk0,hk⟩ ((Hs.get hk0 hk fun z hz=>hys z (List.mem_of_getElem? hz)).bind fun z hz=>?_)
   rw [add_eq z u.1 (by have:=hz.length_le; omega),Option.bind_some]
   refine .chk ⟨hk0,hk⟩ ((Hs.get hk0 hk fun z hz=>hz).bind fun _ _=>.cnt ⟨⟨by simpa using hy,hys.set (hz.add _),by simp only [wk]; omega,by simp only [wk]; omega⟩,by simp only [wk]; omega⟩)
  ·refine (Pt hv.1 (n:=(x.length : Int)) (by omega) (by omega)).bind fun k hk=>(Pt hk.1 (by omega) (by omega)).bind fun t ht=>.beq (fun _=>?_) fun _=>?_
   ·refine .chk hk.2 ((Hs.get hk.2.1 hk.2.2 fun z hz=>hs z (List.mem_of_getElem? hz)).bind fun z hz=>?_)
    rw [add_eq z u.1 (by have:=hz.length_le; omega),Option.bind_some]
    exact .chk hk.2 ((Hs.get hk.2.1 hk.2.2 fun z hz=>hz).bind fun _ _=>j4 ht.1 (by simpa using hx) (hs.set (hz.add _)))
   ·refine .chk hk.2 ((Hs.get hk.2.1 hk.2.2 fun z hz=>hs z (List.mem_of_getElem? hz)).bind fun z hz=>?_)
    rw [Aka z u.1 (by have:=hz.length_le; omega),Option.bind_some]
    exact .chk hk.2 ((Hs.get hk.2.1 hk.2.2 fun z hz=>hz).bind fun _ _=>j4 ht.1 (by simpa using hx) (hs.set (hz.filter _)))
end Go.Proofs.YtnldnldmgceooaaGreatDoor
namespace Go.Proofs.YtnldnldmgceooaaGreatDoor
open Go Go.Dw Go.Proofs
def YL (n : Nat) (f : OX) : Prop:=∀ x ∈ f.Code,x.Op = 22 → 0 ≤ x.A ∧ x.A < n
theorem QW.calls {ps : List Int} {i most : Int} {f : OX} (h : QW ps i most f) (hi : 0 ≤ i) : YL ps.length f:=by
 intro x hx hop
 obtain ⟨k,hk⟩:=List.getElem?_of_mem hx
 have hkl:=(List.getElem?_eq_some_iff.1 hk).1
 by_cases hk1 : k + 1 < f.Code.length
 ·have hins:=h.body k x hk hk1
  cases hins with
  | call j h0 h1=>exact ⟨by simp only; omega,h1⟩
  | bin op a b c h1 h2 h3 h4 h5 h6=>simp only at hop; omega
  | un op a h1 h2=>simp only at hop; omega
  | _=>simp at hop
 ·have he:=h.last x (by rw [show f.Code.length - 1 = k by omega]; exact hk)
  rcases he with rfl | ⟨w,_,rfl⟩ <;> simp at hop
theorem Ann {n : Nat} {f : OX} (h : YL n f) {keep : List Bool} {to pl : List Int} (hk : f.Code.length ≤ keep.length) : ∀ x ∈ XM f keep to pl f.Code.length,x.Op = 22 → 0 ≤ x.A ∧ x.A < n:=by
 intro x hx hop
 obtain ⟨p,hp⟩:=List.getElem?_of_mem hx
 obtain ⟨j,h1,_,_,rfl⟩:=(AbK (f:=f) (keep:=keep) (to:=to) (pl:=pl) _ hk).2 p x hp
 have hm : Pb f (j : Nat) ∈ f.Code:=by
  have : Pb f ((j : Nat) : Int) = f.Code[j]:=by simp [Pb,h1]
  rw [this]; exact List.getElem_mem _
 have ho : (mvI pl (rnI to (Pb f (j : Nat)))).Op = (Pb f (j : Nat)).Op:=by
  refine Eq.trans ?_ (Agr to _)
  unfold mvI
  split
  ·rfl
  ·split <;> rfl
 rw [ho] at hop
 have e : mvI pl (rnI to (Pb f (j : Nat))) = Pb f (j : Nat):=by simp [mvI,rnI,hop]
 rw [e]
 exact h _ hm hop
theorem Ami {f : OX} (hf : Py f) (hd : XO f) (hlast : AaO f) {n : Nat} (hc : YL n f) {r : Pw} (hr : AdN f r) : Hs (VT f r) fun q=>q.2 = 0 ∧ Py q.1 ∧ XO q.1 ∧ YL n q.1:=by
 obtain ⟨q,e,h1,h2,h3⟩:=AmY hf hd hlast hr
 obtain ⟨q',e',_,used,to,pl,_,_,_,_,_,_,_,_,cd⟩:=Ald hf hd hr
 rw [e] at e'; cases e'
 refine ⟨q,e,h1,h2,h3,?_⟩
 unfold YL
 rw [cd]
 exact Ann hc (by rw [hr.2.1]; exact Nat.le_refl _)
theorem Anc {f : OX} (hf : Py f) (hd : XO f) (hml : Aeg f) {l : Ph} (hacc : Acc f l.Out) : Hs (ZV f l) fun g=>Hs (Vd f g.1) fun to=>Hs (Zs f l to) fun keep=>AdN f ⟨to,keep⟩:=by
 have hlen:=hf.len'
 have hsl:=hf.slots
 refine Hs.mono (P:=AaN AcJ f l.Out) ?_ fun g hg=>?_
 ·unfold ZV
  exact (Agq hf hd (hacc.1.len hf) false).bind fun r hr=>.pure hr
 rcases hg with ⟨_,_,hg⟩ | ⟨_,hn,_⟩
 rotate_left
 ·exact (hn hacc).elim
 refine (Anb hlen hsl hml hg (fun x y r s hr hs hy=>((hg.2 y s hs).2 _).2 (((hg.2 x r hr).2 _).1 hy).symm) fun x r hr hx=>?_).mono fun to hto=>?_
 ·rcases ((hg.2 x r hr).2 _).1 hx with ⟨_,_,_,_,_,_,h',_⟩ | ⟨_,_,_,_,_,_,h',_⟩ <;> exact h' rfl
 refine (Api hf hacc.1 hml hto.ok.1).mono fun keep ⟨hkl,hkp⟩=>⟨hto.ok,hkl,fun k hk h=>?_⟩
 by_cases h1 : AcB f l.Out k
 ·exact h1.1
 ·by_cases h2 : (Pb f k).Op = 17 ∧ Pu to (Pb f k).A = Pu to (Pb f k).B
  ·exact .inr h2.1
  ·have:=(hkp k hk).2 ⟨h1,h2⟩
   rw [h] at this; cases this
theorem Anr {p : Pj} {i : Int} {f : OX} (hi : ixO p.Funcs i = some f) (hf : Py f) (hd : XO f) (hml : Aeg f) (hlast : AaO f) (hc : YL p.Funcs.length f) (hp : p.Funcs.length ≤ 1000) : Hs (XB p i) fun q=>AdN f q.Rename ∧ Acc f q.Live.Out:=by
 obtain ⟨i0,i1,_⟩:=Alq hi
 unfold XB
 rw [hi,Option.bind_some]
 refine (Afb hf).bind fun l hl=>?_
 have hacc:=hl.acc hf
 refine (Anc hf hd hml hacc).bind fun g hg=>hg.bind fun to hto=>hto.bind fun keep hr=>?_
 refine (Ami hf hd hlast hc hr).bind fun q ⟨_,qf,qd,qc⟩=>?_
 refine (Afb qf).bind fun l2 hl2=>?_
 have hacc2:=hl2.acc qf
 refine Hs.bind (P:=AaN AbJ q.1 l2.Out) ?_ fun s hs=>?_
 ·unfold WE
  exact (Agq qf qd (hacc2.1.len qf) true).bind fun r hr=>.pure hr
 have hrows : ∀ row ∈ s.1,row.length ≤ 512:=by
  rcases hs with ⟨_,_,hs⟩ | ⟨_,hn,_⟩
  ·intro row hrow
   obtain ⟨k,hk⟩:=List.getElem?_of_mem hrow
   exact (hs.2 k row hk).1.1.length_le
  ·exact (hn hacc2).elim
 refine (AmI hi hf.len' hc).bind fun a _=>(AnC _ qf.slots hrows a).bind fun o _=>.bne (fun _=>.pure ⟨hr,hacc⟩) fun _=>?_
 have hset : ixO (p.Funcs.set i.toNat q.1) i = some q.1:=by
  rw [QX _ i0]; exact List.getElem?_set_self (by omega)
 refine Hs.bind (P:=fun r=>r = ⟨p.Funcs.set i.toNat q.1⟩) ?_ fun r hr'=>?_
 ·unfold AcH Aap
  refine Hs.bind (P:=fun r=>r = ⟨p.Funcs.set i.toNat q.1⟩) (.chk (by simp; omega) (.chk (by simp; omega) ((Hs.get (P:=fun _=>True) i0 (by simp; omega) fun _ _=>trivial).bind fun _ _=>.pure (by simp)))) fun r h=>.pure h
 subst hr'
 exact (AnT p hp).bind fun al _=>(AnI hset qf.len' qf.slots (by simpa [YL] using qc) al _).bind fun y _=>.pure ⟨hr,hacc⟩
end Go.Proofs.YtnldnldmgceooaaGreatDoor
namespace Go.Proofs.YtnldnldmgceooaaGreatDoor
open Go Go.Dw Go.Proofs
theorem US.max {a b : Int} (ha : US a) (hb : US b) : US (RH a b):=by unfold RH; split <;> assumption
theorem Aoh {s : List Pm} (h : AaC s) : Hs (VO s) fun a=>US a ∧ 16 ≤ a ∧ a ≤ 64:=by
 have a16 : US 16:=Uz 4 (by omega)
 have hl:=h.1
 unfold VO
 refine (Ags s).bind fun e he=>.bne (fun _=>.pure ⟨a16,by omega,by omega⟩) fun _=>?_
 refine Hs.loop (fun q=>∃ k : Nat,q.2 = (k : Int) ∧ k ≤ s.length ∧ US q.1 ∧ 16 ≤ q.1 ∧ q.1 ≤ 64) (fun q=>s.length - q.2.toNat) ⟨0,rfl,Nat.zero_le _,a16,by simp only; omega,by simp only; omega⟩ ?_
 rintro ⟨a,_⟩ ⟨k,rfl,hk,h1,h2,h3⟩
 replace h2 : 16 ≤ a:=h2
 replace h3 : a ≤ 64:=h3
 unfold Ws
 dsimp only
 refine .dec (fun hlt=>?_) fun _=>.lft (.pure ⟨h1,h2,h3⟩)
 have hlt : k < s.length:=by omega
 rw [Pl (by omega)]
 refine (Hs.ix (by omega) (by omega) fun x hx=>h.2 x (List.mem_of_getElem? hx)).bind fun x hx=>.cnt ⟨⟨k + 1,rfl,hlt,h1.max hx.1,?_,?_⟩,by simp only; omega⟩
 ·have:=hx.2.1; simp only; unfold RH; split <;> omega
 ·have:=hx.2.1; simp only; unfold RH; split <;> omega
theorem AnS {p : Pj} (hp : p.Funcs.length ≤ 1000) (h : ∀ f ∈ p.Funcs,AaC f.Slots) : Hs (Up p) fun a=>US a ∧ 16 ≤ a ∧ a ≤ 64:=by
 have a16 : US 16:=Uz 4 (by omega)
 unfold Up
 refine Hs.loop (fun q=>∃ k : Nat,q.2 = (k : Int) ∧ k ≤ p.Funcs.length ∧ US q.1 ∧ 16 ≤ q.1 ∧ q.1 ≤ 64) (fun q=>p.Funcs.length - q.2.toNat) ⟨0,rfl,Nat.zero_le _,a16,by simp only; omega,by simp only; omega⟩ ?_
 rintro ⟨a,_⟩ ⟨k,rfl,hk,h1,h2,h3⟩
 replace h2 : 16 ≤ a:=h2
 replace h3 : a ≤ 64:=h3
 unfold Wx
 dsimp only
 refine .dec (fun hlt=>?_) fun _=>.lft (.pure ⟨h1,h2,h3⟩)
 have hlt : k < p.Funcs.length:=by omega
 rw [Pl (by omega)]
 refine (Hs.ix (by omega) (by omega) fun x hx=>h x (List.mem_of_getElem? hx)).bind fun x hx=>(Aoh hx).bind fun b hb=>.cnt ⟨⟨k + 1,rfl,hlt,h1.max hb.1,?_,?_⟩,by simp only; omega⟩
 ·simp only; unfold RH; split <;> omega
 ·simp only; unfold RH; split <;> omega
theorem QW.args {ps : List Int} {i most : Int} {f : OX} (h : QW ps i most f) (hi : 0 ≤ i) {p : Pj} (hl : p.Funcs.length = ps.length) (hps : AhY ps) (hall : ∀ (j : Nat) g,p.Funcs[j]? = some g → QW ps j most g) : AeL p f:=by
 intro x hx
 obtain ⟨k,hk⟩:=List.getElem?_of_mem hx
 have hkl:=(List.getElem?_eq_some_iff.1 hk).1
 by_cases hk1 : k + 1 < f.Code.length
 ·have hins:=h.body k x hk hk1
  cases hins with
  | call j h0 h1 =>
   refine ⟨fun e=>by simp at e,fun _=>⟨by simp only; omega,?_⟩⟩
   have hg : p.Funcs[j.toNat]? = some (p.Funcs[j.toNat]'(by omega)):=List.getElem?_eq_getElem _
   have:=(hall _ _ hg).par
   exact ⟨_,hg,hps.1 _ (List.mem_of_getElem? this)⟩
  | arg a b h0 h1 h2=>exact ⟨fun _=>⟨h0,h1⟩,fun e=>by simp at e⟩
  | bin op a b c h1 h2 h3 h4 h5 h6=>exact ⟨fun e=>by simp only at e; omega,fun e=>by simp only at e; omega⟩
  | un op a h1 h2=>exact ⟨fun e=>by simp only at e; omega,fun e=>by simp only at e; omega⟩
  | _=>exact ⟨fun e=>by simp at e,fun e=>by simp at e⟩
 ·have he:=h.last x (by rw [show f.Code.length - 1 = k by omega]; exact hk)
  rcases he with rfl | ⟨w,_,rfl⟩ <;> exact ⟨fun e=>by simp at e,fun e=>by simp at e⟩
theorem Anf {c : Mk} (h : okC c) {p : Pj} {i : Int} {f : OX} {al : Int} (hL : AcC p i f al) (hlast : AaO f) (hc : YL p.Funcs.length f) (hp : p.Funcs.length ≤ 1000) : Hs (TY c p i al) fun q=>okC q.2:=by
 have hr:=Yi hL.arg (k:=f.Code.length) (Nat.le_refl _)
 have hbl : (YO p f al).Off.length ≤ 6:=by
  have:=(Agx hL.slots (a:=16 * RD p f f.Code.length) (by omega) (k:=f.Slots.length) (Nat.le_refl _)).1
  have:=hL.slots.1
  simp only [YO]; omega
 have j1 : ∀ {l : List Int} {a : Int} (y z : Int) {x : List Int},okC ⟨l,a⟩ → x.length ≤ 6 → Hs (QH l a y z x) fun q=>okC q.2:=by
  intro l a y z x hc hx
  unfold QH
  refine .chk (by simp; omega) ((Pt hc (by omega) (by omega)).bind fun r hr=>?_)
  refine Hs.loop (fun s=>okC ⟨s.1,s.2.1⟩ ∧ (s.2.2.1.length : Int) + s.2.2.2.2.2 ≤ 20 ∧ 0 ≤ s.2.2.2.2.2) (fun s=>s.2.2.2.2.2.toNat) ⟨hr.1,by simp only [List.nil_append]; omega,hr.2.1⟩ ?_
  rintro ⟨l,a,x,y,z,n⟩ ⟨hc,hx,hn0⟩
  replace hx : (x.length : Int) + n ≤ 20:=hx
  replace hn0 : 0 ≤ n:=hn0
  have w : IntKind.i64.wrap (n - 1) = n - 1:=wrap64 (by omega) (by omega)
  unfold Ui
  dsimp only
  refine .dec (fun hp=>?_) fun _=>.lft (.pure hc)
  have hp : 0 < n:=hp
  have fin : ∀ {l' : List Int} {a' : Int} (x' : List Int) (y' z' : Int),okC ⟨l',a'⟩ → x'.length ≤ x.length + 1 → Hs (cnt (l',a',x',y',z',IntKind.i64.wrap (n - 1)) : Option ((List Int × Int × List Int × Int × Int × Int) ⊕ (Pg × Mk))) (Rnd (fun s=>okC ⟨s.1,s.2.1⟩ ∧ (s.2.2.1.length : Int) + s.2.2.2.2.2 ≤ 20 ∧ 0 ≤ s.2.2.2.2.2) (fun s=>s.2.2.2.2.2.toNat) (l,a,x,y,z,n) fun q=>okC q.2):=by
   intro l' a' x' y' z' hc' hx'
   rw [w]
   exact .cnt ⟨⟨hc',by simp only; omega,by simp only; omega⟩,by simp only; omega⟩
  have hm : 1 ≤ RH 1 (x.length : Int) ∧ RH 1 (x.length : Int) ≤ 30:=by unfold RH; split <;> omega
  refine (Pt hc hm.1 (by omega)).bind fun r hr=>(Pt hr.1 (by omega) (by omega)).bind fun u hu=>?_
  have kx : ∀ {b : Bool},(b = true → r.1 < (x.length : Int)) → (b = true → r.1.toNat < x.length):=fun hb e=>by have:=hb e; omega
  have j5 : ∀ {l' : List Int} {a' : Int} (b : Bool),okC ⟨l',a'⟩ → (b = true → r.1 < (x.length : Int)) → Hs (Ru r x y z n l' a' b) (Rnd (fun s=>okC ⟨s.1,s.2.1⟩ ∧ (s.2.2.1.length : Int) + s.2.2.2.2.2 ≤ 20 ∧ 0 ≤ s.2.2.2.2.2) (fun s=>s.2.2.2.2.2.toNat) (l,a,x,y,z,n) fun q=>okC q.2):=by
   intro l' a' b hc' hb
   unfold Ru
   refine .cond (fun e=>(AfX hc').bind fun v hv=>.chk (by have:=hb e; omega) ((Hs.get (P:=fun _=>True) (by omega) (by have:=hb e; omega) fun _ _=>trivial).bind fun _ _=>fin _ _ _ hv.1 (by simp))) fun _=>fin _ _ _ hc' (by omega)
  have j4 : ∀ b : Bool,Hs (Rt r x u y z n b) (Rnd (fun s=>okC ⟨s.1,s.2.1⟩ ∧ (s.2.2.1.length : Int) + s.2.2.2.2.2 ≤ 20 ∧ 0 ≤ s.2.2.2.2.2) (fun s=>s.2.2.2.2.2.toNat) (l,a,x,y,z,n) fun q=>okC q.2):=by
   intro b
   unfold Rt
   refine .cond (fun _=>.dec (fun hlt=>?_) fun _=>fin _ _ _ hu.1 (by omega)) fun _=>.beq (fun _=>(Pt hu.1 (by omega) (by omega)).bind fun v hv=>fin _ _ _ hv.1 (by omega)) fun _=>.beq (fun _=>.dec (fun hlt=>(Pt hu.1 (by omega) (by omega)).bind fun v hv=>j5 _ hv.1 fun _=>hlt) fun _=>j5 false hu.1 fun e=>by cases e) fun _=>.beq (fun _=>?_) fun _=>fin _ _ _ hu.1 (by omega)
   ·refine (Pt hu.1 (n:=(x.length : Int)) (by omega) (by omega)).bind fun v hv=>.chk (by omega) ((Hs.get (P:=fun _=>True) (by omega) (by omega) fun _ _=>trivial).bind fun q _=>.chk (by omega) ((Hs.get (P:=fun _=>True) (by omega) (by omega) fun _ _=>trivial).bind fun _ _=>fin _ _ _ hv.1 (by simp)))
   ·refine (Pt hu.1 (by omega) (by omega)).bind fun v hv=>.beq (fun _=>(AfX hv.1).bind fun w hw=>fin _ _ _ hw.1 (by omega)) fun _=>.beq (fun _=>(AfX hv.1).bind fun w hw=>fin _ _ _ hw.1 (by omega)) fun _=>.beq (fun _=>(Pt hv.1 (by omega) (by omega)).bind fun w hw=>.chk (by simp; omega) (fin _ _ _ hw.1 (by simp))) fun _=>fin _ _ _ hv.1 (by omega)
  have j3 : ∀ b : Bool,Hs (QI r x u y z n b) (Rnd (fun s=>okC ⟨s.1,s.2.1⟩ ∧ (s.2.2.1.length : Int) + s.2.2.2.2.2 ≤ 20 ∧ 0 ≤ s.2.2.2.2.2) (fun s=>s.2.2.2.2.2.toNat) (l,a,x,y,z,n) fun q=>okC q.2):=by
   intro b
   unfold QI
   refine .cond (fun _=>.dec (fun hlt=>(Pt hu.1 (by omega) (by omega)).bind fun v hv=>.chk (by omega) ((Hs.get (P:=fun _=>True) (by omega) (by omega) fun _ _=>trivial).bind fun _ _=>fin _ _ _ hv.1 (by simp))) fun _=>fin _ _ _ hu.1 (by omega)) fun _=>.cond (fun _=>j4 _) fun _=>j4 _
  exact .cond (fun _=>j3 _) fun _=>.cond (fun _=>j3 _) fun _=>j3 _
 unfold TY
 rw [AlG hL.hi hL.AbF.len' hL.arg hL.slots hL.alok hL.al64,Option.bind_some]
 refine (Pt h (by omega) (by omega)).bind fun r hr=>.cond (fun _=>?_) fun _=>j1 _ _ hr.1 hbl
 refine (Anr hL.hi hL.AbF hL.defs hL.ml hlast hc hp).bind fun q _=>.cond (fun e=>j1 _ _ hr.1 ?_) fun _=>j1 _ _ hr.1 hbl
 have : (q.Layout.Off.length : Int) = ((YO p f al).Off.length : Int):=by simpa using e
 omega
theorem Anw (codes : List Int) (hc : qL (QY .u8) codes) : Hs (ZP codes) fun q=>okC q.2.2.2.2.2 ∧ ∃ f ps i,AcC q.1 q.2.1 f q.2.2.1 ∧ QW ps i 14 f ∧ YM q.2.2.2.1.Out:=by
 unfold ZP
 obtain ⟨c,e1,hcok⟩:=ApS codes 300 hc (by omega) (by omega)
 rw [e1,Option.bind_some]
 refine (Anq hcok (by omega) (by omega) (by omega) (by omega)).bind fun p hp=>?_
 obtain ⟨ps,hps,hz,hp1,hp2,hfl,hall⟩:=hp.2
 refine (Pt hp.1 (by omega) (by omega)).bind fun k hk=>?_
 have hpl : p.1.Funcs.length ≤ 1000:=by omega
 refine (AnS hpl fun f hf=>?_).bind fun al hal=>?_
 ·obtain ⟨j,hj⟩:=List.getElem?_of_mem hf
  exact (hall j f hj).AmQ
 have hix : ixO p.1.Funcs k.1 = some (p.1.Funcs[k.1.toNat]'(by omega)):=by
  rw [QX _ hk.2.1]; exact List.getElem?_eq_getElem _
 generalize (p.1.Funcs[k.1.toNat]'(by omega)) = f at hix
 have hfo : QW ps (k.1.toNat : Nat) 14 f:=hall k.1.toNat f (by rw [← QX _ hk.2.1]; exact hix)
 have hf:=hfo.AbF (by omega)
 have hL : AcC p.1 k.1 f al:=⟨hix,hfo.args (by omega) hfl hps hall,hfo.AmQ,hal.1,hal.2.1,hal.2.2,hf,hfo.defs,hfo.ApQ⟩
 have hcalls : YL p.1.Funcs.length f:=by rw [hfl]; exact hfo.calls (by omega)
 have j1 : ∀ {l : List Int} {a : Int} {x : List (List Int)},okC ⟨l,a⟩ → YM x → Hs (Ut p k al x l a) fun q=>okC q.2.2.2.2.2 ∧ ∃ f ps i,AcC q.1 q.2.1 f q.2.2.1 ∧ QW ps i 14 f ∧ YM q.2.2.2.1.Out:=by
  intro l a x hc hx
  unfold Ut
  exact (Anf hc hL hfo.ApP hcalls hpl).bind fun r hr=>.pure ⟨hr,f,ps,_,hL,hfo,hx⟩
 rw [hix,Option.bind_some]
 refine (AlA hk.1 hf).bind fun l hl=>(Pt hl.1 (by omega) (by omega)).bind fun r hr=>.cond (fun _=>?_) fun _=>j1 hr.1 (hl.2.1.len hf)
 rw [Option.bind_some]
 exact (Apk hr.1 hf).bind fun l hl=>j1 hl.1 (AcL.len hf hl.2.1 hl.2.2)
abbrev AhZ : OX:=OX.mk 0 ([]) ([(OZ.mk 23 0 0 0 0)] : List OZ)
abbrev Aia : Pj:=Pj.mk ([(OX.mk 0 ([]) ([(OZ.mk 23 0 0 0 0)] : List OZ))] : List OX)
theorem ApF : AcC Aia 0 AhZ 16:=by
 refine ⟨by simp,fun x hx=>?_,⟨by simp,fun x hx=>by cases hx⟩,Uz 4 (by omega),by omega,by omega,⟨by simp,by simp,by simp,fun k x hx j hj=>?_,fun x hx v hv=>?_⟩,fun x hx ho=>?_,fun x hx ho=>?_⟩
 ·simp at hx; subst hx; exact ⟨fun e=>by simp at e,fun e=>by simp at e⟩
 ·match k,hx with
  | 0,hx=>simp at hx; subst hx; simp [Qf] at hj
  | n + 1,hx=>simp at hx
 ·simp at hx; subst hx; simp [PW] at hv
 ·simp at hx; subst hx; simp at ho
 ·simp at hx; subst hx; simp at ho
theorem AnF : YO Aia AhZ 16 = ⟨0,0,[]⟩:=by decide
theorem Apb : ZO = some true:=by
 have sh : ∀ y : Pg,Hs (Wq Aia 0 16 y) fun e=>(e = 0 ∨ e = 13) ∧ (e = 0 ↔ RK Aia AhZ 16 y):=fun y=>by
  unfold Wq
  rw [ApF.hi,Option.bind_some]
  exact (Aiq ApF y).bind fun e he=>.pure he
 have hb:=AnF
 have ha : 16 * RD Aia AhZ AhZ.Code.length = 0:=by decide
 obtain ⟨e1,h1,h2⟩:=sh ⟨0,0,[]⟩
 obtain ⟨e2,k1,k2⟩:=sh ⟨0,16,[]⟩
 have r1 : e1 = 0:=h2.2.2 ⟨by rw [ha],rfl,fun k hk=>absurd hk (Nat.not_lt_zero _),by decide,by decide,by rw [hb]; decide⟩
 have r2 : e2 = 13:=by
  rcases k2.1 with h | h
  ·have:=(k2.2.1 h).2.2.2.2.2
   rw [hb] at this
   exact absurd this (by decide)
  ·exact h
 subst r1 r2
 unfold ZO
 rw [h1,Option.bind_some,show ((0 : Int) == 0) = true from rfl,cond_true,k1,Option.bind_some]
 rfl
end Go.Proofs.YtnldnldmgceooaaGreatDoor
namespace Go.Proofs.YtnldnldmgceooaaGreatDoor
open Go Go.Dw Go.Proofs
theorem ApZ {mv : OZ → Int → Bool} {f : OX} {l : List (List Int)} {a v : Int} (e : Ed mv f l a v) : v ≠ a:=by
 obtain ⟨j,hj,h1,h2,h3,h4,h5,_⟩:=e
 exact h5
theorem Qy.graph {mv : OZ → Int → Bool} {f : OX} {l : List (List Int)} {g : List (List Int)} (h : Qy f.Slots.length g fun a v=>Ed mv f l a v ∨ Ed mv f l v a) : AaB g f.Slots.length:=by
 obtain ⟨h0,h⟩:=h
 refine ⟨by rw [h0],fun x s hx=>⟨(h x s hx).1.1,(h x s hx).1.2,fun hm=>?_⟩,fun x s hx y hy=>?_⟩
 ·rcases ((h x s hx).2 _).1 hm with e | e <;> exact ApZ e rfl
 ·have hr:=(h x s hx).1
  have y0:=(hr.1.2 y hy).1
  have y1:=hr.2 y hy
  have hgy : g[y.toNat]? = some (g[y.toNat]'(by omega)):=List.getElem?_eq_getElem _
  have : rowAt g y = g[y.toNat]'(by omega):=by simp [rowAt,hgy]
  rw [this,(h _ _ hgy).2]
  have e : ((y.toNat : Nat) : Int) = y:=Int.toNat_of_nonneg y0
  show Ed mv f l ((y.toNat : Nat) : Int) x ∨ Ed mv f l x ((y.toNat : Nat) : Int)
  rw [e]
  exact (((h x s hx).2 y).1 hy).symm
end Go.Proofs.YtnldnldmgceooaaGreatDoor
namespace Go.Proofs.YtnldnldmgceooaaGreatDoor
open Go Go.Dw Go.Proofs
theorem ApJ {s : List Pm} (hs : s.length ≤ 1000) {off : List Int} (hl : off.length = s.length) {B : Int} (hB : 0 ≤ B ∧ B ≤ 100000) (h : ∀ y : Nat,y < s.length → 0 ≤ oN off y + szN s y ∧ oN off y + szN s y ≤ B) : Hs (YE s off) fun e=>0 ≤ e ∧ e ≤ B ∧ ∀ y : Nat,y < s.length → oN off y + szN s y ≤ e:=by
 unfold YE
 refine Hs.loop (fun q=>∃ k : Nat,q.2 = (k : Int) ∧ k ≤ s.length ∧ 0 ≤ q.1 ∧ q.1 ≤ B ∧ ∀ y : Nat,y < k → oN off y + szN s y ≤ q.1) (fun q=>s.length - q.2.toNat) ⟨0,rfl,Nat.zero_le _,Int.le_refl _,hB.1,fun y hy=>absurd hy (Nat.not_lt_zero _)⟩ ?_
 rintro ⟨n,_⟩ ⟨k,rfl,hk,h0,h1,h2⟩
 replace h0 : 0 ≤ n:=h0
 replace h1 : n ≤ B:=h1
 replace h2 : ∀ y : Nat,y < k → oN off y + szN s y ≤ n:=h2
 unfold YF
 dsimp only
 refine .dec (fun hlt=>.dec (fun hlt2=>?_) fun hge=>?_) fun hge=>.lft (.pure ⟨h0,h1,fun y hy=>h2 y (by omega)⟩)
 rotate_left
 ·omega
 have hlt : k < s.length:=by omega
 unfold YG
 have ho : off[k]? = some (oN off k):=by unfold oN; rw [List.getElem?_eq_getElem (by omega)]; rfl
 have hsk : s[k]? = some s[k]:=List.getElem?_eq_getElem _
 obtain ⟨a1,a2⟩:=h k hlt
 rw [PD,ho,Option.bind_some,PD,hsk,Option.bind_some,← (ZB hsk).1,Pl (by omega),wrap64 (by omega) (by omega)]
 refine .cnt ⟨⟨k + 1,rfl,hlt,?_,?_,fun y hy=>?_⟩,by simp only; omega⟩
 ·simp only; unfold RH; split <;> omega
 ·simp only; unfold RH; split <;> omega
 ·have : y < k → oN off y + szN s y ≤ n:=h2 y
  by_cases e : y = k
  ·subst e; simp only; unfold RH; split <;> omega
  ·have:=this (by omega)
   simp only; unfold RH; split <;> omega
section
variable {p : Pj} {i : Int} {f : OX} {al : Int} (h : AcC p i f al)
include h
theorem AnK {off : List Int} (hl : off.length = f.Slots.length) (hp : ∀ y : Nat,y < f.Slots.length → Plc f.Slots (16 * RD p f f.Code.length) (16 * RD p f f.Code.length + 80 * f.Slots.length) off y) :
  Hs (TD p i al off) fun q=>q.2 = 0 ∧ q.1.Off = off ∧ (RK p f al q.1 ↔ q.1.Size ≤ (YO p f al).Size):=by
 have hr:=Yi h.arg (k:=f.Code.length) (Nat.le_refl _)
 have hsl:=h.slots.1
 have h16:=h.al16
 have h64:=h.al64
 have bnd : ∀ y : Nat,y < f.Slots.length → 1 ≤ szN f.Slots y ∧ szN f.Slots y ≤ 16:=fun y hy=>by
  have hsy : f.Slots[y]? = some f.Slots[y]:=List.getElem?_eq_getElem _
  obtain ⟨_,_,b3,b4⟩:=h.slots.2 _ (List.getElem_mem hy)
  rw [(ZB hsy).1]
  exact ⟨b3,b4⟩
 have rgt : ∀ y : Nat,y < f.Slots.length → Rc (ivN f.Slots off y):=fun y hy=>by
  obtain ⟨p1,p2,_⟩:=hp y hy
  have:=bnd y hy
  refine ⟨?_,?_,?_,?_,?_⟩ <;> simp only [ivN] <;> omega
 unfold TD
 rw [h.hi,Option.bind_some]
 refine .bne (fun hne=>(hne (by rw [hl])).elim) fun _=>?_
 refine Hs.loop (fun q=>∃ k : Nat,q = (k : Int) ∧ k ≤ f.Slots.length) (fun q=>f.Slots.length - q.toNat) ⟨0,rfl,Nat.zero_le _⟩ ?_
 rintro _ ⟨k,rfl,hk⟩
 unfold VG
 refine .dec (fun hlt=>?_) fun _=>.lft ?_
 ·have hlt : k < f.Slots.length:=by omega
  have ho : off[k]? = some (oN off k):=by unfold oN; rw [List.getElem?_eq_getElem (by omega)]; rfl
  have hsk : f.Slots[k]? = some f.Slots[k]:=List.getElem?_eq_getElem _
  rw [PD,ho,Option.bind_some,PD,hsk,Option.bind_some,← (ZB hsk).1,AaA,Option.bind_some,decide_eq_true (show Rc ⟨oN off k,szN f.Slots k⟩ from rgt k hlt)]
  simp only [Bool.not_true,cond_false]
  rw [Pl (by omega)]
  exact .cnt ⟨⟨k + 1,rfl,hlt⟩,by simp only; omega⟩
 ·rw [AhF h.hi h.AbF.len' h.arg,Option.bind_some]
  refine (ApJ (by omega) hl (B:=16 * RD p f f.Code.length + 80 * f.Slots.length) (by omega) fun y hy=>?_).bind fun e ⟨e0,e1,e2⟩=>?_
  ·obtain ⟨p1,p2,_⟩:=hp y hy
   have:=bnd y hy
   exact ⟨by omega,p2⟩
  have hm : 16 * RD p f f.Code.length ≤ RH (16 * RD p f f.Code.length) e ∧ e ≤ RH (16 * RD p f f.Code.length) e ∧ RH (16 * RD p f f.Code.length) e ≤ 1000:=by unfold RH; split <;> omega
  generalize RH (16 * RD p f f.Code.length) e = M at hm
  obtain ⟨u1,u2,u3⟩:=VI (n:=M) (a:=al) (by omega)
  rw [AiL (by omega) (by omega) h.alok,Option.bind_some]
  simp only [bne_self_eq_false,cond_false]
  rw [decide_eq_false (by omega),cond_false]
  refine .chk (by simp; omega) (.pure ⟨rfl,by simp,⟨fun hs=>hs.2.2.2.2.2,fun hle=>⟨rfl,by simpa using hl,fun k hk=>?_,?_,?_,hle⟩⟩⟩)
  ·have ho : off[k]? = some (oN off k):=by unfold oN; rw [List.getElem?_eq_getElem (by omega)]; rfl
   have hsk : f.Slots[k]? = some f.Slots[k]:=List.getElem?_eq_getElem _
   obtain ⟨p1,p2,p3⟩:=hp k hk
   refine ⟨oN off k,f.Slots[k],by simpa using ho,hsk,p1,by rw [← (ZB hsk).2]; exact p3,by rw [← (ZB hsk).1]; exact rgt k hk,?_⟩
   have:=e2 k hk
   rw [(ZB hsk).1] at this
   simp only
   omega
  ·show (upN M al).tmod al = 0
   rw [Int.tmod_eq_emod_of_nonneg (by omega)]; exact u3
  ·simp only; omega
end
theorem ZI (codes : List Int) (hc : qL (QY .u8) codes) : Hs (Qi codes) fun b=>b = true:=by
 unfold Qi
 rw [Apb]
 simp only [Option.bind_some,Bool.not_true,cond_false]
 refine (Anw codes hc).bind fun q ⟨hok,f,ps,i,hL,hfo,hlen⟩=>?_
 have hf:=hL.AbF
 have hr:=Yi hL.arg (k:=f.Code.length) (Nat.le_refl _)
 rw [hL.hi,Option.bind_some]
 refine (AlA hok hf).bind fun l hl=>?_
 have hll:=hl.2.1.len hf
 unfold WE
 refine (Hs.bind (P:=AaN AbJ f l.1.Out) (Agq hf hL.defs hll true) fun r hr=>.pure hr : Hs _ (AaN AbJ f l.1.Out)).bind fun g hg=>?_
 rcases hg with ⟨g0,_,hg⟩ | ⟨_,hn,_⟩
 rotate_left
 ·exact (hn hl.2).elim
 have hgr:=hg.graph
 rw [AhF hL.hi hf.len' hL.arg,Option.bind_some]
 refine (AnD hL.slots hfo.slot hgr (fun row hrow=>?_) ⟨by omega,by omega⟩).bind fun a ⟨a0,al,ap,ac⟩=>?_
 ·obtain ⟨k,hk⟩:=List.getElem?_of_mem hrow
  exact (hg.2 k row hk).1.1.length_le
 refine (AnK hL al ap).bind fun y ⟨y0,yo,ys⟩=>?_
 rw [g0,a0,y0]
 simp only [bne_self_eq_false,cond_false]
 have no : ∀ (k : Nat) (s : Int),k < f.Code.length → ¬ Ve f l.1.Out y.1 k s:=by
  rintro k s hk ⟨hdef,hnm,hm,hne,ho⟩
  have hx:=hf.at (j:=(k : Int)) (by omega) (by omega)
  have hrow:=hl.2.1.at (j:=(k : Int)) (by omega) (by omega)
  rw [Int.toNat_natCast] at hx hrow
  have hA:=hL.defs _ hx.2 hdef
  have s0:=(hrow.2.1.2 s hm).1
  have s1:=hrow.2.2 s hm
  have hed : Ed AbJ f l.1.Out (Pb f k).A s:=⟨k,hk,rfl,hdef,fun h=>hnm ⟨h.1,by rw [h.2]⟩,hm,hne,rfl⟩
  obtain ⟨A,hAe⟩ : ∃ A : Nat,(Pb f k).A = (A : Int):=⟨(Pb f k).A.toNat,by omega⟩
  obtain ⟨t,rfl⟩ : ∃ t : Nat,s = (t : Int):=⟨s.toNat,by omega⟩
  rw [hAe] at hed hA hne ho
  have hgA : g.1[A]? = some (g.1[A]'(by have:=hg.1; omega)):=List.getElem?_eq_getElem _
  have hmem : (t : Int) ∈ rowAt g.1 (A : Int):=by
   unfold rowAt
   rw [Int.toNat_natCast,hgA]
   exact ((hg.2 A _ hgA).2 _).2 (.inl hed)
  refine ac A t (by omega) (by omega) (fun h=>hne (by rw [h])) hmem ?_
  have:=ho.symm
  unfold AbU at this
  rw [yo] at this
  exact this
 unfold Qx
 refine (Anl hL y.1 hll).bind fun c hc=>?_
 rw [AlG hL.hi hf.len' hL.arg hL.slots hL.alok hL.al64,Option.bind_some]
 have hcf : c.2.2 = false:=by
  by_cases hq : RK q.1 f q.2.2.1 y.1 ∧ Acc f l.1.Out
  ·cases e : c.2.2 with
   | false=>rfl
   | true =>
    obtain ⟨k,s,hk,hcl⟩:=(hc.1 hq).found.1 e
    exact (no k s hk hcl).elim
  ·rw [hc.2 hq]
 rw [hcf]
 simp only [Bool.not_false,cond_true]
 refine (Ank hL y.1 hll).bind fun e he=>.pure ?_
 by_cases hle : y.1.Size ≤ (YO q.1 f q.2.2.1).Size
 ·have hsh:=ys.2 hle
  rcases he with ⟨h1,_⟩ | ⟨_,h1,_⟩ | ⟨_,_,⟨k,s,hk,h1⟩,_⟩ | ⟨_,_,_,rfl⟩
  ·exact (h1 hsh).elim
  ·exact (h1 hl.2).elim
  ·exact (no k s hk h1).elim
  ·simp [hle]
 ·have hns : ¬ RK q.1 f q.2.2.1 y.1:=fun h=>hle (ys.1 h)
  rcases he with ⟨_,rfl⟩ | ⟨h1,_⟩ | ⟨h1,_⟩ | ⟨h1,_⟩
  ·simp [hle]
  all_goals exact (hns h1).elim
theorem Yr (codes : List Int) (hc : qL (QY .u8) codes) : Qi codes = some true:=by
 obtain ⟨r,h,rfl⟩:=ZI codes hc
 exact h
end Go.Proofs.YtnldnldmgceooaaGreatDoor
