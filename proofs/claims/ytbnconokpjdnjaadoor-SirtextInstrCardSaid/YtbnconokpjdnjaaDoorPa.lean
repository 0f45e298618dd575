/-
  Plain laws about the typed programs.
-/
import Derived.Test.YtbnconokpjdnjaaDoorDc
import Derived.Test.YtbnconokpjdnjaaDoorDxP
namespace Go.Dw
section
variable {ι R α : Type} {body : ι -> Option (ι ⊕ R)} {v : R}
@[simp] theorem Ud (l : List α) (i : Nat) : ixO l (i : Int) = l[i]?:=by
 unfold ixO
 rw [if_neg (by omega)]
 simp
theorem Ue (l : List α) {i : Int} (h : 0 <= i) : ixO l i = l[i.toNat]?:=by
 unfold ixO
 rw [if_neg (by omega)]
@[simp] theorem UE (l : List α) (i : Nat) : ixO l ((i : Int) + 1) = l[i + 1]?:=by
 have:=Ud l (i + 1)
 simpa using this
@[simp] theorem UF (l : List α) : ixO l 0 = l[0]?:=Ue l (Int.le_refl 0)
@[simp] theorem UN : IntKind.i64.wrap 0 = 0:=by decide
@[simp] theorem UO : IntKind.i64.wrap 1 = 1:=by decide
@[simp] theorem UP : IntKind.i64.wrap 2 = 2:=by decide
@[simp] theorem UQ : IntKind.i64.wrap 3 = 3:=by decide
@[simp] theorem Tc (r : R) : (lft (some r) : Option (ι ⊕ R)) = some (.inr r):=rfl
@[simp] theorem UG : (lft none : Option (ι ⊕ R)) = none:=rfl
@[simp] theorem SD (s : ι) : (cnt s : Option (ι ⊕ R)) = some (.inl s):=rfl
end
end Go.Dw
namespace Go.Dw
open Go
def Hs {α : Type} (m : Option α) (P : α -> Prop) : Prop:=∃ r,m = some r /\ P r
section
variable {α β ι R : Type}
theorem Hs.cnt {s : ι} {P : ι ⊕ R -> Prop} (h : P (.inl s)) : Hs (Go.Dw.cnt s) P:=⟨_,rfl,h⟩
theorem Hs.lft {m : Option R} {P : ι ⊕ R -> Prop} (h : Hs m λr=>P (.inr r)) : Hs (Go.Dw.lft m) P:=by
 obtain ⟨r,rfl,h⟩:=h
 exact ⟨_,rfl,h⟩
end
end Go.Dw
namespace Go.Proofs.YtbnconokpjdnjaaDoor
open Go Go.Dw Go.Proofs
theorem Uz (u : Nat) : Sn ([IntKind.u8.wrap (IntKind.u64.wrap (48 + ((u : Int).tmod 10)))] : List Int) = [UInt8.ofNat (48 + u % 10)]:=by
 have e : IntKind.u8.wrap (IntKind.u64.wrap (48 + ((u : Int).tmod 10))) = ((48 + u % 10 : Nat) : Int):=by
  have : (u : Int).tmod 10 = ((u % 10 : Nat) : Int):=by rw [Int.tmod_eq_emod_of_nonneg (by omega)]; omega
  rw [this]
  simp [IntKind.wrap,IntKind.signed,IntKind.bits]; omega
 rw [e]
 show [UInt8.ofNat ((48 + u % 10 : Nat) : Int).toNat] = _
 rw [Int.toNat_natCast]
theorem SX (u : Nat) (s : List UInt8) (h2 : u < 18446744073709551616) (hs : s.length <= 100) :
  QT (u : Int) s = if u < 10 then some (.inr (UInt8.ofNat (48 + u) :: s)) else some (.inl (((u / 10 : Nat) : Int),UInt8.ofNat (48 + u % 10) :: s)):=by
 have e0 : (u : Int).tdiv 10 = ((u / 10 : Nat) : Int):=by rw [Int.tdiv_eq_ediv_of_nonneg (by omega)]; omega
 have e1 : IntKind.u64.wrap ((u : Int).tdiv 10) = ((u / 10 : Nat) : Int):=by
  rw [e0]; simp [IntKind.wrap,IntKind.signed,IntKind.bits]; omega
 unfold QT
 rw [Uz,e1,Pr (by simp; omega)]
 by_cases h' : u < 10
 ·have hb : (((u / 10 : Nat) : Int) == 0) = true:=by simp; omega
  rw [hb,cond_true,if_pos h',Tc,Nat.mod_eq_of_lt h']
  rfl
 ·have hb : (((u / 10 : Nat) : Int) == 0) = false:=by simp; omega
  rw [hb,cond_false,if_neg h',SD]
  rfl
theorem SY : ∀ (k u : Nat) (s : List UInt8),u < 10 ^ (k + 1) -> u < 18446744073709551616 -> s.length + k <= 100 -> RJ (λs=>QT s.1 s.2) ((u : Int),s) = some (Lib.decDigits u ++ s):=by
 intro k
 induction k with
 | zero =>
  intro u s h h2 hs
  have h' : u < 10:=by simpa using h
  rw [RO]
  dsimp only
  rw [SX u s h2 (by omega),if_pos h',Lib.decDigits,dif_pos h']
  rfl
 | succ k ih =>
  intro u s h h2 hs
  rw [RO]
  dsimp only
  rw [SX u s h2 (by omega),Lib.decDigits]
  by_cases h' : u < 10
  ·rw [if_pos h',dif_pos h']
   rfl
  ·rw [if_neg h',dif_neg h']
   dsimp only
   rw [ih (u / 10) _ (by rw [Nat.pow_succ] at h; omega) (by omega) (by simp; omega)]
   simp
theorem Sa {u : Nat} (h : u < 18446744073709551616) : QS (u : Int) = some (Lib.decDigits u):=by
 unfold QS
 rw [SY 20 u [] (by omega) h (by simp)]
 simp
theorem RC : ∀ (k u : Nat),u < 10 ^ (k + 1) -> (Lib.decDigits u).length <= k + 1:=by
 intro k
 induction k with
 | zero=>intro u h; rw [Lib.decDigits,dif_pos (by simpa using h)]; simp
 | succ k ih =>
  intro u h
  by_cases h' : u < 10
  ·rw [Lib.decDigits,dif_pos h']; simp
  ·rw [Lib.decDigits,dif_neg h']
   have:=ih (u / 10) (by rw [Nat.pow_succ] at h; omega)
   simp; omega
def R64 (n : Int) : Prop:=-9223372036854775808 <= n /\ n <= 9223372036854775807
theorem RQ {n : Int} (h : R64 n) : (Lib.itoa n).length <= 21:=by
 have h1:=h.1; have h2:=h.2
 unfold Lib.itoa
 split
 ·have:=RC 19 n.natAbs (by omega)
  simp; omega
 ·have:=RC 19 n.toNat (by omega)
  omega
theorem TI {n : Int} (h : R64 n) : SV n = some (Lib.itoa n):=by unfold SV; exact Pr h
theorem int_eq {n : Int} (h : R64 n) : Rt n = some (Lib.itoa n):=by
 have h1:=h.1; have h2:=h.2
 unfold Rt Lib.itoa
 by_cases hn : n < 0
 ·have e : IntKind.u64.wrap (0 - IntKind.u64.wrap n) = ((n.natAbs : Nat) : Int):=by simp [IntKind.wrap,IntKind.signed,IntKind.bits]; omega
  have:=RC 19 n.natAbs (by omega)
  simp only [hn,decide_true,cond_true,if_true,e,Sa (show n.natAbs < 18446744073709551616 by omega),Option.bind_some]
  rw [Pr (by simp; omega)]
  rfl
 ·have e : IntKind.u64.wrap n = ((n.toNat : Nat) : Int):=by simp [IntKind.wrap,IntKind.signed,IntKind.bits]; omega
  simp only [hn,decide_false,cond_false,if_false,e,Sa (show n.toNat < 18446744073709551616 by omega),Option.bind_some]
theorem TG {u : Int} (h0 : 0 <= u) (h1 : u < 18446744073709551616) : SU u 10 = some (Lib.decDigits u.toNat):=by
 unfold SU; rw [Pr ⟨h0,h1⟩,Pr rfl]
theorem Tj {u : Int} (h0 : 0 <= u) (h1 : u < 18446744073709551616) : QS u = some (Lib.decDigits u.toNat):=by
 have:=Sa (u:=u.toNat) (by omega)
 rwa [show ((u.toNat : Nat) : Int) = u by omega] at this
theorem Tt {u : Int} (h0 : 0 <= u) (h1 : u < 18446744073709551616) : (Lib.decDigits u.toNat).length <= 20:=RC 19 _ (by omega)
def RN (x : Mk) (i : Nat) : Int:=([x.A,x.B,x.C])[i]?.getD 0
def Ru (x : Mk) (c : UInt8) (i : Nat) : List UInt8:=if c = 35 then Lib.decDigits x.Imm.toNat else c :: Lib.itoa (RN x i)
def Rh (x : Mk) : List UInt8 -> Nat -> List (List UInt8)
 | [],_=>[]
 | c :: cs,i=>Ru x c i :: Rh x cs (i + 1)
theorem TL (x : Mk) (i : Nat) (h : i < 3) : ((QZ.mk x.A x.B x.C).toList)[i]? = some (RN x i):=by
 rcases i with _ | _ | _ | i
 ·rfl
 ·rfl
 ·rfl
 ·omega
structure X07 (x : Mk) : Prop where
 a : R64 x.A
 b : R64 x.B
 c : R64 x.C
 i0 : 0 <= x.Imm
 i1 : x.Imm < 18446744073709551616
variable {x : Mk}
theorem X07.num (h : X07 x) (i : Nat) : R64 (RN x i):=by
 have:=h.a; have:=h.b; have:=h.c
 unfold RN
 match i with
 | 0=>exact h.a
 | 1=>exact h.b
 | 2=>exact h.c
 | n + 3=>exact ⟨show (-9223372036854775808 : Int) <= 0 by decide,show (0 : Int) <= 9223372036854775807 by decide⟩
theorem X07.word (h : X07 x) (c : UInt8) (i : Nat) : (Ru x c i).length <= 22:=by
 unfold Ru
 split
 ·have:=Tt h.i0 h.i1; omega
 ·have:=RQ (h.num i); simp; omega
def Ts (f : List UInt8) : Prop:=∀ i (h : i < f.length),RA f i = (f[i].toNat,1) /\ Si (f[i].toNat : Int) = [f[i]] /\ ((f[i].toNat : Int) == 35) = decide (f[i] = 35)
theorem Uj (n : Nat) : ∀ ws : List (List UInt8),(∀ w ∈ ws,w.length <= n) -> Lib.lens ws <= n * ws.length:=by
 intro ws
 induction ws with
 | nil=>intro _; simp [Lib.lens]
 | cons w ws ih =>
  intro h
  have h1:=h w (List.mem_cons_self ..)
  have h2:=ih λv hv=>h v (List.mem_cons_of_mem _ hv)
  simp only [Lib.lens,List.length_cons,Nat.mul_add,List.map_cons,List.sum_cons] at h2 ⊢
  omega
theorem Uw (ws : List (List UInt8)) (h : ∀ w ∈ ws,w.length <= 22) (hl : ws.length <= 10) : SW ws [32] = some (Lib.join ws [32]):=by
 unfold SW
 rw [Pr (by omega),Pr]
 cases ws with
 | nil=>simp [Lib.join_nil]
 | cons w ws =>
  rw [Lib.join_length]
  have:=Uj 22 (w :: ws) h
  simp only [List.length_cons,List.length_nil] at this hl ⊢
  omega
theorem TA (h : X07 x) (f : List UInt8) (hf : Ts f) (h3 : f.length <= 3) : ∀ (k i : Nat) (ws : List (List UInt8)),i + k = f.length -> (∀ w ∈ ws,w.length <= 22) -> ws.length + k <= 10 ->
  RJ (λs=>QO x s.1 s.2) (ws,(f,i)) = some (Lib.join (ws ++ Rh x (f.drop i) i) [32]):=by
 intro k
 induction k with
 | zero =>
  intro i ws hi hw hl
  rw [RO]
  have hb : Nat.blt i f.length = false:=by rw [<- Bool.not_eq_true,Nat.blt_eq]; omega
  simp only [QO,hb,cond_false,Uw ws hw (by omega),Option.bind_some,Tc]
  rw [List.drop_eq_nil_of_le (by omega)]
  simp [Rh]
 | succ k ih =>
  intro i ws hi hw hl
  have hlt : i < f.length:=by omega
  obtain ⟨d1,d2,d3⟩:=hf i hlt
  have hb : Nat.blt i f.length = true:=by rw [Nat.blt_eq]; omega
  have step : QO x ws (f,i) = some (.inl (ws ++ [Ru x f[i] i],(f,i + 1))):=by
   simp only [QO,hb,cond_true,d1,d3,itN,d2]
   by_cases hc : f[i] = 35
   ·simp only [hc,decide_true,cond_true,TG h.i0 h.i1,Option.bind_some]
    rw [Pr (by simp only [List.length_cons,List.length_nil]; omega)]
    simp only [Ru,hc,if_true,SD]
   ·simp only [hc,decide_false,cond_false]
    have hn : ((QZ.mk x.A x.B x.C).toList)[i]? = some (RN x i):=by
     have : i < 3:=by omega
     exact TL x i this
    have:=RQ (h.num i)
    rw [Pr (by omega),Int.toNat_natCast,hn,Option.bind_some,TI (h.num i),Option.bind_some,Pr (by simp only [List.length_cons,List.length_nil]; omega),Pr (by simp only [List.length_cons,List.length_nil]; omega)]
    simp only [Ru,hc,if_false,SD,List.cons_append,List.nil_append]
  rw [RO]
  dsimp only
  rw [step]
  dsimp only
  rw [ih (i + 1) _ (by omega) (λw hw'=>by
   rcases List.mem_append.1 hw' with hw' | hw'
   ·exact hw w hw'
   ·obtain rfl:=List.mem_singleton.1 hw'
    exact h.word _ _) (by simp; omega),List.drop_eq_getElem_cons hlt]
  simp [Rh]
theorem Tk : ∀ f ∈ Rg,Ts f /\ f.length <= 3:=by
 have : ∀ f ∈ Rg,f.length <= 3 /\ ∀ i : Fin f.length,RA f i = (f[i].toNat,1) /\ Si (f[i].toNat : Int) = [f[i]] /\ ((f[i].toNat : Int) == 35) = decide (f[i] = 35):=by decide +kernel
 exact λf hf=>⟨λi h=>(this f hf).2 ⟨i,h⟩,(this f hf).1⟩
theorem TJ : ∀ f ∈ Rk,f.length <= 22:=by decide
theorem SZ (h : X07 x) {k : Nat} (hk : x.Op = k) {nm f : List UInt8} (h1 : Rk[k]? = some nm) (h2 : Rg[k]? = some f) : QN x = some (Lib.join (nm :: Rh x f 0) [32]):=by
 have hlt : k < 25:=(List.getElem?_eq_some_iff.1 h1).1
 have n1 : ¬ x.Op < 0:=by omega
 have n2 : ¬ x.Op >= 25:=by omega
 unfold QN Rr
 simp only [n1,n2,decide_false,cond_false]
 obtain ⟨p1,p2⟩:=Tk f (List.mem_of_getElem? h2)
 rw [Pr (by omega),show x.Op.toNat = k by omega,h1,Option.bind_some,Pr (by omega),h2,Option.bind_some,TA h f p1 p2 f.length 0 [nm] (by omega) (by intro w hw; obtain rfl:=List.mem_singleton.1 hw; exact TJ _ (List.mem_of_getElem? h1)) (by simp; omega)]
 rfl
def Sd (u : Bool) (a : List UInt8) : Bool:=!u || (a.length == 1 && a != [35])
noncomputable def Ua (k : Nat) : Bool :=
 match Rv k,Rk[k]?,Ro k,Rz k,Rg[k]? with
 | some n,some m,some (ua,ub,uc,ui),some (a,b,c),some f =>
  n == m && n != [63] && decide (n.length <= 22) && decide (a.length <= 1) && decide (b.length <= 1) && decide (c.length <= 1) && Sd ua a && Sd ub b && Sd uc c && (!ub || ua) && (!uc || ub) && f == (bif ua then a else []) ++ (bif ub then b else []) ++ (bif uc then c else []) ++ (bif ui then [35] else [])
 | _,_,_,_,_=>false
theorem TZ : ∀ k : Fin 25,Ua k = true:=by decide +kernel
theorem TY {k : Nat} (hk : k < 25) : ∃ n ua ub uc ui a b c,Rv k = some n /\ Rk[k]? = some n /\ Ro k = some (ua,ub,uc,ui) /\ Rz k = some (a,b,c) /\
  Rg[k]? = some ((bif ua then a else []) ++ (bif ub then b else []) ++ (bif uc then c else []) ++ (bif ui then [35] else [])) /\ (n == [63]) = false /\ n.length <= 22 /\ a.length <= 1 /\ b.length <= 1 /\ c.length <= 1 /\
  (ua = true -> ∃ z,a = [z] /\ z ≠ 35) /\ (ub = true -> ua = true /\ ∃ z,b = [z] /\ z ≠ 35) /\ (uc = true -> ub = true /\ ∃ z,c = [z] /\ z ≠ 35):=by
 have h:=TZ ⟨k,hk⟩
 have one : ∀ u a,Sd u a = true -> u = true -> ∃ z,a = [z] /\ z ≠ 35:=by
  intro u a h1 hu
  subst hu
  match a with
  | []=>simp [Sd] at h1
  | [z]=>exact ⟨z,rfl,by simpa [Sd] using h1⟩
  | _ :: _ :: _=>simp [Sd] at h1
 unfold Ua at h
 dsimp only at h
 split at h
 ·rename_i n m ua ub uc ui a b c f e1 e2 e3 e4 e5
  simp only [Bool.and_eq_true,beq_iff_eq,bne_iff_ne,decide_eq_true_eq,ne_eq] at h
  obtain ⟨⟨⟨⟨⟨⟨⟨⟨⟨⟨⟨h1,h2⟩,h3⟩,h4⟩,h5⟩,h6⟩,h7⟩,h8⟩,h9⟩,h10⟩,h11⟩,h12⟩:=h
  subst h1; subst h12
  refine ⟨n,ua,ub,uc,ui,a,b,c,e1,e2,e3,e4,e5,by simpa using h2,h3,h4,h5,h6,one _ _ h7,λhu=>⟨?_,one _ _ h8 hu⟩,λhu=>⟨?_,one _ _ h9 hu⟩⟩
  ·subst hu; simpa using h10
  ·subst hu; simpa using h11
 ·cases h
theorem Ux (h : X07 x) {k : Nat} (hk : x.Op = k) (hlt : k < 25) : ∃ nm f,Rk[k]? = some nm /\ Rg[k]? = some f /\ QY x = some (Lib.join (nm :: Rh x f 0) [32]):=by
 obtain ⟨n,ua,ub,uc,ui,a,b,c,e1,e2,e3,e4,e5,h2,h3,h4,h5,h6,h7,h8,h9⟩:=TY hlt
 refine ⟨n,_,e2,e5,?_⟩
 have la:=RQ h.a; have lb:=RQ h.b; have lc:=RQ h.c; have li:=Tt h.i0 h.i1
 have j3 : ∀ s : List UInt8,s.length <= 100 -> Rf (ua,ub,uc,ui) x s = some (s ++ (bif ui then 32 :: Lib.decDigits x.Imm.toNat else [])):=by
  intro s hs
  unfold Rf
  cases ui
  ·simp
  ·simp only [cond_true,Tj h.i0 h.i1,Option.bind_some]
   rw [Pr (by simp only [List.length_cons,List.length_nil]; omega),Pr (by simp only [List.length_append,List.length_cons,List.length_nil]; omega)]
   rfl
 have j2 : ∀ s : List UInt8,s.length <= 75 -> Re (ua,ub,uc,ui) (a,b,c) x s = some (s ++ (bif uc then 32 :: (c ++ Lib.itoa x.C) else []) ++ (bif ui then 32 :: Lib.decDigits x.Imm.toNat else [])):=by
  intro s hs
  unfold Re
  cases hu : uc
  ·simp only [cond_false]
   rw [<- hu,j3 s (by omega),List.append_nil]
  ·simp only [cond_true,int_eq h.c,Option.bind_some]
   rw [Pr (by simp only [List.length_cons,List.length_nil]; omega),Pr (by simp only [List.length_append,List.length_cons,List.length_nil]; omega),Pr (by simp only [List.length_append,List.length_cons,List.length_nil]; omega),<- hu,j3 _ (by simp only [List.length_append,List.length_cons,List.length_nil]; omega)]
   rfl
 have j1 : ∀ s : List UInt8,s.length <= 50 -> Rc (ua,ub,uc,ui) (a,b,c) x s = some (s ++ (bif ub then 32 :: (b ++ Lib.itoa x.B) else []) ++ (bif uc then 32 :: (c ++ Lib.itoa x.C) else []) ++ (bif ui then 32 :: Lib.decDigits x.Imm.toNat else [])):=by
  intro s hs
  unfold Rc
  cases hu : ub
  ·simp only [cond_false]
   rw [<- hu,j2 s (by omega),List.append_nil]
  ·simp only [cond_true,int_eq h.b,Option.bind_some]
   rw [Pr (by simp only [List.length_cons,List.length_nil]; omega),Pr (by simp only [List.length_append,List.length_cons,List.length_nil]; omega),Pr (by simp only [List.length_append,List.length_cons,List.length_nil]; omega),<- hu,j2 _ (by simp only [List.length_append,List.length_cons,List.length_nil]; omega)]
   rfl
 have j0 : QY x = some (n ++ (bif ua then 32 :: (a ++ Lib.itoa x.A) else []) ++ (bif ub then 32 :: (b ++ Lib.itoa x.B) else []) ++ (bif uc then 32 :: (c ++ Lib.itoa x.C) else []) ++ (bif ui then 32 :: Lib.decDigits x.Imm.toNat else [])):=by
  unfold QY
  rw [hk,e1,Option.bind_some,h2,cond_false,e3,Option.bind_some,e4,Option.bind_some]
  cases hu : ua
  ·simp only [cond_false]
   rw [<- hu,j1 n (by omega),List.append_nil]
  ·simp only [cond_true,int_eq h.a,Option.bind_some]
   rw [Pr (by simp only [List.length_cons,List.length_nil]; omega),Pr (by simp only [List.length_append,List.length_cons,List.length_nil]; omega),Pr (by simp only [List.length_append,List.length_cons,List.length_nil]; omega),<- hu,j1 _ (by simp only [List.length_append,List.length_cons,List.length_nil]; omega)]
   rfl
 rw [j0,Lib.join_cons]
 cases ua
 ·have : ub = false:=by cases ub with | false=>rfl | true=>exact absurd (h8 rfl).1 (by decide)
  subst this
  have : uc = false:=by cases uc with | false=>rfl | true=>exact absurd (h9 rfl).1 (by decide)
  subst this
  cases ui <;> simp [Lib.joinTail,Rh,Ru]
 ·obtain ⟨za,rfl,ha⟩:=h7 rfl
  cases ub
  ·have : uc = false:=by cases uc with | false=>rfl | true=>exact absurd (h9 rfl).1 (by decide)
   subst this
   cases ui <;> simp [Lib.joinTail,Rh,Ru,ha,RN]
  ·obtain ⟨_,zb,rfl,hb⟩:=h8 rfl
   cases uc
   ·cases ui <;> simp [Lib.joinTail,Rh,Ru,ha,hb,RN]
   ·obtain ⟨_,zc,rfl,hc⟩:=h9 rfl
    cases ui <;> simp [Lib.joinTail,Rh,Ru,ha,hb,hc,RN]
theorem TF (h : X07 x) : ∃ t,QN x = some t /\ QY x = some t:=by
 by_cases hr : 0 <= x.Op /\ x.Op < 25
 ·obtain ⟨nm,f,h1,h2,h3⟩:=Ux h (k:=x.Op.toNat) (by omega) (by omega)
  exact ⟨_,SZ h (k:=x.Op.toNat) (by omega) h1 h2,h3⟩
 ·refine ⟨[63],?_,?_⟩
  ·unfold QN
   by_cases hn : x.Op < 0
   ·simp [hn]
   ·have : x.Op >= 25:=by omega
    simp [hn,this]
  ·unfold QY Rv
   by_cases hn : x.Op < 0
   ·simp [hn]
   ·have : x.Op >= 25:=by omega
    simp [hn,this]
theorem Ub : Ry = some true:=by
 have h : X07 (Mk.mk 0 1 0 0 7):=⟨⟨by decide,by decide⟩,⟨by decide,by decide⟩,⟨by decide,by decide⟩,by decide,by decide⟩
 unfold Ry
 rw [SZ h (k:=0) rfl (nm:=[99,111,110,115,116]) (f:=[114,35]) rfl rfl]
 have : (Lib.join ([99,111,110,115,116] :: Rh (Mk.mk 0 1 0 0 7) [114,35] 0) [32] : List UInt8) = [99,111,110,115,116,32,114,49,32,55]:=by
  simp [Lib.join_cons,Lib.joinTail,Rh,Ru,RN,Lib.itoa,Lib.decDigits]
 rw [Option.bind_some,this]
 simp
theorem RV (x : Mk) (op : Int) (h : TM x) (_ : RL .u8 op) : Rj x op = some true:=by
 have hx : X07 x:=by
  obtain ⟨h1,h2,h3,h4,h5⟩:=h
  exact ⟨⟨h2.1,h2.2⟩,⟨h3.1,h3.2⟩,⟨h4.1,h4.2⟩,h5.1,Int.lt_of_le_of_lt h5.2 (by decide)⟩
 have hy : X07 (Mk.mk ((IntKind.i64.wrap op).tmod 26) x.A x.B x.C x.Imm):=⟨hx.a,hx.b,hx.c,hx.i0,hx.i1⟩
 obtain ⟨t,t1,t2⟩:=TF hx
 obtain ⟨u,u1,u2⟩:=TF hy
 unfold Rj
 rw [Ub,Option.bind_some]
 simp [t1,t2,u1,u2]
end Go.Proofs.YtbnconokpjdnjaaDoor
