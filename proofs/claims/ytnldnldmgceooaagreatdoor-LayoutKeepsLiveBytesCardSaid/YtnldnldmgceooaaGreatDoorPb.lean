/-
  Plain laws about the typed programs.
-/
import Derived.Test.YtnldnldmgceooaaGreatDoorPa
namespace Go.Proofs.YtnldnldmgceooaaGreatDoor
open Go Go.Dw Go.Proofs
def Yz (n : Nat) (f : OX) : Prop:=∀ x ∈ f.Code,x.Op = 22 → 0 ≤ x.A ∧ x.A < n
theorem QX.calls {ps : List Int} {i most : Int} {f : OX} (h : QX ps i most f) (hi : 0 ≤ i) : Yz ps.length f:=by
 intro x hx hop
 obtain ⟨k,hk⟩:=List.getElem?_of_mem hx
 have hkl:=(List.getElem?_eq_some_iff.1 hk).1
 by_cases hk1 : k + 1 < f.Code.length
 ·have hins:=h.body k x hk hk1
  cases hins with
  | call j h0 h1=>exact ⟨by simp only; omega,h1⟩
  | bin op a b c h1 h2 h3 h4 h5 h6=>simp only at hop; omega
  | un op a h1 h2=>simp only at hop; omega
  | _=>simp at hop
 ·have he:=h.last x (by rw [show f.Code.length - 1 = k by omega]; exact hk)
  rcases he with rfl | ⟨w,_,rfl⟩ <;> simp at hop
theorem AnJ {n : Nat} {f : OX} (h : Yz n f) {keep : List Bool} {to pl : List Int} (hk : f.Code.length ≤ keep.length) : ∀ x ∈ Xw f keep to pl f.Code.length,x.Op = 22 → 0 ≤ x.A ∧ x.A < n:=by
 intro x hx hop
 obtain ⟨p,hp⟩:=List.getElem?_of_mem hx
 obtain ⟨j,h1,_,_,rfl⟩:=(AbR (f:=f) (keep:=keep) (to:=to) (pl:=pl) _ hk).2 p x hp
 have hm : Pb f (j : Nat) ∈ f.Code:=by
  have : Pb f ((j : Nat) : Int) = f.Code[j]:=by simp [Pb,h1]
  rw [this]; exact List.getElem_mem _
 have ho : (mvI pl (rnI to (Pb f (j : Nat)))).Op = (Pb f (j : Nat)).Op:=by
  refine Eq.trans ?_ (AgI to _)
  unfold mvI
  split
  ·rfl
  ·split <;> rfl
 rw [ho] at hop
 have e : mvI pl (rnI to (Pb f (j : Nat))) = Pb f (j : Nat):=by simp [mvI,rnI,hop]
 rw [e]
 exact h _ hm hop
theorem AmB {f : OX} (hf : Py f) (hd : WB f) (hlast : AaN f) {n : Nat} (hc : Yz n f) {r : Pw} (hr : AdY f r) : Hs (VK f r) fun q=>q.2 = 0 ∧ Py q.1 ∧ WB q.1 ∧ Yz n q.1:=by
 obtain ⟨q,e,h1,h2,h3⟩:=Ant hf hd hlast hr
 obtain ⟨q',e',_,used,to,pl,_,_,_,_,_,_,_,_,cd⟩:=Alx hf hd hr
 rw [e] at e'; cases e'
 refine ⟨q,e,h1,h2,h3,?_⟩
 unfold Yz
 rw [cd]
 exact AnJ hc (by rw [hr.2.1]; exact Nat.le_refl _)
theorem Anx {f : OX} (hf : Py f) (hd : WB f) (hml : Aer f) {l : Pg} (hacc : Acc f l.Out) : Hs (ZQ f l) fun g=>Hs (Vc f g.1) fun to=>Hs (Zj f l to) fun keep=>AdY f ⟨to,keep⟩:=by
 have hlen:=hf.len'
 have hsl:=hf.slots
 refine Hs.mono (P:=ZF AcR f l.Out) ?_ fun g hg=>?_
 ·unfold ZQ
  exact (Ako hf hd (hacc.1.len hf) false).bind fun r hr=>.pure hr
 rcases hg with ⟨_,_,hg⟩ | ⟨_,hn,_⟩
 rotate_left
 ·exact (hn hacc).elim
 refine (Anw hlen hsl hml hg (fun x y r s hr hs hy=>((hg.2 y s hs).2 _).2 (((hg.2 x r hr).2 _).1 hy).symm) fun x r hr hx=>?_).mono fun to hto=>?_
 ·rcases ((hg.2 x r hr).2 _).1 hx with ⟨_,_,_,_,_,_,h',_⟩ | ⟨_,_,_,_,_,_,h',_⟩ <;> exact h' rfl
 refine (Apy hf hacc.1 hml hto.ok.1).mono fun keep ⟨hkl,hkp⟩=>⟨hto.ok,hkl,fun k hk h=>?_⟩
 by_cases h1 : AcJ f l.Out k
 ·exact h1.1
 ·by_cases h2 : (Pb f k).Op = 17 ∧ Pu to (Pb f k).A = Pu to (Pb f k).B
  ·exact .inr h2.1
  ·have:=(hkp k hk).2 ⟨h1,h2⟩
   rw [h] at this; cases this
theorem AnM {p : Ph} {i : Int} {f : OX} (hi : ixO p.Funcs i = some f) (hf : Py f) (hd : WB f) (hml : Aer f) (hlast : AaN f) (hc : Yz p.Funcs.length f) (hp : p.Funcs.length ≤ 1000) : Hs (Xk p i) fun q=>AdY f q.Rename ∧ Acc f q.Live.Out:=by
 obtain ⟨i0,i1,_⟩:=AlQ hi
 unfold Xk
 rw [hi,Option.bind_some]
 refine (Afq hf).bind fun l hl=>?_
 have hacc:=hl.acc hf
 refine (Anx hf hd hml hacc).bind fun g hg=>hg.bind fun to hto=>hto.bind fun keep hr=>?_
 refine (AmB hf hd hlast hc hr).bind fun q ⟨_,qf,qd,qc⟩=>?_
 refine (Afq qf).bind fun l2 hl2=>?_
 have hacc2:=hl2.acc qf
 refine Hs.bind (P:=ZF AhR q.1 l2.Out) ?_ fun s hs=>?_
 ·unfold Abl
  exact (Ako qf qd (hacc2.1.len qf) true).bind fun r hr=>.pure hr
 have hrows : ∀ row ∈ s.1,row.length ≤ 512:=by
  rcases hs with ⟨_,_,hs⟩ | ⟨_,hn,_⟩
  ·intro row hrow
   obtain ⟨k,hk⟩:=List.getElem?_of_mem hrow
   exact (hs.2 k row hk).1.1.length_le
  ·exact (hn hacc2).elim
 refine (Anc hi hf.len' hc).bind fun a _=>(AnW _ qf.slots hrows a).bind fun o _=>.bne (fun _=>.pure ⟨hr,hacc⟩) fun _=>?_
 have hset : ixO (p.Funcs.set i.toNat q.1) i = some q.1:=by
  rw [RW _ i0]; exact List.getElem?_set_self (by omega)
 refine Hs.bind (P:=fun r=>r = ⟨p.Funcs.set i.toNat q.1⟩) ?_ fun r hr'=>?_
 ·unfold AcO Aal
  refine Hs.bind (P:=fun r=>r = ⟨p.Funcs.set i.toNat q.1⟩) (.chk (by simp; omega) (.chk (by simp; omega) ((Hs.get (P:=fun _=>True) i0 (by simp; omega) fun _ _=>trivial).bind fun _ _=>.pure (by simp)))) fun r h=>.pure h
 subst hr'
 exact (Aok p hp).bind fun al _=>(Aob hset qf.len' qf.slots (by simpa [Yz] using qc) al _).bind fun y _=>.pure ⟨hr,hacc⟩
end Go.Proofs.YtnldnldmgceooaaGreatDoor
namespace Go.Proofs.YtnldnldmgceooaaGreatDoor
open Go Go.Dw Go.Proofs
theorem VD.max {a b : Int} (ha : VD a) (hb : VD b) : VD (RI a b):=by unfold RI; split <;> assumption
theorem Aov {s : List Po} (h : AbE s) : Hs (VF s) fun a=>VD a ∧ 16 ≤ a ∧ a ≤ 64:=by
 have a16 : VD 16:=Uz 4 (by omega)
 have hl:=h.1
 unfold VF
 refine (AgJ s).bind fun e he=>.bne (fun _=>.pure ⟨a16,by omega,by omega⟩) fun _=>?_
 refine Hs.loop (fun q=>∃ k : Nat,q.2 = (k : Int) ∧ k ≤ s.length ∧ VD q.1 ∧ 16 ≤ q.1 ∧ q.1 ≤ 64) (fun q=>s.length - q.2.toNat) ⟨0,rfl,Nat.zero_le _,a16,by simp only; omega,by simp only; omega⟩ ?_
 rintro ⟨a,_⟩ ⟨k,rfl,hk,h1,h2,h3⟩
 replace h2 : 16 ≤ a:=h2
 replace h3 : a ≤ 64:=h3
 unfold Wg
 dsimp only
 refine .dec (fun hlt=>?_) fun _=>.lft (.pure ⟨h1,h2,h3⟩)
 have hlt : k < s.length:=by omega
 rw [Pl (by omega)]
 refine (Hs.ix (by omega) (by omega) fun x hx=>h.2 x (List.mem_of_getElem? hx)).bind fun x hx=>.cnt ⟨⟨k + 1,rfl,hlt,h1.max hx.1,?_,?_⟩,by simp only; omega⟩
 ·have:=hx.2.1; simp only; unfold RI; split <;> omega
 ·have:=hx.2.1; simp only; unfold RI; split <;> omega
theorem Aoj {p : Ph} (hp : p.Funcs.length ≤ 1000) (h : ∀ f ∈ p.Funcs,AbE f.Slots) : Hs (Um p) fun a=>VD a ∧ 16 ≤ a ∧ a ≤ 64:=by
 have a16 : VD 16:=Uz 4 (by omega)
 unfold Um
 refine Hs.loop (fun q=>∃ k : Nat,q.2 = (k : Int) ∧ k ≤ p.Funcs.length ∧ VD q.1 ∧ 16 ≤ q.1 ∧ q.1 ≤ 64) (fun q=>p.Funcs.length - q.2.toNat) ⟨0,rfl,Nat.zero_le _,a16,by simp only; omega,by simp only; omega⟩ ?_
 rintro ⟨a,_⟩ ⟨k,rfl,hk,h1,h2,h3⟩
 replace h2 : 16 ≤ a:=h2
 replace h3 : a ≤ 64:=h3
 unfold Wo
 dsimp only
 refine .dec (fun hlt=>?_) fun _=>.lft (.pure ⟨h1,h2,h3⟩)
 have hlt : k < p.Funcs.length:=by omega
 rw [Pl (by omega)]
 refine (Hs.ix (by omega) (by omega) fun x hx=>h x (List.mem_of_getElem? hx)).bind fun x hx=>(Aov hx).bind fun b hb=>.cnt ⟨⟨k + 1,rfl,hlt,h1.max hb.1,?_,?_⟩,by simp only; omega⟩
 ·simp only; unfold RI; split <;> omega
 ·simp only; unfold RI; split <;> omega
theorem QX.args {ps : List Int} {i most : Int} {f : OX} (h : QX ps i most f) (hi : 0 ≤ i) {p : Ph} (hl : p.Funcs.length = ps.length) (hps : Ain ps) (hall : ∀ (j : Nat) g,p.Funcs[j]? = some g → QX ps j most g) : Afb p f:=by
 intro x hx
 obtain ⟨k,hk⟩:=List.getElem?_of_mem hx
 have hkl:=(List.getElem?_eq_some_iff.1 hk).1
 by_cases hk1 : k + 1 < f.Code.length
 ·have hins:=h.body k x hk hk1
  cases hins with
  | call j h0 h1 =>
   refine ⟨fun e=>by simp at e,fun _=>⟨by simp only; omega,?_⟩⟩
   have hg : p.Funcs[j.toNat]? = some (p.Funcs[j.toNat]'(by omega)):=List.getElem?_eq_getElem _
   have:=(hall _ _ hg).par
   exact ⟨_,hg,hps.1 _ (List.mem_of_getElem? this)⟩
  | arg a b h0 h1 h2=>exact ⟨fun _=>⟨h0,h1⟩,fun e=>by simp at e⟩
  | bin op a b c h1 h2 h3 h4 h5 h6=>exact ⟨fun e=>by simp only at e; omega,fun e=>by simp only at e; omega⟩
  | un op a h1 h2=>exact ⟨fun e=>by simp only at e; omega,fun e=>by simp only at e; omega⟩
  | _=>exact ⟨fun e=>by simp at e,fun e=>by simp at e⟩
 ·have he:=h.last x (by rw [show f.Code.length - 1 = k by omega]; exact hk)
  rcases he with rfl | ⟨w,_,rfl⟩ <;> exact ⟨fun e=>by simp at e,fun e=>by simp at e⟩
theorem AnA {c : Mk} (h : okC c) {p : Ph} {i : Int} {f : OX} {al : Int} (hL : AdD p i f al) (hlast : AaN f) (hc : Yz p.Funcs.length f) (hp : p.Funcs.length ≤ 1000) : Hs (TX c p i al) fun q=>okC q.2:=by
 have hr:=AbG hL.arg (k:=f.Code.length) (Nat.le_refl _)
 have hbl : (AaP p f al).Off.length ≤ 6:=by
  have:=(AgO hL.slots (a:=16 * TR p f f.Code.length) (by omega) (k:=f.Slots.length) (Nat.le_refl _)).1
  have:=hL.slots.1
  simp only [AaP]; omega
 have j1 : ∀ {l : List Int} {a : Int} (y z : Int) {x : List Int},okC ⟨l,a⟩ → x.length ≤ 6 → Hs (QE l a y z x) fun q=>okC q.2:=by
  intro l a y z x hc hx
  unfold QE
  refine .chk (by simp; omega) ((Pt hc (by omega) (by omega)).bind fun r hr=>?_)
  refine Hs.loop (fun s=>okC ⟨s.1,s.2.1⟩ ∧ (s.2.2.1.length : Int) + s.2.2.2.2.2 ≤ 20 ∧ 0 ≤ s.2.2.2.2.2) (fun s=>s.2.2.2.2.2.toNat) ⟨hr.1,by simp only [List.nil_append]; omega,hr.2.1⟩ ?_
  rintro ⟨l,a,x,y,z,n⟩ ⟨hc,hx,hn0⟩
  replace hx : (x.length : Int) + n ≤ 20:=hx
  replace hn0 : 0 ≤ n:=hn0
  have w : IntKind.i64.wrap (n - 1) = n - 1:=wrap64 (by omega) (by omega)
  unfold Uh
  dsimp only
  refine .dec (fun hp=>?_) fun _=>.lft (.pure hc)
  have hp : 0 < n:=hp
  have fin : ∀ {l' : List Int} {a' : Int} (x' : List Int) (y' z' : Int),okC ⟨l',a'⟩ → x'.length ≤ x.length + 1 → Hs (cnt (l',a',x',y',z',IntKind.i64.wrap (n - 1)) : Option ((List Int × Int × List Int × Int × Int × Int) ⊕ (Pe × Mk))) (Rnd (fun s=>okC ⟨s.1,s.2.1⟩ ∧ (s.2.2.1.length : Int) + s.2.2.2.2.2 ≤ 20 ∧ 0 ≤ s.2.2.2.2.2) (fun s=>s.2.2.2.2.2.toNat) (l,a,x,y,z,n) fun q=>okC q.2):=by
   intro l' a' x' y' z' hc' hx'
   rw [w]
   exact .cnt ⟨⟨hc',by simp only; omega,by simp only; omega⟩,by simp only; omega⟩
  have hm : 1 ≤ RI 1 (x.length : Int) ∧ RI 1 (x.length : Int) ≤ 30:=by unfold RI; split <;> omega
  refine (Pt hc hm.1 (by omega)).bind fun r hr=>(Pt hr.1 (by omega) (by omega)).bind fun u hu=>?_
  have kx : ∀ {b : Bool},(b = true → r.1 < (x.length : Int)) → (b = true → r.1.toNat < x.length):=fun hb e=>by have:=hb e; omega
  have j5 : ∀ {l' : List Int} {a' : Int} (b : Bool),okC ⟨l',a'⟩ → (b = true → r.1 < (x.length : Int)) → Hs (Rt r x y z n l' a' b) (Rnd (fun s=>okC ⟨s.1,s.2.1⟩ ∧ (s.2.2.1.length : Int) + s.2.2.2.2.2 ≤ 20 ∧ 0 ≤ s.2.2.2.2.2) (fun s=>s.2.2.2.2.2.toNat) (l,a,x,y,z,n) fun q=>okC q.2):=by
   intro l' a' b hc' hb
   unfold Rt
   refine .cond (fun e=>(Agm hc').bind fun v hv=>.chk (by have:=hb e; omega) ((Hs.get (P:=fun _=>True) (by omega) (by have:=hb e; omega) fun _ _=>trivial).bind fun _ _=>fin _ _ _ hv.1 (by simp))) fun _=>fin _ _ _ hc' (by omega)
  have j4 : ∀ b : Bool,Hs (Rs r x u y z n b) (Rnd (fun s=>okC ⟨s.1,s.2.1⟩ ∧ (s.2.2.1.length : Int) + s.2.2.2.2.2 ≤ 20 ∧ 0 ≤ s.2.2.2.2.2) (fun s=>s.2.2.2.2.2.toNat) (l,a,x,y,z,n) fun q=>okC q.2):=by
   intro b
   unfold Rs
   refine .cond (fun _=>.dec (fun hlt=>?_) fun _=>fin _ _ _ hu.1 (by omega)) fun _=>.beq (fun _=>(Pt hu.1 (by omega) (by omega)).bind fun v hv=>fin _ _ _ hv.1 (by omega)) fun _=>.beq (fun _=>.dec (fun hlt=>(Pt hu.1 (by omega) (by omega)).bind fun v hv=>j5 _ hv.1 fun _=>hlt) fun _=>j5 false hu.1 fun e=>by cases e) fun _=>.beq (fun _=>?_) fun _=>fin _ _ _ hu.1 (by omega)
   ·refine (Pt hu.1 (n:=(x.length : Int)) (by omega) (by omega)).bind fun v hv=>.chk (by omega) ((Hs.get (P:=fun _=>True) (by omega) (by omega) fun _ _=>trivial).bind fun q _=>.chk (by omega) ((Hs.get (P:=fun _=>True) (by omega) (by omega) fun _ _=>trivial).bind fun _ _=>fin _ _ _ hv.1 (by simp)))
   ·refine (Pt hu.1 (by omega) (by omega)).bind fun v hv=>.beq (fun _=>(Agm hv.1).bind fun w hw=>fin _ _ _ hw.1 (by omega)) fun _=>.beq (fun _=>(Agm hv.1).bind fun w hw=>fin _ _ _ hw.1 (by omega)) fun _=>.beq (fun _=>(Pt hv.1 (by omega) (by omega)).bind fun w hw=>.chk (by simp; omega) (fin _ _ _ hw.1 (by simp))) fun _=>fin _ _ _ hv.1 (by omega)
  have j3 : ∀ b : Bool,Hs (QF r x u y z n b) (Rnd (fun s=>okC ⟨s.1,s.2.1⟩ ∧ (s.2.2.1.length : Int) + s.2.2.2.2.2 ≤ 20 ∧ 0 ≤ s.2.2.2.2.2) (fun s=>s.2.2.2.2.2.toNat) (l,a,x,y,z,n) fun q=>okC q.2):=by
   intro b
   unfold QF
   refine .cond (fun _=>.dec (fun hlt=>(Pt hu.1 (by omega) (by omega)).bind fun v hv=>.chk (by omega) ((Hs.get (P:=fun _=>True) (by omega) (by omega) fun _ _=>trivial).bind fun _ _=>fin _ _ _ hv.1 (by simp))) fun _=>fin _ _ _ hu.1 (by omega)) fun _=>.cond (fun _=>j4 _) fun _=>j4 _
  exact .cond (fun _=>j3 _) fun _=>.cond (fun _=>j3 _) fun _=>j3 _
 unfold TX
 rw [Ama hL.hi hL.Wd.len' hL.arg hL.slots hL.alok hL.al64,Option.bind_some]
 refine (Pt h (by omega) (by omega)).bind fun r hr=>.cond (fun _=>?_) fun _=>j1 _ _ hr.1 hbl
 refine (AnM hL.hi hL.Wd hL.defs hL.ml hlast hc hp).bind fun q _=>.cond (fun e=>j1 _ _ hr.1 ?_) fun _=>j1 _ _ hr.1 hbl
 have : (q.Layout.Off.length : Int) = ((AaP p f al).Off.length : Int):=by simpa using e
 omega
theorem AnR (codes : List Int) (hc : qL (Ra .u8) codes) : Hs (ZI codes) fun q=>okC q.2.2.2.2.2 ∧ ∃ f ps i,AdD q.1 q.2.1 f q.2.2.1 ∧ QX ps i 14 f ∧ Xy q.2.2.2.1.Out:=by
 unfold ZI
 obtain ⟨c,e1,hcok⟩:=Aqd codes 300 hc (by omega) (by omega)
 rw [e1,Option.bind_some]
 refine (AnL hcok (by omega) (by omega) (by omega) (by omega)).bind fun p hp=>?_
 obtain ⟨ps,hps,hz,hp1,hp2,hfl,hall⟩:=hp.2
 refine (Pt hp.1 (by omega) (by omega)).bind fun k hk=>?_
 have hpl : p.1.Funcs.length ≤ 1000:=by omega
 refine (Aoj hpl fun f hf=>?_).bind fun al hal=>?_
 ·obtain ⟨j,hj⟩:=List.getElem?_of_mem hf
  exact (hall j f hj).Ank
 have hix : ixO p.1.Funcs k.1 = some (p.1.Funcs[k.1.toNat]'(by omega)):=by
  rw [RW _ hk.2.1]; exact List.getElem?_eq_getElem _
 generalize (p.1.Funcs[k.1.toNat]'(by omega)) = f at hix
 have hfo : QX ps (k.1.toNat : Nat) 14 f:=hall k.1.toNat f (by rw [← RW _ hk.2.1]; exact hix)
 have hf:=hfo.Wd (by omega)
 have hL : AdD p.1 k.1 f al:=⟨hix,hfo.args (by omega) hfl hps hall,hfo.Ank,hal.1,hal.2.1,hal.2.2,hf,hfo.defs,hfo.Aqc⟩
 have hcalls : Yz p.1.Funcs.length f:=by rw [hfl]; exact hfo.calls (by omega)
 have j1 : ∀ {l : List Int} {a : Int} {x : List (List Int)},okC ⟨l,a⟩ → Xy x → Hs (Ur p k al x l a) fun q=>okC q.2.2.2.2.2 ∧ ∃ f ps i,AdD q.1 q.2.1 f q.2.2.1 ∧ QX ps i 14 f ∧ Xy q.2.2.2.1.Out:=by
  intro l a x hc hx
  unfold Ur
  exact (AnA hc hL hfo.Aqa hcalls hpl).bind fun r hr=>.pure ⟨hr,f,ps,_,hL,hfo,hx⟩
 rw [hix,Option.bind_some]
 refine (AoW hk.1 hf).bind fun l hl=>(Pt hl.1 (by omega) (by omega)).bind fun r hr=>.cond (fun _=>?_) fun _=>j1 hr.1 (hl.2.1.len hf)
 rw [Option.bind_some]
 exact (ApA hr.1 hf).bind fun l hl=>j1 hl.1 (AcW.len hf hl.2.1 hl.2.2)
abbrev Aio : OX:=OX.mk 0 ([]) ([(OZ.mk 23 0 0 0 0)] : List OZ)
abbrev Aip : Ph:=Ph.mk ([(OX.mk 0 ([]) ([(OZ.mk 23 0 0 0 0)] : List OZ))] : List OX)
theorem ApT : AdD Aip 0 Aio 16:=by
 refine ⟨by simp,fun x hx=>?_,⟨by simp,fun x hx=>by cases hx⟩,Uz 4 (by omega),by omega,by omega,⟨by simp,by simp,by simp,fun k x hx j hj=>?_,fun x hx v hv=>?_⟩,fun x hx ho=>?_,fun x hx ho=>?_⟩
 ·simp at hx; subst hx; exact ⟨fun e=>by simp at e,fun e=>by simp at e⟩
 ·match k,hx with
  | 0,hx=>simp at hx; subst hx; simp [Qi] at hj
  | n + 1,hx=>simp at hx
 ·simp at hx; subst hx; simp [PS] at hv
 ·simp at hx; subst hx; simp at ho
 ·simp at hx; subst hx; simp at ho
theorem AnX : AaP Aip Aio 16 = ⟨0,0,[]⟩:=by decide
theorem Aps : ZH = some true:=by
 have sh : ∀ y : Pe,Hs (We Aip 0 16 y) fun e=>(e = 0 ∨ e = 13) ∧ (e = 0 ↔ RN Aip Aio 16 y):=fun y=>by
  unfold We
  rw [ApT.hi,Option.bind_some]
  exact (AiD ApT y).bind fun e he=>.pure he
 have hb:=AnX
 have ha : 16 * TR Aip Aio Aio.Code.length = 0:=by decide
 obtain ⟨e1,h1,h2⟩:=sh ⟨0,0,[]⟩
 obtain ⟨e2,k1,k2⟩:=sh ⟨0,16,[]⟩
 have r1 : e1 = 0:=h2.2.2 ⟨by rw [ha],rfl,fun k hk=>absurd hk (Nat.not_lt_zero _),by decide,by decide,by rw [hb]; decide⟩
 have r2 : e2 = 13:=by
  rcases k2.1 with h | h
  ·have:=(k2.2.1 h).2.2.2.2.2
   rw [hb] at this
   exact absurd this (by decide)
  ·exact h
 subst r1 r2
 unfold ZH
 rw [h1,Option.bind_some,show ((0 : Int) == 0) = true from rfl,cond_true,k1,Option.bind_some]
 rfl
end Go.Proofs.YtnldnldmgceooaaGreatDoor
namespace Go.Proofs.YtnldnldmgceooaaGreatDoor
open Go Go.Dw Go.Proofs
abbrev Anr (f : OX) (k : Nat) : Int ⊕ Bool → Prop:=Rnd (fun i=>∃ k : Nat,i = (k : Int) ∧ k ≤ f.Code.length) (fun i=>f.Code.length - i.toNat) (k : Int) fun b=>b = true
theorem AnF {q : Ph × Int × Int × Pg × Pe × Mk} {f : OX} (hf : Py f) (hd : WB f) (hyl : q.2.2.2.2.1.Off.length = f.Slots.length) (hl : QG f q.2.2.2.1.Out)
  (hn : ∀ (k : Nat) (s : Int),k < f.Code.length → ¬ SH f q.2.2.2.1.Out q.2.2.2.2.1 k s) {k : Nat} :
  Hs (Qr f q (k : Int)) (Anr f k):=by
 have hlen:=hf.len'
 have hsl:=hf.slots
 unfold Qr
 refine .dec (fun hlt=>?_) fun _=>.lft (.pure rfl)
 have hlt : k < f.Code.length:=by omega
 have hx:=hf.at (j:=(k : Int)) (by omega) (by omega)
 have hrow:=hl.at (j:=(k : Int)) (by omega) (by omega)
 rw [Int.toNat_natCast] at hx hrow
 have hlo:=hrow.2.1.length_le
 simp only [PF,hx.1,Option.bind_some,AeJ,Aec]
 have j2 : Hs (PR (k : Int)) (Anr f k):=by
  unfold PR
  rw [Pl (by omega)]
  exact .cnt ⟨⟨k + 1,rfl,hlt⟩,by simp only; omega⟩
 by_cases hdef : (Pb f k).Op = 16 ∨ (Pb f k).Op = 17
 ·rw [if_pos hdef]
  simp only [Bool.not_true,cond_false]
  have hA:=hd _ hx.2 hdef
  obtain ⟨xA,eA,hxA⟩:=AeW (f:=f) hA.1 hA.2
  have inner : ∀ (x11 : OZ) (x12 : Int) (x13 x14 x15 : Bool),¬ ((Pb f k).Op = 17 ∧ YH q.2.2.2.2.1 (Pb f k).A = YH q.2.2.2.2.1 (Pb f k).B) → Hs (Qc f ((Pb f k).A,true) q (k : Int) (Pb f k) x11 x12 x13 x14 x15) (Anr f k):=by
   intro x11 x12 x13 x14 x15 hnm
   unfold Qc
   refine Hs.loop (fun i=>∃ j : Nat,i = (j : Int) ∧ j ≤ f.Slots.length) (fun i=>f.Slots.length - i.toNat) ⟨0,rfl,Nat.zero_le _⟩ ?_
   rintro _ ⟨j,rfl,hj⟩
   unfold Rb
   refine .dec (fun hjl=>?_) fun _=>.lft j2
   have hjl : j < f.Slots.length:=by omega
   obtain ⟨xS,eS,hxS⟩:=AeW (f:=f) (s:=(j : Int)) (by omega) (by omega)
   rw [Pl (by omega)]
   refine .bne (fun h1=>?_) fun _=>.cnt ⟨⟨j + 1,rfl,hjl⟩,by simp only; omega⟩
   rw [PF,hrow.1,Option.bind_some,Aci _ _ (by omega),Option.bind_some]
   refine .dec (fun h2=>?_) fun _=>.cnt ⟨⟨j + 1,rfl,hjl⟩,by simp only; omega⟩
   rw [Wf hyl (s:=(j : Int)) (by omega) (by omega),Option.bind_some,eS,Option.bind_some,Wf hyl hA.1 hA.2,Option.bind_some,eA,Option.bind_some,hxS,hxA,AiF,Option.bind_some]
   refine .dec (fun h3=>(hn k (j : Int) hlt ⟨hdef,hnm,h2,h1,h3⟩).elim) fun _=>.cnt ⟨⟨j + 1,rfl,hjl⟩,by simp only; omega⟩
  refine .beq (fun h17=>?_) fun h17=>inner _ _ _ _ _ fun h=>h17 h.1
  have hB:=hf.uses _ hx.2 (Pb f k).B (by simp [PS,h17])
  rw [Wf hyl hA.1 hA.2,Option.bind_some,Wf hyl hB.1 hB.2,Option.bind_some]
  exact .beq (fun _=>j2) fun h=>inner _ _ _ _ _ fun h'=>h h'.2
 ·rw [if_neg hdef]
  simp only [Bool.not_false,cond_true]
  exact j2
theorem Abz (codes : List Int) (hc : qL (Ra .u8) codes) : Hs (QI codes) fun b=>b = true:=by
 unfold QI
 rw [Aps]
 simp only [Option.bind_some,Bool.not_true,cond_false]
 refine (AnR codes hc).bind fun q ⟨_,f,ps,i,hL,hfo,hlen⟩=>?_
 have hf:=hL.Wd
 refine (AnG hL q.2.2.2.2.1 hlen).bind fun e he=>.bne (fun hne=>?_) fun h0=>?_
 ·refine (AmQ hL q.2.2.2.2.1 hlen).bind fun e' he'=>.pure ?_
  rw [← he.unique he']
  simpa using hne
 subst h0
 rw [hL.hi,Option.bind_some]
 rcases he with ⟨_,h⟩ | ⟨_,_,h⟩ | ⟨_,_,_,h⟩ | ⟨hs,ha,hn,_⟩
 ·cases h
 ·cases h
 ·cases h
 refine Hs.loop (fun i=>∃ k : Nat,i = (k : Int) ∧ k ≤ f.Code.length) (fun i=>f.Code.length - i.toNat) ⟨0,rfl,Nat.zero_le _⟩ ?_
 rintro _ ⟨k,rfl,hk⟩
 exact AnF hf hL.defs hs.2.1 ha.1 hn
theorem AaJ (codes : List Int) (hc : qL (Ra .u8) codes) : QI codes = some true:=by
 obtain ⟨r,h,rfl⟩:=Abz codes hc
 exact h
end Go.Proofs.YtnldnldmgceooaaGreatDoor
