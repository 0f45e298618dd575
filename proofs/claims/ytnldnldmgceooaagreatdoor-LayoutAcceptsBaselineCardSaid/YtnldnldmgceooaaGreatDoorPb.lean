/-
  Plain laws about the typed programs.
-/
import Derived.Test.YtnldnldmgceooaaGreatDoorPa
namespace Go.Proofs.YtnldnldmgceooaaGreatDoor
open Go Go.Dw Go.Proofs
def Yl (n : Nat) (f : OX) : Prop:=∀ x ∈ f.Code,x.Op = 22 → 0 ≤ x.A ∧ x.A < n
theorem QV.calls {ps : List Int} {i most : Int} {f : OX} (h : QV ps i most f) (hi : 0 ≤ i) : Yl ps.length f:=by
 intro x hx hop
 obtain ⟨k,hk⟩:=List.getElem?_of_mem hx
 have hkl:=(List.getElem?_eq_some_iff.1 hk).1
 by_cases hk1 : k + 1 < f.Code.length
 ·have hins:=h.body k x hk hk1
  cases hins with
  | call j h0 h1=>exact ⟨by simp only; omega,h1⟩
  | bin op a b c h1 h2 h3 h4 h5 h6=>simp only at hop; omega
  | un op a h1 h2=>simp only at hop; omega
  | _=>simp at hop
 ·have he:=h.last x (by rw [show f.Code.length - 1 = k by omega]; exact hk)
  rcases he with rfl | ⟨w,_,rfl⟩ <;> simp at hop
theorem Anj {n : Nat} {f : OX} (h : Yl n f) {keep : List Bool} {to pl : List Int} (hk : f.Code.length ≤ keep.length) : ∀ x ∈ Xn f keep to pl f.Code.length,x.Op = 22 → 0 ≤ x.A ∧ x.A < n:=by
 intro x hx hop
 obtain ⟨p,hp⟩:=List.getElem?_of_mem hx
 obtain ⟨j,h1,_,_,rfl⟩:=(Abu (f:=f) (keep:=keep) (to:=to) (pl:=pl) _ hk).2 p x hp
 have hm : Pb f (j : Nat) ∈ f.Code:=by
  have : Pb f ((j : Nat) : Int) = f.Code[j]:=by simp [Pb,h1]
  rw [this]; exact List.getElem_mem _
 have ho : (mvI pl (rnI to (Pb f (j : Nat)))).Op = (Pb f (j : Nat)).Op:=by
  refine Eq.trans ?_ (Agi to _)
  unfold mvI
  split
  ·rfl
  ·split <;> rfl
 rw [ho] at hop
 have e : mvI pl (rnI to (Pb f (j : Nat))) = Pb f (j : Nat):=by simp [mvI,rnI,hop]
 rw [e]
 exact h _ hm hop
theorem Amc {f : OX} (hf : Py f) (hd : Xp f) (hlast : Aap f) {n : Nat} (hc : Yl n f) {r : Pw} (hr : AdE f r) : Hs (VB f r) fun q=>q.2 = 0 ∧ Py q.1 ∧ Xp q.1 ∧ Yl n q.1:=by
 obtain ⟨q,e,h1,h2,h3⟩:=AmT hf hd hlast hr
 obtain ⟨q',e',_,used,to,pl,_,_,_,_,_,_,_,_,cd⟩:=AkX hf hd hr
 rw [e] at e'; cases e'
 refine ⟨q,e,h1,h2,h3,?_⟩
 unfold Yl
 rw [cd]
 exact Anj hc (by rw [hr.2.1]; exact Nat.le_refl _)
theorem AmZ {f : OX} (hf : Py f) (hd : Xp f) (hml : AdW f) {l : Pg} (hacc : Acc f l.Out) : Hs (Zv f l) fun g=>Hs (UQ f g.1) fun to=>Hs (YT f l to) fun keep=>AdE f ⟨to,keep⟩:=by
 have hlen:=hf.len'
 have hsl:=hf.slots
 refine Hs.mono (P:=Acz Acv f l.Out) ?_ fun g hg=>?_
 ·unfold Zv
  exact (AjU hf hd (hacc.1.len hf) false).bind fun r hr=>.pure hr
 rcases hg with ⟨_,_,hg⟩ | ⟨_,hn,_⟩
 rotate_left
 ·exact (hn hacc).elim
 refine (AmY hlen hsl hml hg (fun x y r s hr hs hy=>((hg.2 y s hs).2 _).2 (((hg.2 x r hr).2 _).1 hy).symm) fun x r hr hx=>?_).mono fun to hto=>?_
 ·rcases ((hg.2 x r hr).2 _).1 hx with ⟨_,_,_,_,_,_,h',_⟩ | ⟨_,_,_,_,_,_,h',_⟩ <;> exact h' rfl
 refine (Apc hf hacc.1 hml hto.ok.1).mono fun keep ⟨hkl,hkp⟩=>⟨hto.ok,hkl,fun k hk h=>?_⟩
 by_cases h1 : Ack f l.Out k
 ·exact h1.1
 ·by_cases h2 : (Pb f k).Op = 17 ∧ Pu to (Pb f k).A = Pu to (Pb f k).B
  ·exact .inr h2.1
  ·have:=(hkp k hk).2 ⟨h1,h2⟩
   rw [h] at this; cases this
theorem Anm {p : Ph} {i : Int} {f : OX} (hi : ixO p.Funcs i = some f) (hf : Py f) (hd : Xp f) (hml : AdW f) (hlast : Aap f) (hc : Yl p.Funcs.length f) (hp : p.Funcs.length ≤ 1000) : Hs (Xb p i) fun q=>AdE f q.Rename ∧ Acc f q.Live.Out:=by
 obtain ⟨i0,i1,_⟩:=Alq hi
 unfold Xb
 rw [hi,Option.bind_some]
 refine (AeR hf).bind fun l hl=>?_
 have hacc:=hl.acc hf
 refine (AmZ hf hd hml hacc).bind fun g hg=>hg.bind fun to hto=>hto.bind fun keep hr=>?_
 refine (Amc hf hd hlast hc hr).bind fun q ⟨_,qf,qd,qc⟩=>?_
 refine (AeR qf).bind fun l2 hl2=>?_
 have hacc2:=hl2.acc qf
 refine Hs.bind (P:=Acz Ahs q.1 l2.Out) ?_ fun s hs=>?_
 ·unfold AaP
  exact (AjU qf qd (hacc2.1.len qf) true).bind fun r hr=>.pure hr
 have hrows : ∀ row ∈ s.1,row.length ≤ 512:=by
  rcases hs with ⟨_,_,hs⟩ | ⟨_,hn,_⟩
  ·intro row hrow
   obtain ⟨k,hk⟩:=List.getElem?_of_mem hrow
   exact (hs.2 k row hk).1.1.length_le
  ·exact (hn hacc2).elim
 refine (AmC hi hf.len' hc).bind fun a _=>(Anw _ qf.slots hrows a).bind fun o _=>.bne (fun _=>.pure ⟨hr,hacc⟩) fun _=>?_
 have hset : ixO (p.Funcs.set i.toNat q.1) i = some q.1:=by
  rw [RS _ i0]; exact List.getElem?_set_self (by omega)
 refine Hs.bind (P:=fun r=>r = ⟨p.Funcs.set i.toNat q.1⟩) ?_ fun r hr'=>?_
 ·unfold Acq ZO
  refine Hs.bind (P:=fun r=>r = ⟨p.Funcs.set i.toNat q.1⟩) (.chk (by simp; omega) (.chk (by simp; omega) ((Hs.get (P:=fun _=>True) i0 (by simp; omega) fun _ _=>trivial).bind fun _ _=>.pure (by simp)))) fun r h=>.pure h
 subst hr'
 exact (AnM p hp).bind fun al _=>(AnC hset qf.len' qf.slots (by simpa [Yl] using qc) al _).bind fun y _=>.pure ⟨hr,hacc⟩
end Go.Proofs.YtnldnldmgceooaaGreatDoor
namespace Go.Proofs.YtnldnldmgceooaaGreatDoor
open Go Go.Dw Go.Proofs
theorem Vv.max {a b : Int} (ha : Vv a) (hb : Vv b) : Vv (RH a b):=by unfold RH; split <;> assumption
theorem AnX {s : List Po} (h : Aaa s) : Hs (Vx s) fun a=>Vv a ∧ 16 ≤ a ∧ a ≤ 64:=by
 have a16 : Vv 16:=Up 4 (by omega)
 have hl:=h.1
 unfold Vx
 refine (Agj s).bind fun e he=>.bne (fun _=>.pure ⟨a16,by omega,by omega⟩) fun _=>?_
 refine Hs.loop (fun q=>∃ k : Nat,q.2 = (k : Int) ∧ k ≤ s.length ∧ Vv q.1 ∧ 16 ≤ q.1 ∧ q.1 ≤ 64) (fun q=>s.length - q.2.toNat) ⟨0,rfl,Nat.zero_le _,a16,by simp only; omega,by simp only; omega⟩ ?_
 rintro ⟨a,_⟩ ⟨k,rfl,hk,h1,h2,h3⟩
 replace h2 : 16 ≤ a:=h2
 replace h3 : a ≤ 64:=h3
 unfold VX
 dsimp only
 refine .dec (fun hlt=>?_) fun _=>.lft (.pure ⟨h1,h2,h3⟩)
 have hlt : k < s.length:=by omega
 rw [Pl (by omega)]
 refine (Hs.ix (by omega) (by omega) fun x hx=>h.2 x (List.mem_of_getElem? hx)).bind fun x hx=>.cnt ⟨⟨k + 1,rfl,hlt,h1.max hx.1,?_,?_⟩,by simp only; omega⟩
 ·have:=hx.2.1; simp only; unfold RH; split <;> omega
 ·have:=hx.2.1; simp only; unfold RH; split <;> omega
theorem AnL {p : Ph} (hp : p.Funcs.length ≤ 1000) (h : ∀ f ∈ p.Funcs,Aaa f.Slots) : Hs (Uc p) fun a=>Vv a ∧ 16 ≤ a ∧ a ≤ 64:=by
 have a16 : Vv 16:=Up 4 (by omega)
 unfold Uc
 refine Hs.loop (fun q=>∃ k : Nat,q.2 = (k : Int) ∧ k ≤ p.Funcs.length ∧ Vv q.1 ∧ 16 ≤ q.1 ∧ q.1 ≤ 64) (fun q=>p.Funcs.length - q.2.toNat) ⟨0,rfl,Nat.zero_le _,a16,by simp only; omega,by simp only; omega⟩ ?_
 rintro ⟨a,_⟩ ⟨k,rfl,hk,h1,h2,h3⟩
 replace h2 : 16 ≤ a:=h2
 replace h3 : a ≤ 64:=h3
 unfold Wc
 dsimp only
 refine .dec (fun hlt=>?_) fun _=>.lft (.pure ⟨h1,h2,h3⟩)
 have hlt : k < p.Funcs.length:=by omega
 rw [Pl (by omega)]
 refine (Hs.ix (by omega) (by omega) fun x hx=>h x (List.mem_of_getElem? hx)).bind fun x hx=>(AnX hx).bind fun b hb=>.cnt ⟨⟨k + 1,rfl,hlt,h1.max hb.1,?_,?_⟩,by simp only; omega⟩
 ·simp only; unfold RH; split <;> omega
 ·simp only; unfold RH; split <;> omega
theorem QV.args {ps : List Int} {i most : Int} {f : OX} (h : QV ps i most f) (hi : 0 ≤ i) {p : Ph} (hl : p.Funcs.length = ps.length) (hps : AhQ ps) (hall : ∀ (j : Nat) g,p.Funcs[j]? = some g → QV ps j most g) : AeD p f:=by
 intro x hx
 obtain ⟨k,hk⟩:=List.getElem?_of_mem hx
 have hkl:=(List.getElem?_eq_some_iff.1 hk).1
 by_cases hk1 : k + 1 < f.Code.length
 ·have hins:=h.body k x hk hk1
  cases hins with
  | call j h0 h1 =>
   refine ⟨fun e=>by simp at e,fun _=>⟨by simp only; omega,?_⟩⟩
   have hg : p.Funcs[j.toNat]? = some (p.Funcs[j.toNat]'(by omega)):=List.getElem?_eq_getElem _
   have:=(hall _ _ hg).par
   exact ⟨_,hg,hps.1 _ (List.mem_of_getElem? this)⟩
  | arg a b h0 h1 h2=>exact ⟨fun _=>⟨h0,h1⟩,fun e=>by simp at e⟩
  | bin op a b c h1 h2 h3 h4 h5 h6=>exact ⟨fun e=>by simp only at e; omega,fun e=>by simp only at e; omega⟩
  | un op a h1 h2=>exact ⟨fun e=>by simp only at e; omega,fun e=>by simp only at e; omega⟩
  | _=>exact ⟨fun e=>by simp at e,fun e=>by simp at e⟩
 ·have he:=h.last x (by rw [show f.Code.length - 1 = k by omega]; exact hk)
  rcases he with rfl | ⟨w,_,rfl⟩ <;> exact ⟨fun e=>by simp at e,fun e=>by simp at e⟩
theorem Anb {c : Mk} (h : okC c) {p : Ph} {i : Int} {f : OX} {al : Int} (hL : Acl p i f al) (hlast : Aap f) (hc : Yl p.Funcs.length f) (hp : p.Funcs.length ≤ 1000) : Hs (TO c p i al) fun q=>okC q.2:=by
 have hr:=XN hL.arg (k:=f.Code.length) (Nat.le_refl _)
 have hbl : (Rp p f al).Off.length ≤ 6:=by
  have:=(Acw hL.slots (a:=16 * Qb p f f.Code.length) (by omega) (k:=f.Slots.length) (Nat.le_refl _)).1
  have:=hL.slots.1
  simp only [Rp]; omega
 have j1 : ∀ {l : List Int} {a : Int} (y z : Int) {x : List Int},okC ⟨l,a⟩ → x.length ≤ 6 → Hs (QC l a y z x) fun q=>okC q.2:=by
  intro l a y z x hc hx
  unfold QC
  refine .chk (by simp; omega) ((Pt hc (by omega) (by omega)).bind fun r hr=>?_)
  refine Hs.loop (fun s=>okC ⟨s.1,s.2.1⟩ ∧ (s.2.2.1.length : Int) + s.2.2.2.2.2 ≤ 20 ∧ 0 ≤ s.2.2.2.2.2) (fun s=>s.2.2.2.2.2.toNat) ⟨hr.1,by simp only [List.nil_append]; omega,hr.2.1⟩ ?_
  rintro ⟨l,a,x,y,z,n⟩ ⟨hc,hx,hn0⟩
  replace hx : (x.length : Int) + n ≤ 20:=hx
  replace hn0 : 0 ≤ n:=hn0
  have w : IntKind.i64.wrap (n - 1) = n - 1:=wrap64 (by omega) (by omega)
  unfold TW
  dsimp only
  refine .dec (fun hp=>?_) fun _=>.lft (.pure hc)
  have hp : 0 < n:=hp
  have fin : ∀ {l' : List Int} {a' : Int} (x' : List Int) (y' z' : Int),okC ⟨l',a'⟩ → x'.length ≤ x.length + 1 → Hs (cnt (l',a',x',y',z',IntKind.i64.wrap (n - 1)) : Option ((List Int × Int × List Int × Int × Int × Int) ⊕ (Pe × Mk))) (Rnd (fun s=>okC ⟨s.1,s.2.1⟩ ∧ (s.2.2.1.length : Int) + s.2.2.2.2.2 ≤ 20 ∧ 0 ≤ s.2.2.2.2.2) (fun s=>s.2.2.2.2.2.toNat) (l,a,x,y,z,n) fun q=>okC q.2):=by
   intro l' a' x' y' z' hc' hx'
   rw [w]
   exact .cnt ⟨⟨hc',by simp only; omega,by simp only; omega⟩,by simp only; omega⟩
  have hm : 1 ≤ RH 1 (x.length : Int) ∧ RH 1 (x.length : Int) ≤ 30:=by unfold RH; split <;> omega
  refine (Pt hc hm.1 (by omega)).bind fun r hr=>(Pt hr.1 (by omega) (by omega)).bind fun u hu=>?_
  have kx : ∀ {b : Bool},(b = true → r.1 < (x.length : Int)) → (b = true → r.1.toNat < x.length):=fun hb e=>by have:=hb e; omega
  have j5 : ∀ {l' : List Int} {a' : Int} (b : Bool),okC ⟨l',a'⟩ → (b = true → r.1 < (x.length : Int)) → Hs (Rs r x y z n l' a' b) (Rnd (fun s=>okC ⟨s.1,s.2.1⟩ ∧ (s.2.2.1.length : Int) + s.2.2.2.2.2 ≤ 20 ∧ 0 ≤ s.2.2.2.2.2) (fun s=>s.2.2.2.2.2.toNat) (l,a,x,y,z,n) fun q=>okC q.2):=by
   intro l' a' b hc' hb
   unfold Rs
   refine .cond (fun e=>(AfN hc').bind fun v hv=>.chk (by have:=hb e; omega) ((Hs.get (P:=fun _=>True) (by omega) (by have:=hb e; omega) fun _ _=>trivial).bind fun _ _=>fin _ _ _ hv.1 (by simp))) fun _=>fin _ _ _ hc' (by omega)
  have j4 : ∀ b : Bool,Hs (Rr r x u y z n b) (Rnd (fun s=>okC ⟨s.1,s.2.1⟩ ∧ (s.2.2.1.length : Int) + s.2.2.2.2.2 ≤ 20 ∧ 0 ≤ s.2.2.2.2.2) (fun s=>s.2.2.2.2.2.toNat) (l,a,x,y,z,n) fun q=>okC q.2):=by
   intro b
   unfold Rr
   refine .cond (fun _=>.dec (fun hlt=>?_) fun _=>fin _ _ _ hu.1 (by omega)) fun _=>.beq (fun _=>(Pt hu.1 (by omega) (by omega)).bind fun v hv=>fin _ _ _ hv.1 (by omega)) fun _=>.beq (fun _=>.dec (fun hlt=>(Pt hu.1 (by omega) (by omega)).bind fun v hv=>j5 _ hv.1 fun _=>hlt) fun _=>j5 false hu.1 fun e=>by cases e) fun _=>.beq (fun _=>?_) fun _=>fin _ _ _ hu.1 (by omega)
   ·refine (Pt hu.1 (n:=(x.length : Int)) (by omega) (by omega)).bind fun v hv=>.chk (by omega) ((Hs.get (P:=fun _=>True) (by omega) (by omega) fun _ _=>trivial).bind fun q _=>.chk (by omega) ((Hs.get (P:=fun _=>True) (by omega) (by omega) fun _ _=>trivial).bind fun _ _=>fin _ _ _ hv.1 (by simp)))
   ·refine (Pt hu.1 (by omega) (by omega)).bind fun v hv=>.beq (fun _=>(AfN hv.1).bind fun w hw=>fin _ _ _ hw.1 (by omega)) fun _=>.beq (fun _=>(AfN hv.1).bind fun w hw=>fin _ _ _ hw.1 (by omega)) fun _=>.beq (fun _=>(Pt hv.1 (by omega) (by omega)).bind fun w hw=>.chk (by simp; omega) (fin _ _ _ hw.1 (by simp))) fun _=>fin _ _ _ hv.1 (by omega)
  have j3 : ∀ b : Bool,Hs (QD r x u y z n b) (Rnd (fun s=>okC ⟨s.1,s.2.1⟩ ∧ (s.2.2.1.length : Int) + s.2.2.2.2.2 ≤ 20 ∧ 0 ≤ s.2.2.2.2.2) (fun s=>s.2.2.2.2.2.toNat) (l,a,x,y,z,n) fun q=>okC q.2):=by
   intro b
   unfold QD
   refine .cond (fun _=>.dec (fun hlt=>(Pt hu.1 (by omega) (by omega)).bind fun v hv=>.chk (by omega) ((Hs.get (P:=fun _=>True) (by omega) (by omega) fun _ _=>trivial).bind fun _ _=>fin _ _ _ hv.1 (by simp))) fun _=>fin _ _ _ hu.1 (by omega)) fun _=>.cond (fun _=>j4 _) fun _=>j4 _
  exact .cond (fun _=>j3 _) fun _=>.cond (fun _=>j3 _) fun _=>j3 _
 unfold TO
 rw [AlB hL.hi hL.Abp.len' hL.arg hL.slots hL.alok hL.al64,Option.bind_some]
 refine (Pt h (by omega) (by omega)).bind fun r hr=>.cond (fun _=>?_) fun _=>j1 _ _ hr.1 hbl
 refine (Anm hL.hi hL.Abp hL.defs hL.ml hlast hc hp).bind fun q _=>.cond (fun e=>j1 _ _ hr.1 ?_) fun _=>j1 _ _ hr.1 hbl
 have : (q.Layout.Off.length : Int) = ((Rp p f al).Off.length : Int):=by simpa using e
 omega
theorem Anr (codes : List Int) (hc : qL (QY .u8) codes) : Hs (Zn codes) fun q=>okC q.2.2.2.2.2 ∧ ∃ f ps i,Acl q.1 q.2.1 f q.2.2.1 ∧ QV ps i 14 f ∧ ZC q.2.2.2.1.Out:=by
 unfold Zn
 obtain ⟨c,e1,hcok⟩:=ApJ codes 300 hc (by omega) (by omega)
 rw [e1,Option.bind_some]
 refine (Anl hcok (by omega) (by omega) (by omega) (by omega)).bind fun p hp=>?_
 obtain ⟨ps,hps,hz,hp1,hp2,hfl,hall⟩:=hp.2
 refine (Pt hp.1 (by omega) (by omega)).bind fun k hk=>?_
 have hpl : p.1.Funcs.length ≤ 1000:=by omega
 refine (AnL hpl fun f hf=>?_).bind fun al hal=>?_
 ·obtain ⟨j,hj⟩:=List.getElem?_of_mem hf
  exact (hall j f hj).AmL
 have hix : ixO p.1.Funcs k.1 = some (p.1.Funcs[k.1.toNat]'(by omega)):=by
  rw [RS _ hk.2.1]; exact List.getElem?_eq_getElem _
 generalize (p.1.Funcs[k.1.toNat]'(by omega)) = f at hix
 have hfo : QV ps (k.1.toNat : Nat) 14 f:=hall k.1.toNat f (by rw [← RS _ hk.2.1]; exact hix)
 have hf:=hfo.Abp (by omega)
 have hL : Acl p.1 k.1 f al:=⟨hix,hfo.args (by omega) hfl hps hall,hfo.AmL,hal.1,hal.2.1,hal.2.2,hf,hfo.defs,hfo.ApI⟩
 have hcalls : Yl p.1.Funcs.length f:=by rw [hfl]; exact hfo.calls (by omega)
 have j1 : ∀ {l : List Int} {a : Int} {x : List (List Int)},okC ⟨l,a⟩ → ZC x → Hs (Ui p k al x l a) fun q=>okC q.2.2.2.2.2 ∧ ∃ f ps i,Acl q.1 q.2.1 f q.2.2.1 ∧ QV ps i 14 f ∧ ZC q.2.2.2.1.Out:=by
  intro l a x hc hx
  unfold Ui
  exact (Anb hc hL hfo.ApG hcalls hpl).bind fun r hr=>.pure ⟨hr,f,ps,_,hL,hfo,hx⟩
 rw [hix,Option.bind_some]
 refine (Alv hk.1 hf).bind fun l hl=>(Pt hl.1 (by omega) (by omega)).bind fun r hr=>.cond (fun _=>?_) fun _=>j1 hr.1 (hl.2.1.len hf)
 rw [Option.bind_some]
 exact (Ape hr.1 hf).bind fun l hl=>j1 hl.1 (AcB.len hf hl.2.1 hl.2.2)
abbrev AhR : OX:=OX.mk 0 ([]) ([(OZ.mk 23 0 0 0 0)] : List OZ)
abbrev AhS : Ph:=Ph.mk ([(OX.mk 0 ([]) ([(OZ.mk 23 0 0 0 0)] : List OZ))] : List OX)
theorem Apz : Acl AhS 0 AhR 16:=by
 refine ⟨by simp,fun x hx=>?_,⟨by simp,fun x hx=>by cases hx⟩,Up 4 (by omega),by omega,by omega,⟨by simp,by simp,by simp,fun k x hx j hj=>?_,fun x hx v hv=>?_⟩,fun x hx ho=>?_,fun x hx ho=>?_⟩
 ·simp at hx; subst hx; exact ⟨fun e=>by simp at e,fun e=>by simp at e⟩
 ·match k,hx with
  | 0,hx=>simp at hx; subst hx; simp [Qg] at hj
  | n + 1,hx=>simp at hx
 ·simp at hx; subst hx; simp [PW] at hv
 ·simp at hx; subst hx; simp at ho
 ·simp at hx; subst hx; simp at ho
theorem Anx : Rp AhS AhR 16 = ⟨0,0,[]⟩:=by decide
theorem AoV : Zm = some true:=by
 have sh : ∀ y : Pe,Hs (VW AhS 0 16 y) fun e=>(e = 0 ∨ e = 13) ∧ (e = 0 ↔ Tu AhS AhR 16 y):=fun y=>by
  unfold VW
  rw [Apz.hi,Option.bind_some]
  exact (Aig Apz y).bind fun e he=>.pure he
 have hb:=Anx
 have ha : 16 * Qb AhS AhR AhR.Code.length = 0:=by decide
 obtain ⟨e1,h1,h2⟩:=sh ⟨0,0,[]⟩
 obtain ⟨e2,k1,k2⟩:=sh ⟨0,16,[]⟩
 have r1 : e1 = 0:=h2.2.2 ⟨by rw [ha],rfl,fun k hk=>absurd hk (Nat.not_lt_zero _),by decide,by decide,by rw [hb]; decide⟩
 have r2 : e2 = 13:=by
  rcases k2.1 with h | h
  ·have:=(k2.2.1 h).2.2.2.2.2
   rw [hb] at this
   exact absurd this (by decide)
  ·exact h
 subst r1 r2
 unfold Zm
 rw [h1,Option.bind_some,show ((0 : Int) == 0) = true from rfl,cond_true,k1,Option.bind_some]
 rfl
end Go.Proofs.YtnldnldmgceooaaGreatDoor
namespace Go.Proofs.YtnldnldmgceooaaGreatDoor
open Go Go.Dw Go.Proofs
theorem AiZ {s : List Po} {a : Int} : ∀ {k : Nat},k ≤ s.length → (plK s a k).1.length = k
 | 0,_=>by simp [plK]
 | k + 1,hk=>by
  have ih:=AiZ (s:=s) (a:=a) (k:=k) (by omega)
  rw [Abv hk]
  simp [AaE,ih]
theorem AmJ {s : List Po} {a : Int} {j : Nat} (hj : j < s.length) : ∀ {k : Nat},j < k → k ≤ s.length → (plK s a k).1[j]? = some (upN (plK s a j).2 s[j].Align)
 | 0,h,_=>absurd h (Nat.not_lt_zero _)
 | k + 1,h,hk=>by
  rw [Abv hk]
  have hl:=AiZ (a:=a) (show k ≤ s.length by omega)
  unfold AaE
  by_cases e : j = k
  ·subst e
   rw [List.getElem?_append_right (by omega),hl,Nat.sub_self]; rfl
  ·rw [List.getElem?_append_left (by omega)]
   exact AmJ hj (by omega) (by omega)
theorem AmI {s : List Po} {a : Int} {j : Nat} (hj : j < s.length) : (plK s a (j + 1)).2 = upN (plK s a j).2 s[j].Align + s[j].Size:=by rw [Abv hj]; rfl
theorem AcN {s : List Po} (h : Aaa s) {a : Int} {j : Nat} : ∀ {k : Nat},j ≤ k → k ≤ s.length → (plK s a j).2 ≤ (plK s a k).2
 | 0,h,_=>by rw [show j = 0 by omega]; exact Int.le_refl _
 | k + 1,hjk,hk=>by
  by_cases e : j = k + 1
  ·subst e; exact Int.le_refl _
  have ih:=AcN h (a:=a) (j:=j) (k:=k) (by omega) (by omega)
  obtain ⟨h1,h2,h3,h4⟩:=h.2 _ (List.getElem_mem hk)
  obtain ⟨u1,u2,_⟩:=Uf (n:=(plK s a k).2) (a:=s[k].Align) (by have:=h1.rng; omega)
  rw [AmI hk]
  omega
section
variable {p : Ph} {i : Int} {f : OX} {al : Int} (h : Acl p i f al)
include h
theorem AjI : (plK f.Slots (16 * Qb p f f.Code.length) f.Slots.length).2 ≤ (Rp p f al).Size ∧ (Rp p f al).Size < (plK f.Slots (16 * Qb p f f.Code.length) f.Slots.length).2 + al ∧ (Rp p f al).Size.tmod al = 0 ∧ 0 ≤ 16 * Qb p f f.Code.length ∧ 16 * Qb p f f.Code.length ≤ (plK f.Slots (16 * Qb p f f.Code.length) f.Slots.length).2 ∧ (Rp p f al).Size ≤ 1000:=by
 have hr:=XN h.arg (k:=f.Code.length) (Nat.le_refl _)
 have hsl:=h.slots.1
 have h16:=h.al16
 have h64:=h.al64
 have hp:=Acw h.slots (a:=16 * Qb p f f.Code.length) (by omega) (Nat.le_refl _)
 obtain ⟨u1,u2,u3⟩:=Uf (n:=(plK f.Slots (16 * Qb p f f.Code.length) f.Slots.length).2) (a:=al) (by omega)
 refine ⟨u1,u2,?_,by omega,hp.2.1,?_⟩
 ·show (upN _ al).tmod al = 0
  rw [Int.tmod_eq_emod_of_nonneg (by omega)]
  exact u3
 ·show upN _ al ≤ 1000
  omega
theorem Ahc {k : Nat} (hk : k < f.Slots.length) : ∃ o,(Rp p f al).Off[k]? = some o ∧ (plK f.Slots (16 * Qb p f f.Code.length) k).2 ≤ o ∧ o + f.Slots[k].Size = (plK f.Slots (16 * Qb p f f.Code.length) (k + 1)).2 ∧ o.tmod f.Slots[k].Align = 0:=by
 have hr:=XN h.arg (k:=f.Code.length) (Nat.le_refl _)
 have hp:=Acw h.slots (a:=16 * Qb p f f.Code.length) (by omega) (show k ≤ f.Slots.length by omega)
 obtain ⟨h1,h2,h3,h4⟩:=h.slots.2 _ (List.getElem_mem hk)
 obtain ⟨u1,u2,u3⟩:=Uf (n:=(plK f.Slots (16 * Qb p f f.Code.length) k).2) (a:=f.Slots[k].Align) (by have:=h1.rng; omega)
 refine ⟨_,AmJ hk hk (Nat.le_refl _),u1,(AmI hk).symm,?_⟩
 rw [Int.tmod_eq_emod_of_nonneg (by omega)]
 exact u3
theorem AmW : Tu p f al (Rp p f al):=by
 obtain ⟨b1,b2,b3,b4,b5,b6⟩:=AjI h
 refine ⟨rfl,AiZ (Nat.le_refl _),fun k hk=>?_,b3,?_,Int.le_refl _⟩
 ·obtain ⟨o,e1,e2,e3,e4⟩:=Ahc h hk
  have m1:=AcN h.slots (a:=16 * Qb p f f.Code.length) (j:=0) (k:=k) (by omega) (by omega)
  have m2:=AcN h.slots (a:=16 * Qb p f f.Code.length) (j:=k + 1) (k:=f.Slots.length) hk (Nat.le_refl _)
  have m0 : (plK f.Slots (16 * Qb p f f.Code.length) 0).2 = 16 * Qb p f f.Code.length:=rfl
  have hs:=(h.slots.2 _ (List.getElem_mem hk)).2.2
  refine ⟨o,f.Slots[k],e1,List.getElem?_eq_getElem _,?_,e4,⟨?_,?_⟩⟩
  ·show 16 * Qb p f f.Code.length ≤ o
   omega
  ·refine ⟨?_,?_,?_,?_,?_⟩ <;> simp only <;> omega
  ·simp only; omega
 ·show 16 * Qb p f f.Code.length ≤ _
  omega
theorem AjH {s : Int} (h0 : 0 ≤ s) (h1 : s < f.Slots.length) : (plK f.Slots (16 * Qb p f f.Code.length) s.toNat).2 ≤ Wv (Rp p f al) s ∧ Wv (Rp p f al) s + QF f s = (plK f.Slots (16 * Qb p f f.Code.length) (s.toNat + 1)).2:=by
 obtain ⟨o,e1,e2,e3,_⟩:=Ahc h (k:=s.toNat) (by omega)
 have ho : Wv (Rp p f al) s = o:=by unfold Wv; rw [e1]; rfl
 have hs : QF f s = (f.Slots[s.toNat]'(by omega)).Size:=(Acr (List.getElem?_eq_getElem _)).symm
 rw [ho,hs]
 exact ⟨e2,e3⟩
theorem AmV {s t : Int} (hs0 : 0 ≤ s) (hs1 : s < f.Slots.length) (ht0 : 0 ≤ t) (ht1 : t < f.Slots.length) (hst : s ≠ t) : ¬ Adi ⟨Wv (Rp p f al) s,QF f s⟩ ⟨Wv (Rp p f al) t,QF f t⟩:=by
 rintro ⟨_,_,_,_,h1,h2⟩
 have a1:=AjH h hs0 hs1
 have a2:=AjH h ht0 ht1
 simp only at h1 h2
 by_cases hlt : s < t
 ·have:=AcN h.slots (a:=16 * Qb p f f.Code.length) (j:=s.toNat + 1) (k:=t.toNat) (by omega) (by omega)
  omega
 ·have:=AcN h.slots (a:=16 * Qb p f f.Code.length) (j:=t.toNat + 1) (k:=s.toNat) (by omega) (by omega)
  omega
theorem AoW {l : List (List Int)} (hl : QX f l) {k : Nat} {s : Int} (hk : k < f.Code.length) : ¬ US f l (Rp p f al) k s:=by
 rintro ⟨hdef,_,hm,hne,ho⟩
 have hx:=h.Abp.at (j:=(k : Int)) (by omega) (by omega)
 have hrow:=hl.at (j:=(k : Int)) (by omega) (by omega)
 rw [Int.toNat_natCast] at hx hrow
 have hA:=h.defs _ hx.2 hdef
 exact AmV h (hrow.2.1.2 s hm).1 (hrow.2.2 s hm) hA.1 hA.2 hne ho
end
theorem Aaz (codes : List Int) (hc : qL (QY .u8) codes) : Hs (Qx codes) fun b=>b = true:=by
 unfold Qx
 rw [AoV]
 simp only [Option.bind_some,Bool.not_true,cond_false]
 refine (Anr codes hc).bind fun q ⟨hok,f,ps,i,hL,hfo,hlen⟩=>?_
 have hf:=hL.Abp
 have h16:=hL.al16
 have h64:=hL.al64
 obtain ⟨b1,b2,b3,b4,b5,b6⟩:=AjI hL
 have hsh:=AmW hL
 rw [hL.hi,Option.bind_some]
 refine (Alv hok hf).bind fun l hl=>?_
 have hll:=hl.2.1.len hf
 rw [AlB hL.hi hf.len' hL.arg hL.slots hL.alok hL.al64,Option.bind_some]
 simp only [bne_self_eq_false,cond_false]
 refine (AeO hL _ hll).bind fun e he=>.bne (fun hne=>?_) fun _=>?_
 ·rcases he with ⟨h1,_⟩ | ⟨_,h1,_⟩ | ⟨_,_,⟨k,s,hk,h1⟩,_⟩ | ⟨_,_,_,h⟩
  ·exact (h1 hsh).elim
  ·exact (h1 hl.2).elim
  ·exact (AoW hL hl.2.1 hk h1).elim
  ·exact (hne h).elim
 refine (AeO hL _ hll).bind fun e he=>.bne (fun hne=>?_) fun _=>?_
 ·rcases he with ⟨_,h⟩ | ⟨h1,_⟩ | ⟨h1,_⟩ | ⟨h1,_⟩
  ·exact (hne h).elim
  all_goals
   have:=h1.2.2.2.2.2
   simp only at this
   rw [wrap64 (by omega) (by omega)] at this
   omega
 unfold QW
 refine (AeO hL _ hll).bind fun e he=>.pure ?_
 have no : ¬ Tu q.1 f q.2.2.1 (Pe.mk (Rp q.1 f q.2.2.1).Args (IntKind.i64.wrap ((Rp q.1 f q.2.2.1).Size - q.2.2.1)) (Rp q.1 f q.2.2.1).Off):=by
  rintro ⟨_,_,h3,_,h5,_⟩
  simp only at h5
  rw [wrap64 (by omega) (by omega)] at h3 h5
  have m0 : (plK f.Slots (16 * Qb q.1 f f.Code.length) 0).2 = 16 * Qb q.1 f f.Code.length:=rfl
  have mA : (Rp q.1 f q.2.2.1).Args = 16 * Qb q.1 f f.Code.length:=rfl
  by_cases hz : f.Slots.length = 0
  ·rw [hz,m0] at b2
   omega
  ·obtain ⟨o,s,e1,e2,_,_,e3⟩:=h3 (f.Slots.length - 1) (by omega)
   obtain ⟨o',e1',_,e3',_⟩:=Ahc hL (k:=f.Slots.length - 1) (by omega)
   simp only at e1
   rw [e1'] at e1; cases e1
   rw [List.getElem?_eq_getElem (by omega)] at e2
   have e2:=congrArg Po.Size (Option.some.inj e2)
   rw [show f.Slots.length - 1 + 1 = f.Slots.length by omega] at e3'
   have:=e3.2
   simp only at this
   rw [← e2] at this
   omega
 rcases he with ⟨_,rfl⟩ | ⟨h1,_⟩ | ⟨h1,_⟩ | ⟨h1,_⟩
 ·rfl
 all_goals exact (no h1).elim
theorem ZY (codes : List Int) (hc : qL (QY .u8) codes) : Qx codes = some true:=by
 obtain ⟨r,h,rfl⟩:=Aaz codes hc
 exact h
end Go.Proofs.YtnldnldmgceooaaGreatDoor
