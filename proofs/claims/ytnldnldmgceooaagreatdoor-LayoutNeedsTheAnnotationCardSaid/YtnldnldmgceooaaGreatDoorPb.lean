/-
  Plain laws about the typed programs.
-/
import Derived.Test.YtnldnldmgceooaaGreatDoorPa
namespace Go.Proofs.YtnldnldmgceooaaGreatDoor
open Go Go.Dw Go.Proofs
def Yh (n : Nat) (f : OX) : Prop:=∀ x ∈ f.Code,x.Op = 22 → 0 ≤ x.A ∧ x.A < n
theorem QT.calls {ps : List Int} {i most : Int} {f : OX} (h : QT ps i most f) (hi : 0 ≤ i) : Yh ps.length f:=by
 intro x hx hop
 obtain ⟨k,hk⟩:=List.getElem?_of_mem hx
 have hkl:=(List.getElem?_eq_some_iff.1 hk).1
 by_cases hk1 : k + 1 < f.Code.length
 ·have hins:=h.body k x hk hk1
  cases hins with
  | call j h0 h1=>exact ⟨by simp only; omega,h1⟩
  | bin op a b c h1 h2 h3 h4 h5 h6=>simp only at hop; omega
  | un op a h1 h2=>simp only at hop; omega
  | _=>simp at hop
 ·have he:=h.last x (by rw [show f.Code.length - 1 = k by omega]; exact hk)
  rcases he with rfl | ⟨w,_,rfl⟩ <;> simp at hop
theorem AmX {n : Nat} {f : OX} (h : Yh n f) {keep : List Bool} {to pl : List Int} (hk : f.Code.length ≤ keep.length) : ∀ x ∈ Xk f keep to pl f.Code.length,x.Op = 22 → 0 ≤ x.A ∧ x.A < n:=by
 intro x hx hop
 obtain ⟨p,hp⟩:=List.getElem?_of_mem hx
 obtain ⟨j,h1,_,_,rfl⟩:=(Abo (f:=f) (keep:=keep) (to:=to) (pl:=pl) _ hk).2 p x hp
 have hm : Pb f (j : Nat) ∈ f.Code:=by
  have : Pb f ((j : Nat) : Int) = f.Code[j]:=by simp [Pb,h1]
  rw [this]; exact List.getElem_mem _
 have ho : (mvI pl (rnI to (Pb f (j : Nat)))).Op = (Pb f (j : Nat)).Op:=by
  refine Eq.trans ?_ (Agc to _)
  unfold mvI
  split
  ·rfl
  ·split <;> rfl
 rw [ho] at hop
 have e : mvI pl (rnI to (Pb f (j : Nat))) = Pb f (j : Nat):=by simp [mvI,rnI,hop]
 rw [e]
 exact h _ hm hop
theorem AlU {f : OX} (hf : Py f) (hd : Xm f) (hlast : Aan f) {n : Nat} (hc : Yh n f) {r : Pw} (hr : Adx f r) : Hs (Vw f r) fun q=>q.2 = 0 ∧ Py q.1 ∧ Xm q.1 ∧ Yh n q.1:=by
 obtain ⟨q,e,h1,h2,h3⟩:=AmK hf hd hlast hr
 obtain ⟨q',e',_,used,to,pl,_,_,_,_,_,_,_,_,cd⟩:=AkR hf hd hr
 rw [e] at e'; cases e'
 refine ⟨q,e,h1,h2,h3,?_⟩
 unfold Yh
 rw [cd]
 exact AmX hc (by rw [hr.2.1]; exact Nat.le_refl _)
theorem AmO {f : OX} (hf : Py f) (hd : Xm f) (hml : AdP f) {l : Pg} (hacc : Acc f l.Out) : Hs (Zv f l) fun g=>Hs (UN f g.1) fun to=>Hs (YR f l to) fun keep=>Adx f ⟨to,keep⟩:=by
 have hlen:=hf.len'
 have hsl:=hf.slots
 refine Hs.mono (P:=Acp Acm f l.Out) ?_ fun g hg=>?_
 ·unfold Zv
  exact (AjO hf hd (hacc.1.len hf) false).bind fun r hr=>.pure hr
 rcases hg with ⟨_,_,hg⟩ | ⟨_,hn,_⟩
 rotate_left
 ·exact (hn hacc).elim
 refine (AmN hlen hsl hml hg (fun x y r s hr hs hy=>((hg.2 y s hs).2 _).2 (((hg.2 x r hr).2 _).1 hy).symm) fun x r hr hx=>?_).mono fun to hto=>?_
 ·rcases ((hg.2 x r hr).2 _).1 hx with ⟨_,_,_,_,_,_,h',_⟩ | ⟨_,_,_,_,_,_,h',_⟩ <;> exact h' rfl
 refine (AoR hf hacc.1 hml hto.ok.1).mono fun keep ⟨hkl,hkp⟩=>⟨hto.ok,hkl,fun k hk h=>?_⟩
 by_cases h1 : Acd f l.Out k
 ·exact h1.1
 ·by_cases h2 : (Pb f k).Op = 17 ∧ Pu to (Pb f k).A = Pu to (Pb f k).B
  ·exact .inr h2.1
  ·have:=(hkp k hk).2 ⟨h1,h2⟩
   rw [h] at this; cases this
theorem Ana {p : Ph} {i : Int} {f : OX} (hi : ixO p.Funcs i = some f) (hf : Py f) (hd : Xm f) (hml : AdP f) (hlast : Aan f) (hc : Yh p.Funcs.length f) (hp : p.Funcs.length ≤ 1000) : Hs (WY p i) fun q=>Adx f q.Rename ∧ Acc f q.Live.Out:=by
 obtain ⟨i0,i1,_⟩:=Alj hi
 unfold WY
 rw [hi,Option.bind_some]
 refine (AcN hf).bind fun l hl=>?_
 have hacc:=hl.acc hf
 refine (AmO hf hd hml hacc).bind fun g hg=>hg.bind fun to hto=>hto.bind fun keep hr=>?_
 refine (AlU hf hd hlast hc hr).bind fun q ⟨_,qf,qd,qc⟩=>?_
 refine (AcN qf).bind fun l2 hl2=>?_
 have hacc2:=hl2.acc qf
 refine Hs.bind (P:=Acp Ahn q.1 l2.Out) ?_ fun s hs=>?_
 ·unfold AaL
  exact (AjO qf qd (hacc2.1.len qf) true).bind fun r hr=>.pure hr
 have hrows : ∀ row ∈ s.1,row.length ≤ 512:=by
  rcases hs with ⟨_,_,hs⟩ | ⟨_,hn,_⟩
  ·intro row hrow
   obtain ⟨k,hk⟩:=List.getElem?_of_mem hrow
   exact (hs.2 k row hk).1.1.length_le
  ·exact (hn hacc2).elim
 refine (Amv hi hf.len' hc).bind fun a _=>(Anl _ qf.slots hrows a).bind fun o _=>.bne (fun _=>.pure ⟨hr,hacc⟩) fun _=>?_
 have hset : ixO (p.Funcs.set i.toNat q.1) i = some q.1:=by
  rw [RP _ i0]; exact List.getElem?_set_self (by omega)
 refine Hs.bind (P:=fun r=>r = ⟨p.Funcs.set i.toNat q.1⟩) ?_ fun r hr'=>?_
 ·unfold Acj ZN
  refine Hs.bind (P:=fun r=>r = ⟨p.Funcs.set i.toNat q.1⟩) (.chk (by simp; omega) (.chk (by simp; omega) ((Hs.get (P:=fun _=>True) i0 (by simp; omega) fun _ _=>trivial).bind fun _ _=>.pure (by simp)))) fun r h=>.pure h
 subst hr'
 exact (AnB p hp).bind fun al _=>(Anq hset qf.len' qf.slots (by simpa [Yh] using qc) al _).bind fun y _=>.pure ⟨hr,hacc⟩
end Go.Proofs.YtnldnldmgceooaaGreatDoor
namespace Go.Proofs.YtnldnldmgceooaaGreatDoor
open Go Go.Dw Go.Proofs
theorem Vq.max {a b : Int} (ha : Vq a) (hb : Vq b) : Vq (RD a b):=by unfold RD; split <;> assumption
theorem AnM {s : List Po} (h : Abd s) : Hs (Vs s) fun a=>Vq a ∧ 16 ≤ a ∧ a ≤ 64:=by
 have a16 : Vq 16:=Ul 4 (by omega)
 have hl:=h.1
 unfold Vs
 refine (Agd s).bind fun e he=>.bne (fun _=>.pure ⟨a16,by omega,by omega⟩) fun _=>?_
 refine Hs.loop (fun q=>∃ k : Nat,q.2 = (k : Int) ∧ k ≤ s.length ∧ Vq q.1 ∧ 16 ≤ q.1 ∧ q.1 ≤ 64) (fun q=>s.length - q.2.toNat) ⟨0,rfl,Nat.zero_le _,a16,by simp only; omega,by simp only; omega⟩ ?_
 rintro ⟨a,_⟩ ⟨k,rfl,hk,h1,h2,h3⟩
 replace h2 : 16 ≤ a:=h2
 replace h3 : a ≤ 64:=h3
 unfold VU
 dsimp only
 refine .dec (fun hlt=>?_) fun _=>.lft (.pure ⟨h1,h2,h3⟩)
 have hlt : k < s.length:=by omega
 rw [Pl (by omega)]
 refine (Hs.ix (by omega) (by omega) fun x hx=>h.2 x (List.mem_of_getElem? hx)).bind fun x hx=>.cnt ⟨⟨k + 1,rfl,hlt,h1.max hx.1,?_,?_⟩,by simp only; omega⟩
 ·have:=hx.2.1; simp only; unfold RD; split <;> omega
 ·have:=hx.2.1; simp only; unfold RD; split <;> omega
theorem AnA {p : Ph} (hp : p.Funcs.length ≤ 1000) (h : ∀ f ∈ p.Funcs,Abd f.Slots) : Hs (Ua p) fun a=>Vq a ∧ 16 ≤ a ∧ a ≤ 64:=by
 have a16 : Vq 16:=Ul 4 (by omega)
 unfold Ua
 refine Hs.loop (fun q=>∃ k : Nat,q.2 = (k : Int) ∧ k ≤ p.Funcs.length ∧ Vq q.1 ∧ 16 ≤ q.1 ∧ q.1 ≤ 64) (fun q=>p.Funcs.length - q.2.toNat) ⟨0,rfl,Nat.zero_le _,a16,by simp only; omega,by simp only; omega⟩ ?_
 rintro ⟨a,_⟩ ⟨k,rfl,hk,h1,h2,h3⟩
 replace h2 : 16 ≤ a:=h2
 replace h3 : a ≤ 64:=h3
 unfold VZ
 dsimp only
 refine .dec (fun hlt=>?_) fun _=>.lft (.pure ⟨h1,h2,h3⟩)
 have hlt : k < p.Funcs.length:=by omega
 rw [Pl (by omega)]
 refine (Hs.ix (by omega) (by omega) fun x hx=>h x (List.mem_of_getElem? hx)).bind fun x hx=>(AnM hx).bind fun b hb=>.cnt ⟨⟨k + 1,rfl,hlt,h1.max hb.1,?_,?_⟩,by simp only; omega⟩
 ·simp only; unfold RD; split <;> omega
 ·simp only; unfold RD; split <;> omega
theorem QT.args {ps : List Int} {i most : Int} {f : OX} (h : QT ps i most f) (hi : 0 ≤ i) {p : Ph} (hl : p.Funcs.length = ps.length) (hps : AhM ps) (hall : ∀ (j : Nat) g,p.Funcs[j]? = some g → QT ps j most g) : Aew p f:=by
 intro x hx
 obtain ⟨k,hk⟩:=List.getElem?_of_mem hx
 have hkl:=(List.getElem?_eq_some_iff.1 hk).1
 by_cases hk1 : k + 1 < f.Code.length
 ·have hins:=h.body k x hk hk1
  cases hins with
  | call j h0 h1 =>
   refine ⟨fun e=>by simp at e,fun _=>⟨by simp only; omega,?_⟩⟩
   have hg : p.Funcs[j.toNat]? = some (p.Funcs[j.toNat]'(by omega)):=List.getElem?_eq_getElem _
   have:=(hall _ _ hg).par
   exact ⟨_,hg,hps.1 _ (List.mem_of_getElem? this)⟩
  | arg a b h0 h1 h2=>exact ⟨fun _=>⟨h0,h1⟩,fun e=>by simp at e⟩
  | bin op a b c h1 h2 h3 h4 h5 h6=>exact ⟨fun e=>by simp only at e; omega,fun e=>by simp only at e; omega⟩
  | un op a h1 h2=>exact ⟨fun e=>by simp only at e; omega,fun e=>by simp only at e; omega⟩
  | _=>exact ⟨fun e=>by simp at e,fun e=>by simp at e⟩
 ·have he:=h.last x (by rw [show f.Code.length - 1 = k by omega]; exact hk)
  rcases he with rfl | ⟨w,_,rfl⟩ <;> exact ⟨fun e=>by simp at e,fun e=>by simp at e⟩
theorem AmQ {c : Mk} (h : okC c) {p : Ph} {i : Int} {f : OX} {al : Int} (hL : Ada p i f al) (hlast : Aan f) (hc : Yh p.Funcs.length f) (hp : p.Funcs.length ≤ 1000) : Hs (TL c p i al) fun q=>okC q.2:=by
 have hr:=Abf hL.arg (k:=f.Code.length) (Nat.le_refl _)
 have hbl : (Aao p f al).Off.length ≤ 6:=by
  have:=(Agi hL.slots (a:=16 * TF p f f.Code.length) (by omega) (k:=f.Slots.length) (Nat.le_refl _)).1
  have:=hL.slots.1
  simp only [Aao]; omega
 have j1 : ∀ {l : List Int} {a : Int} (y z : Int) {x : List Int},okC ⟨l,a⟩ → x.length ≤ 6 → Hs (QD l a y z x) fun q=>okC q.2:=by
  intro l a y z x hc hx
  unfold QD
  refine .chk (by simp; omega) ((Pt hc (by omega) (by omega)).bind fun r hr=>?_)
  refine Hs.loop (fun s=>okC ⟨s.1,s.2.1⟩ ∧ (s.2.2.1.length : Int) + s.2.2.2.2.2 ≤ 20 ∧ 0 ≤ s.2.2.2.2.2) (fun s=>s.2.2.2.2.2.toNat) ⟨hr.1,by simp only [List.nil_append]; omega,hr.2.1⟩ ?_
  rintro ⟨l,a,x,y,z,n⟩ ⟨hc,hx,hn0⟩
  replace hx : (x.length : Int) + n ≤ 20:=hx
  replace hn0 : 0 ≤ n:=hn0
  have w : IntKind.i64.wrap (n - 1) = n - 1:=wrap64 (by omega) (by omega)
  unfold TT
  dsimp only
  refine .dec (fun hp=>?_) fun _=>.lft (.pure hc)
  have hp : 0 < n:=hp
  have fin : ∀ {l' : List Int} {a' : Int} (x' : List Int) (y' z' : Int),okC ⟨l',a'⟩ → x'.length ≤ x.length + 1 → Hs (cnt (l',a',x',y',z',IntKind.i64.wrap (n - 1)) : Option ((List Int × Int × List Int × Int × Int × Int) ⊕ (Pf × Mk))) (Rnd (fun s=>okC ⟨s.1,s.2.1⟩ ∧ (s.2.2.1.length : Int) + s.2.2.2.2.2 ≤ 20 ∧ 0 ≤ s.2.2.2.2.2) (fun s=>s.2.2.2.2.2.toNat) (l,a,x,y,z,n) fun q=>okC q.2):=by
   intro l' a' x' y' z' hc' hx'
   rw [w]
   exact .cnt ⟨⟨hc',by simp only; omega,by simp only; omega⟩,by simp only; omega⟩
  have hm : 1 ≤ RD 1 (x.length : Int) ∧ RD 1 (x.length : Int) ≤ 30:=by unfold RD; split <;> omega
  refine (Pt hc hm.1 (by omega)).bind fun r hr=>(Pt hr.1 (by omega) (by omega)).bind fun u hu=>?_
  have kx : ∀ {b : Bool},(b = true → r.1 < (x.length : Int)) → (b = true → r.1.toNat < x.length):=fun hb e=>by have:=hb e; omega
  have j5 : ∀ {l' : List Int} {a' : Int} (b : Bool),okC ⟨l',a'⟩ → (b = true → r.1 < (x.length : Int)) → Hs (Ro r x y z n l' a' b) (Rnd (fun s=>okC ⟨s.1,s.2.1⟩ ∧ (s.2.2.1.length : Int) + s.2.2.2.2.2 ≤ 20 ∧ 0 ≤ s.2.2.2.2.2) (fun s=>s.2.2.2.2.2.toNat) (l,a,x,y,z,n) fun q=>okC q.2):=by
   intro l' a' b hc' hb
   unfold Ro
   refine .cond (fun e=>(AfH hc').bind fun v hv=>.chk (by have:=hb e; omega) ((Hs.get (P:=fun _=>True) (by omega) (by have:=hb e; omega) fun _ _=>trivial).bind fun _ _=>fin _ _ _ hv.1 (by simp))) fun _=>fin _ _ _ hc' (by omega)
  have j4 : ∀ b : Bool,Hs (Rn r x u y z n b) (Rnd (fun s=>okC ⟨s.1,s.2.1⟩ ∧ (s.2.2.1.length : Int) + s.2.2.2.2.2 ≤ 20 ∧ 0 ≤ s.2.2.2.2.2) (fun s=>s.2.2.2.2.2.toNat) (l,a,x,y,z,n) fun q=>okC q.2):=by
   intro b
   unfold Rn
   refine .cond (fun _=>.dec (fun hlt=>?_) fun _=>fin _ _ _ hu.1 (by omega)) fun _=>.beq (fun _=>(Pt hu.1 (by omega) (by omega)).bind fun v hv=>fin _ _ _ hv.1 (by omega)) fun _=>.beq (fun _=>.dec (fun hlt=>(Pt hu.1 (by omega) (by omega)).bind fun v hv=>j5 _ hv.1 fun _=>hlt) fun _=>j5 false hu.1 fun e=>by cases e) fun _=>.beq (fun _=>?_) fun _=>fin _ _ _ hu.1 (by omega)
   ·refine (Pt hu.1 (n:=(x.length : Int)) (by omega) (by omega)).bind fun v hv=>.chk (by omega) ((Hs.get (P:=fun _=>True) (by omega) (by omega) fun _ _=>trivial).bind fun q _=>.chk (by omega) ((Hs.get (P:=fun _=>True) (by omega) (by omega) fun _ _=>trivial).bind fun _ _=>fin _ _ _ hv.1 (by simp)))
   ·refine (Pt hu.1 (by omega) (by omega)).bind fun v hv=>.beq (fun _=>(AfH hv.1).bind fun w hw=>fin _ _ _ hw.1 (by omega)) fun _=>.beq (fun _=>(AfH hv.1).bind fun w hw=>fin _ _ _ hw.1 (by omega)) fun _=>.beq (fun _=>(Pt hv.1 (by omega) (by omega)).bind fun w hw=>.chk (by simp; omega) (fin _ _ _ hw.1 (by simp))) fun _=>fin _ _ _ hv.1 (by omega)
  have j3 : ∀ b : Bool,Hs (QE r x u y z n b) (Rnd (fun s=>okC ⟨s.1,s.2.1⟩ ∧ (s.2.2.1.length : Int) + s.2.2.2.2.2 ≤ 20 ∧ 0 ≤ s.2.2.2.2.2) (fun s=>s.2.2.2.2.2.toNat) (l,a,x,y,z,n) fun q=>okC q.2):=by
   intro b
   unfold QE
   refine .cond (fun _=>.dec (fun hlt=>(Pt hu.1 (by omega) (by omega)).bind fun v hv=>.chk (by omega) ((Hs.get (P:=fun _=>True) (by omega) (by omega) fun _ _=>trivial).bind fun _ _=>fin _ _ _ hv.1 (by simp))) fun _=>fin _ _ _ hu.1 (by omega)) fun _=>.cond (fun _=>j4 _) fun _=>j4 _
  exact .cond (fun _=>j3 _) fun _=>.cond (fun _=>j3 _) fun _=>j3 _
 unfold TL
 rw [Aow hL.hi hL.AbK.len' hL.arg hL.slots hL.alok hL.al64,Option.bind_some]
 refine (Pt h (by omega) (by omega)).bind fun r hr=>.cond (fun _=>?_) fun _=>j1 _ _ hr.1 hbl
 refine (Ana hL.hi hL.AbK hL.defs hL.ml hlast hc hp).bind fun q _=>.cond (fun e=>j1 _ _ hr.1 ?_) fun _=>j1 _ _ hr.1 hbl
 have : (q.Layout.Off.length : Int) = ((Aao p f al).Off.length : Int):=by simpa using e
 omega
theorem Ang (codes : List Int) (hc : qL (QU .u8) codes) : Hs (Zn codes) fun q=>okC q.2.2.2.2.2 ∧ ∃ f ps i,Ada q.1 q.2.1 f q.2.2.1 ∧ QT ps i 14 f ∧ ZC q.2.2.2.1.Out:=by
 unfold Zn
 obtain ⟨c,e1,hcok⟩:=Apy codes 300 hc (by omega) (by omega)
 rw [e1,Option.bind_some]
 refine (AmZ hcok (by omega) (by omega) (by omega) (by omega)).bind fun p hp=>?_
 obtain ⟨ps,hps,hz,hp1,hp2,hfl,hall⟩:=hp.2
 refine (Pt hp.1 (by omega) (by omega)).bind fun k hk=>?_
 have hpl : p.1.Funcs.length ≤ 1000:=by omega
 refine (AnA hpl fun f hf=>?_).bind fun al hal=>?_
 ·obtain ⟨j,hj⟩:=List.getElem?_of_mem hf
  exact (hall j f hj).AmC
 have hix : ixO p.1.Funcs k.1 = some (p.1.Funcs[k.1.toNat]'(by omega)):=by
  rw [RP _ hk.2.1]; exact List.getElem?_eq_getElem _
 generalize (p.1.Funcs[k.1.toNat]'(by omega)) = f at hix
 have hfo : QT ps (k.1.toNat : Nat) 14 f:=hall k.1.toNat f (by rw [← RP _ hk.2.1]; exact hix)
 have hf:=hfo.AbK (by omega)
 have hL : Ada p.1 k.1 f al:=⟨hix,hfo.args (by omega) hfl hps hall,hfo.AmC,hal.1,hal.2.1,hal.2.2,hf,hfo.defs,hfo.Apx⟩
 have hcalls : Yh p.1.Funcs.length f:=by rw [hfl]; exact hfo.calls (by omega)
 have j1 : ∀ {l : List Int} {a : Int} {x : List (List Int)},okC ⟨l,a⟩ → ZC x → Hs (Ue p k al x l a) fun q=>okC q.2.2.2.2.2 ∧ ∃ f ps i,Ada q.1 q.2.1 f q.2.2.1 ∧ QT ps i 14 f ∧ ZC q.2.2.2.1.Out:=by
  intro l a x hc hx
  unfold Ue
  exact (AmQ hc hL hfo.Apv hcalls hpl).bind fun r hr=>.pure ⟨hr,f,ps,_,hL,hfo,hx⟩
 rw [hix,Option.bind_some]
 refine (Aoo hk.1 hf).bind fun l hl=>(Pt hl.1 (by omega) (by omega)).bind fun r hr=>.cond (fun _=>?_) fun _=>j1 hr.1 (hl.2.1.len hf)
 rw [Option.bind_some]
 exact (AoT hr.1 hf).bind fun l hl=>j1 hl.1 (Acr.len hf hl.2.1 hl.2.2)
abbrev AhN : OX:=OX.mk 0 ([]) ([(OZ.mk 23 0 0 0 0)] : List OZ)
abbrev AhO : Ph:=Ph.mk ([(OX.mk 0 ([]) ([(OZ.mk 23 0 0 0 0)] : List OZ))] : List OX)
theorem Apn : Ada AhO 0 AhN 16:=by
 refine ⟨by simp,fun x hx=>?_,⟨by simp,fun x hx=>by cases hx⟩,Ul 4 (by omega),by omega,by omega,⟨by simp,by simp,by simp,fun k x hx j hj=>?_,fun x hx v hv=>?_⟩,fun x hx ho=>?_,fun x hx ho=>?_⟩
 ·simp at hx; subst hx; exact ⟨fun e=>by simp at e,fun e=>by simp at e⟩
 ·match k,hx with
  | 0,hx=>simp at hx; subst hx; simp [Qf] at hj
  | n + 1,hx=>simp at hx
 ·simp at hx; subst hx; simp [PW] at hv
 ·simp at hx; subst hx; simp at ho
 ·simp at hx; subst hx; simp at ho
theorem Anm : Aao AhO AhN 16 = ⟨0,0,[]⟩:=by decide
theorem AoL : Zm = some true:=by
 have sh : ∀ y : Pf,Hs (VT AhO 0 16 y) fun e=>(e = 0 ∨ e = 13) ∧ (e = 0 ↔ UE AhO AhN 16 y):=fun y=>by
  unfold VT
  rw [Apn.hi,Option.bind_some]
  exact (Aid Apn y).bind fun e he=>.pure he
 have hb:=Anm
 have ha : 16 * TF AhO AhN AhN.Code.length = 0:=by decide
 obtain ⟨e1,h1,h2⟩:=sh ⟨0,0,[]⟩
 obtain ⟨e2,k1,k2⟩:=sh ⟨0,16,[]⟩
 have r1 : e1 = 0:=h2.2.2 ⟨by rw [ha],rfl,fun k hk=>absurd hk (Nat.not_lt_zero _),by decide,by decide,by rw [hb]; decide⟩
 have r2 : e2 = 13:=by
  rcases k2.1 with h | h
  ·have:=(k2.2.1 h).2.2.2.2.2
   rw [hb] at this
   exact absurd this (by decide)
  ·exact h
 subst r1 r2
 unfold Zm
 rw [h1,Option.bind_some,show ((0 : Int) == 0) = true from rfl,cond_true,k1,Option.bind_some]
 rfl
end Go.Proofs.YtnldnldmgceooaaGreatDoor
namespace Go.Proofs.YtnldnldmgceooaaGreatDoor
open Go Go.Dw Go.Proofs
theorem Zk (codes : List Int) (hc : qL (QU .u8) codes) : Hs (Qn codes) fun b=>b = true:=by
 unfold Qn
 rw [AoL]
 simp only [Option.bind_some,Bool.not_true,cond_false]
 refine (Ang codes hc).bind fun q ⟨_,f,ps,i,hL,hfo,hlen⟩=>?_
 have hf:=hL.AbK
 refine (Aic hL q.2.2.2.2.1 hlen).bind fun e he=>.bne (fun _=>.pure rfl) fun h0=>?_
 subst h0
 rw [hL.hi,Option.bind_some]
 refine (AcN hf).bind fun l hl=>?_
 have hacc:=hl.acc hf
 refine (Aic hL q.2.2.2.2.1 (hacc.1.len hf)).bind fun e' he'=>.pure ?_
 rcases he with ⟨_,h⟩ | ⟨_,_,h⟩ | ⟨_,_,_,h⟩ | ⟨hs,ha,hn,_⟩
 ·cases h
 ·cases h
 ·cases h
 rcases he' with ⟨h,_⟩ | ⟨_,h,_⟩ | ⟨_,_,⟨k,s,hk,h⟩,_⟩ | ⟨_,_,_,rfl⟩
 ·exact (h hs).elim
 ·exact (h hacc).elim
 ·refine (hn k s hk (h.mono fun v hv=>?_)).elim
  obtain ⟨o1,_⟩:=hl.ok.at (j:=(k : Int)) (by omega) (by omega)
  obtain ⟨q1,_⟩:=ha.1.at (j:=(k : Int)) (by omega) (by omega)
  simp only [Int.toNat_natCast] at o1 q1
  exact hl.least _ ha.1 ((Amu hf ha.1).1 ha) k _ _ o1 q1 v hv
 ·rfl
theorem Ym (codes : List Int) (hc : qL (QU .u8) codes) : Qn codes = some true:=by
 obtain ⟨r,h,rfl⟩:=Zk codes hc
 exact h
end Go.Proofs.YtnldnldmgceooaaGreatDoor
