/-
  Plain laws about the typed programs.
-/
import Derived.Test.YtnldnldmgceooaaGreatDoorPa
namespace Go.Proofs.YtnldnldmgceooaaGreatDoor
open Go Go.Dw Go.Proofs
def Yz (n : Nat) (f : OX) : Prop:=∀ x ∈ f.Code,x.Op = 22 → 0 ≤ x.A ∧ x.A < n
theorem QT.calls {ps : List Int} {i most : Int} {f : OX} (h : QT ps i most f) (hi : 0 ≤ i) : Yz ps.length f:=by
 intro x hx hop
 obtain ⟨k,hk⟩:=List.getElem?_of_mem hx
 have hkl:=(List.getElem?_eq_some_iff.1 hk).1
 by_cases hk1 : k + 1 < f.Code.length
 ·have hins:=h.body k x hk hk1
  cases hins with
  | call j h0 h1=>exact ⟨by simp only; omega,h1⟩
  | bin op a b c h1 h2 h3 h4 h5 h6=>simp only at hop; omega
  | un op a h1 h2=>simp only at hop; omega
  | _=>simp at hop
 ·have he:=h.last x (by rw [show f.Code.length - 1 = k by omega]; exact hk)
  rcases he with rfl | ⟨w,_,rfl⟩ <;> simp at hop
theorem AnQ {n : Nat} {f : OX} (h : Yz n f) {keep : List Bool} {to pl : List Int} (hk : f.Code.length ≤ keep.length) : ∀ x ∈ Xx f keep to pl f.Code.length,x.Op = 22 → 0 ≤ x.A ∧ x.A < n:=by
 intro x hx hop
 obtain ⟨p,hp⟩:=List.getElem?_of_mem hx
 obtain ⟨j,h1,_,_,rfl⟩:=(AbS (f:=f) (keep:=keep) (to:=to) (pl:=pl) _ hk).2 p x hp
 have hm : Pb f (j : Nat) ∈ f.Code:=by
  have : Pb f ((j : Nat) : Int) = f.Code[j]:=by simp [Pb,h1]
  rw [this]; exact List.getElem_mem _
 have ho : (mvI pl (rnI to (Pb f (j : Nat)))).Op = (Pb f (j : Nat)).Op:=by
  refine Eq.trans ?_ (AgM to _)
  unfold mvI
  split
  ·rfl
  ·split <;> rfl
 rw [ho] at hop
 have e : mvI pl (rnI to (Pb f (j : Nat))) = Pb f (j : Nat):=by simp [mvI,rnI,hop]
 rw [e]
 exact h _ hm hop
theorem AmJ {f : OX} (hf : Py f) (hd : Xz f) (hlast : AaL f) {n : Nat} (hc : Yz n f) {r : Pw} (hr : AdZ f r) : Hs (VO f r) fun q=>q.2 = 0 ∧ Py q.1 ∧ Xz q.1 ∧ Yz n q.1:=by
 obtain ⟨q,e,h1,h2,h3⟩:=AnA hf hd hlast hr
 obtain ⟨q',e',_,used,to,pl,_,_,_,_,_,_,_,_,cd⟩:=AlJ hf hd hr
 rw [e] at e'; cases e'
 refine ⟨q,e,h1,h2,h3,?_⟩
 unfold Yz
 rw [cd]
 exact AnQ hc (by rw [hr.2.1]; exact Nat.le_refl _)
theorem AnF {f : OX} (hf : Py f) (hd : Xz f) (hml : Aet f) {l : Pg} (hacc : Acc f l.Out) : Hs (ZQ f l) fun g=>Hs (Vg f g.1) fun to=>Hs (Zk f l to) fun keep=>AdZ f ⟨to,keep⟩:=by
 have hlen:=hf.len'
 have hsl:=hf.slots
 refine Hs.mono (P:=ZH AcU f l.Out) ?_ fun g hg=>?_
 ·unfold ZQ
  exact (Akv hf hd (hacc.1.len hf) false).bind fun r hr=>.pure hr
 rcases hg with ⟨_,_,hg⟩ | ⟨_,hn,_⟩
 rotate_left
 ·exact (hn hacc).elim
 refine (AnD hlen hsl hml hg (fun x y r s hr hs hy=>((hg.2 y s hs).2 _).2 (((hg.2 x r hr).2 _).1 hy).symm) fun x r hr hx=>?_).mono fun to hto=>?_
 ·rcases ((hg.2 x r hr).2 _).1 hx with ⟨_,_,_,_,_,_,h',_⟩ | ⟨_,_,_,_,_,_,h',_⟩ <;> exact h' rfl
 refine (ApC hf hacc.1 hml hto.ok.1).mono fun keep ⟨hkl,hkp⟩=>⟨hto.ok,hkl,fun k hk h=>?_⟩
 by_cases h1 : AcN f l.Out k
 ·exact h1.1
 ·by_cases h2 : (Pb f k).Op = 17 ∧ Pu to (Pb f k).A = Pu to (Pb f k).B
  ·exact .inr h2.1
  ·have:=(hkp k hk).2 ⟨h1,h2⟩
   rw [h] at this; cases this
theorem AnU {p : Ph} {i : Int} {f : OX} (hi : ixO p.Funcs i = some f) (hf : Py f) (hd : Xz f) (hml : Aet f) (hlast : AaL f) (hc : Yz p.Funcs.length f) (hp : p.Funcs.length ≤ 1000) : Hs (Xj p i) fun q=>AdZ f q.Rename ∧ Acc f q.Live.Out:=by
 obtain ⟨i0,i1,_⟩:=Alq hi
 unfold Xj
 rw [hi,Option.bind_some]
 refine (Afv hf).bind fun l hl=>?_
 have hacc:=hl.acc hf
 refine (AnF hf hd hml hacc).bind fun g hg=>hg.bind fun to hto=>hto.bind fun keep hr=>?_
 refine (AmJ hf hd hlast hc hr).bind fun q ⟨_,qf,qd,qc⟩=>?_
 refine (Afv qf).bind fun l2 hl2=>?_
 have hacc2:=hl2.acc qf
 refine Hs.bind (P:=ZH AhY q.1 l2.Out) ?_ fun s hs=>?_
 ·unfold Abs
  exact (Akv qf qd (hacc2.1.len qf) true).bind fun r hr=>.pure hr
 have hrows : ∀ row ∈ s.1,row.length ≤ 512:=by
  rcases hs with ⟨_,_,hs⟩ | ⟨_,hn,_⟩
  ·intro row hrow
   obtain ⟨k,hk⟩:=List.getElem?_of_mem hrow
   exact (hs.2 k row hk).1.1.length_le
  ·exact (hn hacc2).elim
 refine (Anl hi hf.len' hc).bind fun a _=>(Aof _ qf.slots hrows a).bind fun o _=>.bne (fun _=>.pure ⟨hr,hacc⟩) fun _=>?_
 have hset : ixO (p.Funcs.set i.toNat q.1) i = some q.1:=by
  rw [RR _ i0]; exact List.getElem?_set_self (by omega)
 refine Hs.bind (P:=fun r=>r = ⟨p.Funcs.set i.toNat q.1⟩) ?_ fun r hr'=>?_
 ·unfold AcS Aap
  refine Hs.bind (P:=fun r=>r = ⟨p.Funcs.set i.toNat q.1⟩) (.chk (by simp; omega) (.chk (by simp; omega) ((Hs.get (P:=fun _=>True) i0 (by simp; omega) fun _ _=>trivial).bind fun _ _=>.pure (by simp)))) fun r h=>.pure h
 subst hr'
 exact (Aor p hp).bind fun al _=>(Aok hset qf.len' qf.slots (by simpa [Yz] using qc) al _).bind fun y _=>.pure ⟨hr,hacc⟩
end Go.Proofs.YtnldnldmgceooaaGreatDoor
namespace Go.Proofs.YtnldnldmgceooaaGreatDoor
open Go Go.Dw Go.Proofs
theorem VG.max {a b : Int} (ha : VG a) (hb : VG b) : VG (RH a b):=by unfold RH; split <;> assumption
theorem AoD {s : List Po} (h : AbI s) : Hs (VK s) fun a=>VG a ∧ 16 ≤ a ∧ a ≤ 64:=by
 have a16 : VG 16:=Uz 4 (by omega)
 have hl:=h.1
 unfold VK
 refine (AgN s).bind fun e he=>.bne (fun _=>.pure ⟨a16,by omega,by omega⟩) fun _=>?_
 refine Hs.loop (fun q=>∃ k : Nat,q.2 = (k : Int) ∧ k ≤ s.length ∧ VG q.1 ∧ 16 ≤ q.1 ∧ q.1 ≤ 64) (fun q=>s.length - q.2.toNat) ⟨0,rfl,Nat.zero_le _,a16,by simp only; omega,by simp only; omega⟩ ?_
 rintro ⟨a,_⟩ ⟨k,rfl,hk,h1,h2,h3⟩
 replace h2 : 16 ≤ a:=h2
 replace h3 : a ≤ 64:=h3
 unfold Wg
 dsimp only
 refine .dec (fun hlt=>?_) fun _=>.lft (.pure ⟨h1,h2,h3⟩)
 have hlt : k < s.length:=by omega
 rw [Pl (by omega)]
 refine (Hs.ix (by omega) (by omega) fun x hx=>h.2 x (List.mem_of_getElem? hx)).bind fun x hx=>.cnt ⟨⟨k + 1,rfl,hlt,h1.max hx.1,?_,?_⟩,by simp only; omega⟩
 ·have:=hx.2.1; simp only; unfold RH; split <;> omega
 ·have:=hx.2.1; simp only; unfold RH; split <;> omega
theorem Aoq {p : Ph} (hp : p.Funcs.length ≤ 1000) (h : ∀ f ∈ p.Funcs,AbI f.Slots) : Hs (Un p) fun a=>VG a ∧ 16 ≤ a ∧ a ≤ 64:=by
 have a16 : VG 16:=Uz 4 (by omega)
 unfold Un
 refine Hs.loop (fun q=>∃ k : Nat,q.2 = (k : Int) ∧ k ≤ p.Funcs.length ∧ VG q.1 ∧ 16 ≤ q.1 ∧ q.1 ≤ 64) (fun q=>p.Funcs.length - q.2.toNat) ⟨0,rfl,Nat.zero_le _,a16,by simp only; omega,by simp only; omega⟩ ?_
 rintro ⟨a,_⟩ ⟨k,rfl,hk,h1,h2,h3⟩
 replace h2 : 16 ≤ a:=h2
 replace h3 : a ≤ 64:=h3
 unfold Wn
 dsimp only
 refine .dec (fun hlt=>?_) fun _=>.lft (.pure ⟨h1,h2,h3⟩)
 have hlt : k < p.Funcs.length:=by omega
 rw [Pl (by omega)]
 refine (Hs.ix (by omega) (by omega) fun x hx=>h x (List.mem_of_getElem? hx)).bind fun x hx=>(AoD hx).bind fun b hb=>.cnt ⟨⟨k + 1,rfl,hlt,h1.max hb.1,?_,?_⟩,by simp only; omega⟩
 ·simp only; unfold RH; split <;> omega
 ·simp only; unfold RH; split <;> omega
theorem QT.args {ps : List Int} {i most : Int} {f : OX} (h : QT ps i most f) (hi : 0 ≤ i) {p : Ph} (hl : p.Funcs.length = ps.length) (hps : Ait ps) (hall : ∀ (j : Nat) g,p.Funcs[j]? = some g → QT ps j most g) : Aff p f:=by
 intro x hx
 obtain ⟨k,hk⟩:=List.getElem?_of_mem hx
 have hkl:=(List.getElem?_eq_some_iff.1 hk).1
 by_cases hk1 : k + 1 < f.Code.length
 ·have hins:=h.body k x hk hk1
  cases hins with
  | call j h0 h1 =>
   refine ⟨fun e=>by simp at e,fun _=>⟨by simp only; omega,?_⟩⟩
   have hg : p.Funcs[j.toNat]? = some (p.Funcs[j.toNat]'(by omega)):=List.getElem?_eq_getElem _
   have:=(hall _ _ hg).par
   exact ⟨_,hg,hps.1 _ (List.mem_of_getElem? this)⟩
  | arg a b h0 h1 h2=>exact ⟨fun _=>⟨h0,h1⟩,fun e=>by simp at e⟩
  | bin op a b c h1 h2 h3 h4 h5 h6=>exact ⟨fun e=>by simp only at e; omega,fun e=>by simp only at e; omega⟩
  | un op a h1 h2=>exact ⟨fun e=>by simp only at e; omega,fun e=>by simp only at e; omega⟩
  | _=>exact ⟨fun e=>by simp at e,fun e=>by simp at e⟩
 ·have he:=h.last x (by rw [show f.Code.length - 1 = k by omega]; exact hk)
  rcases he with rfl | ⟨w,_,rfl⟩ <;> exact ⟨fun e=>by simp at e,fun e=>by simp at e⟩
theorem AnH {c : Mk} (h : okC c) {p : Ph} {i : Int} {f : OX} {al : Int} (hL : AdC p i f al) (hlast : AaL f) (hc : Yz p.Funcs.length f) (hp : p.Funcs.length ≤ 1000) : Hs (TS c p i al) fun q=>okC q.2:=by
 have hr:=AbJ hL.arg (k:=f.Code.length) (Nat.le_refl _)
 have hbl : (AaN p f al).Off.length ≤ 6:=by
  have:=(AgT hL.slots (a:=16 * TM p f f.Code.length) (by omega) (k:=f.Slots.length) (Nat.le_refl _)).1
  have:=hL.slots.1
  simp only [AaN]; omega
 have j1 : ∀ {l : List Int} {a : Int} (y z : Int) {x : List Int},okC ⟨l,a⟩ → x.length ≤ 6 → Hs (QC l a y z x) fun q=>okC q.2:=by
  intro l a y z x hc hx
  unfold QC
  refine .chk (by simp; omega) ((Pt hc (by omega) (by omega)).bind fun r hr=>?_)
  refine Hs.loop (fun s=>okC ⟨s.1,s.2.1⟩ ∧ (s.2.2.1.length : Int) + s.2.2.2.2.2 ≤ 20 ∧ 0 ≤ s.2.2.2.2.2) (fun s=>s.2.2.2.2.2.toNat) ⟨hr.1,by simp only [List.nil_append]; omega,hr.2.1⟩ ?_
  rintro ⟨l,a,x,y,z,n⟩ ⟨hc,hx,hn0⟩
  replace hx : (x.length : Int) + n ≤ 20:=hx
  replace hn0 : 0 ≤ n:=hn0
  have w : IntKind.i64.wrap (n - 1) = n - 1:=wrap64 (by omega) (by omega)
  unfold Ud
  dsimp only
  refine .dec (fun hp=>?_) fun _=>.lft (.pure hc)
  have hp : 0 < n:=hp
  have fin : ∀ {l' : List Int} {a' : Int} (x' : List Int) (y' z' : Int),okC ⟨l',a'⟩ → x'.length ≤ x.length + 1 → Hs (cnt (l',a',x',y',z',IntKind.i64.wrap (n - 1)) : Option ((List Int × Int × List Int × Int × Int × Int) ⊕ (Pc × Mk))) (Rnd (fun s=>okC ⟨s.1,s.2.1⟩ ∧ (s.2.2.1.length : Int) + s.2.2.2.2.2 ≤ 20 ∧ 0 ≤ s.2.2.2.2.2) (fun s=>s.2.2.2.2.2.toNat) (l,a,x,y,z,n) fun q=>okC q.2):=by
   intro l' a' x' y' z' hc' hx'
   rw [w]
   exact .cnt ⟨⟨hc',by simp only; omega,by simp only; omega⟩,by simp only; omega⟩
  have hm : 1 ≤ RH 1 (x.length : Int) ∧ RH 1 (x.length : Int) ≤ 30:=by unfold RH; split <;> omega
  refine (Pt hc hm.1 (by omega)).bind fun r hr=>(Pt hr.1 (by omega) (by omega)).bind fun u hu=>?_
  have kx : ∀ {b : Bool},(b = true → r.1 < (x.length : Int)) → (b = true → r.1.toNat < x.length):=fun hb e=>by have:=hb e; omega
  have j5 : ∀ {l' : List Int} {a' : Int} (b : Bool),okC ⟨l',a'⟩ → (b = true → r.1 < (x.length : Int)) → Hs (Ro r x y z n l' a' b) (Rnd (fun s=>okC ⟨s.1,s.2.1⟩ ∧ (s.2.2.1.length : Int) + s.2.2.2.2.2 ≤ 20 ∧ 0 ≤ s.2.2.2.2.2) (fun s=>s.2.2.2.2.2.toNat) (l,a,x,y,z,n) fun q=>okC q.2):=by
   intro l' a' b hc' hb
   unfold Ro
   refine .cond (fun e=>(Ags hc').bind fun v hv=>.chk (by have:=hb e; omega) ((Hs.get (P:=fun _=>True) (by omega) (by have:=hb e; omega) fun _ _=>trivial).bind fun _ _=>fin _ _ _ hv.1 (by simp))) fun _=>fin _ _ _ hc' (by omega)
  have j4 : ∀ b : Bool,Hs (Rn r x u y z n b) (Rnd (fun s=>okC ⟨s.1,s.2.1⟩ ∧ (s.2.2.1.length : Int) + s.2.2.2.2.2 ≤ 20 ∧ 0 ≤ s.2.2.2.2.2) (fun s=>s.2.2.2.2.2.toNat) (l,a,x,y,z,n) fun q=>okC q.2):=by
   intro b
   unfold Rn
   refine .cond (fun _=>.dec (fun hlt=>?_) fun _=>fin _ _ _ hu.1 (by omega)) fun _=>.beq (fun _=>(Pt hu.1 (by omega) (by omega)).bind fun v hv=>fin _ _ _ hv.1 (by omega)) fun _=>.beq (fun _=>.dec (fun hlt=>(Pt hu.1 (by omega) (by omega)).bind fun v hv=>j5 _ hv.1 fun _=>hlt) fun _=>j5 false hu.1 fun e=>by cases e) fun _=>.beq (fun _=>?_) fun _=>fin _ _ _ hu.1 (by omega)
   ·refine (Pt hu.1 (n:=(x.length : Int)) (by omega) (by omega)).bind fun v hv=>.chk (by omega) ((Hs.get (P:=fun _=>True) (by omega) (by omega) fun _ _=>trivial).bind fun q _=>.chk (by omega) ((Hs.get (P:=fun _=>True) (by omega) (by omega) fun _ _=>trivial).bind fun _ _=>fin _ _ _ hv.1 (by simp)))
   ·refine (Pt hu.1 (by omega) (by omega)).bind fun v hv=>.beq (fun _=>(Ags hv.1).bind fun w hw=>fin _ _ _ hw.1 (by omega)) fun _=>.beq (fun _=>(Ags hv.1).bind fun w hw=>fin _ _ _ hw.1 (by omega)) fun _=>.beq (fun _=>(Pt hv.1 (by omega) (by omega)).bind fun w hw=>.chk (by simp; omega) (fin _ _ _ hw.1 (by simp))) fun _=>fin _ _ _ hv.1 (by omega)
  have j3 : ∀ b : Bool,Hs (QD r x u y z n b) (Rnd (fun s=>okC ⟨s.1,s.2.1⟩ ∧ (s.2.2.1.length : Int) + s.2.2.2.2.2 ≤ 20 ∧ 0 ≤ s.2.2.2.2.2) (fun s=>s.2.2.2.2.2.toNat) (l,a,x,y,z,n) fun q=>okC q.2):=by
   intro b
   unfold QD
   refine .cond (fun _=>.dec (fun hlt=>(Pt hu.1 (by omega) (by omega)).bind fun v hv=>.chk (by omega) ((Hs.get (P:=fun _=>True) (by omega) (by omega) fun _ _=>trivial).bind fun _ _=>fin _ _ _ hv.1 (by simp))) fun _=>fin _ _ _ hu.1 (by omega)) fun _=>.cond (fun _=>j4 _) fun _=>j4 _
  exact .cond (fun _=>j3 _) fun _=>.cond (fun _=>j3 _) fun _=>j3 _
 unfold TS
 rw [Amj hL.hi hL.WD.len' hL.arg hL.slots hL.alok hL.al64,Option.bind_some]
 refine (Pt h (by omega) (by omega)).bind fun r hr=>.cond (fun _=>?_) fun _=>j1 _ _ hr.1 hbl
 refine (AnU hL.hi hL.WD hL.defs hL.ml hlast hc hp).bind fun q _=>.cond (fun e=>j1 _ _ hr.1 ?_) fun _=>j1 _ _ hr.1 hbl
 have : (q.Layout.Off.length : Int) = ((AaN p f al).Off.length : Int):=by simpa using e
 omega
theorem AnZ (codes : List Int) (hc : qL (QY .u8) codes) : Hs (ZK codes) fun q=>okC q.2.2.2.2.2 ∧ ∃ f ps i,AdC q.1 q.2.1 f q.2.2.1 ∧ QT ps i 14 f ∧ Vh q.2.2.2.1.Out:=by
 unfold ZK
 obtain ⟨c,e1,hcok⟩:=Aqi codes 300 hc (by omega) (by omega)
 rw [e1,Option.bind_some]
 refine (AnT hcok (by omega) (by omega) (by omega) (by omega)).bind fun p hp=>?_
 obtain ⟨ps,hps,hz,hp1,hp2,hfl,hall⟩:=hp.2
 refine (Pt hp.1 (by omega) (by omega)).bind fun k hk=>?_
 have hpl : p.1.Funcs.length ≤ 1000:=by omega
 refine (Aoq hpl fun f hf=>?_).bind fun al hal=>?_
 ·obtain ⟨j,hj⟩:=List.getElem?_of_mem hf
  exact (hall j f hj).Anr
 have hix : ixO p.1.Funcs k.1 = some (p.1.Funcs[k.1.toNat]'(by omega)):=by
  rw [RR _ hk.2.1]; exact List.getElem?_eq_getElem _
 generalize (p.1.Funcs[k.1.toNat]'(by omega)) = f at hix
 have hfo : QT ps (k.1.toNat : Nat) 14 f:=hall k.1.toNat f (by rw [← RR _ hk.2.1]; exact hix)
 have hf:=hfo.WD (by omega)
 have hL : AdC p.1 k.1 f al:=⟨hix,hfo.args (by omega) hfl hps hall,hfo.Anr,hal.1,hal.2.1,hal.2.2,hf,hfo.defs,hfo.Aqh⟩
 have hcalls : Yz p.1.Funcs.length f:=by rw [hfl]; exact hfo.calls (by omega)
 have j1 : ∀ {l : List Int} {a : Int} {x : List (List Int)},okC ⟨l,a⟩ → Vh x → Hs (Us p k al x l a) fun q=>okC q.2.2.2.2.2 ∧ ∃ f ps i,AdC q.1 q.2.1 f q.2.2.1 ∧ QT ps i 14 f ∧ Vh q.2.2.2.1.Out:=by
  intro l a x hc hx
  unfold Us
  exact (AnH hc hL hfo.Aqg hcalls hpl).bind fun r hr=>.pure ⟨hr,f,ps,_,hL,hfo,hx⟩
 rw [hix,Option.bind_some]
 refine (Apc hk.1 hf).bind fun l hl=>(Pt hl.1 (by omega) (by omega)).bind fun r hr=>.cond (fun _=>?_) fun _=>j1 hr.1 (hl.2.1.len hf)
 rw [Option.bind_some]
 exact (ApE hr.1 hf).bind fun l hl=>j1 hl.1 (Ada.len hf hl.2.1 hl.2.2)
abbrev Aiu : OX:=OX.mk 0 ([]) ([(Pa.mk 23 0 0 0 0)] : List Pa)
abbrev Aiv : Ph:=Ph.mk ([(OX.mk 0 ([]) ([(Pa.mk 23 0 0 0 0)] : List Pa))] : List OX)
theorem ApY : AdC Aiv 0 Aiu 16:=by
 refine ⟨by simp,fun x hx=>?_,⟨by simp,fun x hx=>by cases hx⟩,Uz 4 (by omega),by omega,by omega,⟨by simp,by simp,by simp,fun k x hx j hj=>?_,fun x hx v hv=>?_⟩,fun x hx ho=>?_,fun x hx ho=>?_⟩
 ·simp at hx; subst hx; exact ⟨fun e=>by simp at e,fun e=>by simp at e⟩
 ·match k,hx with
  | 0,hx=>simp at hx; subst hx; simp [Qg] at hj
  | n + 1,hx=>simp at hx
 ·simp at hx; subst hx; simp [PX] at hv
 ·simp at hx; subst hx; simp at ho
 ·simp at hx; subst hx; simp at ho
theorem Aog : AaN Aiv Aiu 16 = ⟨0,0,[]⟩:=by decide
theorem Apw : ZJ = some true:=by
 have sh : ∀ y : Pc,Hs (Sf Aiv 0 16 y) fun e=>(e = 0 ∨ e = 13) ∧ (e = 0 ↔ Qt Aiv Aiu 16 y):=fun y=>by
  unfold Sf
  rw [ApY.hi,Option.bind_some]
  exact (Afq ApY y).bind fun e he=>.pure he
 have hb:=Aog
 have ha : 16 * TM Aiv Aiu Aiu.Code.length = 0:=by decide
 obtain ⟨e1,h1,h2⟩:=sh ⟨0,0,[]⟩
 obtain ⟨e2,k1,k2⟩:=sh ⟨0,16,[]⟩
 have r1 : e1 = 0:=h2.2.2 ⟨by rw [ha],rfl,fun k hk=>absurd hk (Nat.not_lt_zero _),by decide,by decide,by rw [hb]; decide⟩
 have r2 : e2 = 13:=by
  rcases k2.1 with h | h
  ·have:=(k2.2.1 h).2.2.2.2.2
   rw [hb] at this
   exact absurd this (by decide)
  ·exact h
 subst r1 r2
 unfold ZJ
 rw [h1,Option.bind_some,show ((0 : Int) == 0) = true from rfl,cond_true,k1,Option.bind_some]
 rfl
end Go.Proofs.YtnldnldmgceooaaGreatDoor
namespace Go.Proofs.YtnldnldmgceooaaGreatDoor
open Go Go.Dw Go.Proofs
theorem Afo (codes : List Int) (raw : Pc) (live : Pg) (hc : qL (QY .u8) codes) (hv : AiO live) : Hs (TV codes raw live) fun b=>b = true:=by
 unfold TV
 rw [Apw]
 simp only [Option.bind_some,Bool.not_true,cond_false]
 have j2 : ∀ b : Bool,(b = true → (raw.Off.length : Int) > 600 ∨ (live.Out.length : Int) > 100) → Hs (QE raw live codes b) fun b=>b = true:=by
  intro b hb
  unfold QE
  refine .cond (fun h=>?_) fun _=>?_
  ·refine .dec (fun _=>.pure rfl) fun h1=>.pure ?_
   rcases hb h with h | h
   ·exact (h1 h).elim
   ·exact decide_eq_true h
  unfold Uh
  refine (AnZ codes hc).bind fun q ⟨_,f,ps,i,hL,hfo,hlen⟩=>?_
  have hraw : Vh live.Out:=⟨hv.1,fun s hs=>(hv.2 s hs).1⟩
  refine Hs.loop (fun i=>∃ k : Nat,i = (k : Int) ∧ k ≤ 2) (fun i=>2 - i.toNat) ⟨0,rfl,by omega⟩ ?_
  rintro _ ⟨k,rfl,hk⟩
  unfold Uf
  refine .dec (fun hlt=>?_) fun _=>.lft (.pure rfl)
  have hlt : k < 2:=by simp only [List.length_cons,List.length_nil] at hlt; omega
  refine .chk (by simp only [List.length_cons,List.length_nil]; omega) ?_
  have hget : ∃ y : Pc,([q.2.2.2.2.1,raw] : List Pc)[k]? = some y:=by
   match k,hlt with
   | 0,_=>exact ⟨_,rfl⟩
   | 1,_=>exact ⟨_,rfl⟩
  obtain ⟨y,hy⟩:=hget
  rw [Int.toNat_natCast,hy,Option.bind_some]
  refine Hs.loop (fun i=>∃ m : Nat,i = (m : Int) ∧ m ≤ 2) (fun i=>2 - i.toNat) ⟨0,rfl,by omega⟩ ?_
  rintro _ ⟨m,rfl,hm⟩
  unfold Ug
  refine .dec (fun hlt'=>?_) fun _=>.lft ?_
  ·have hlt' : m < 2:=by simp only [List.length_cons,List.length_nil] at hlt'; omega
   refine .chk (by simp only [List.length_cons,List.length_nil]; omega) ?_
   have hget : ∃ x : Pg,([q.2.2.2.1,live] : List Pg)[m]? = some x ∧ Vh x.Out:=by
    match m,hlt' with
    | 0,_=>exact ⟨_,rfl,hlen⟩
    | 1,_=>exact ⟨_,rfl,hraw⟩
   obtain ⟨x,hx,hxl⟩:=hget
   rw [Int.toNat_natCast,hx,Option.bind_some]
   refine (AnO hL y hxl).bind fun a ha=>(AhH hL y hxl).bind fun b hb=>?_
   have hab : a = b:=by
    by_cases h : Qt q.1 f q.2.2.1 y ∧ Acc f x.Out
    ·exact (ha.1 h).unique (hb.1 h)
    ·rw [ha.2 h,hb.2 h]
   subst hab
   refine (AnN hL y hxl).bind fun c hc=>(AmZ hL y hxl).bind fun d hd=>?_
   have hcd : c = d:=hc.unique hd
   subst hcd
   have hsh : Hs (Sf q.1 q.2.1 q.2.2.1 y) fun e=>(e = 0 ∨ e = 13) ∧ (e = 0 ↔ Qt q.1 f q.2.2.1 y):=by
    unfold Sf
    rw [hL.hi,Option.bind_some]
    exact (Afq hL y).bind fun e he=>.pure he
   simp only [bne_self_eq_false,cond_false]
   refine hsh.bind fun u hu=>(Aeo hL y).bind fun v hv=>?_
   have huv : u = v:=by
    by_cases h : Qt q.1 f q.2.2.1 y
    ·rw [hu.2.2 h,hv.2.2 h]
    ·rcases hu.1 with h1 | h1
     ·exact (h (hu.2.1 h1)).elim
     rcases hv.1 with h2 | h2
     ·exact (h (hv.2.1 h2)).elim
     rw [h1,h2]
   subst huv
   simp only [bne_self_eq_false,cond_false,beq_self_eq_true,Bool.not_true]
   rw [Pl (by omega)]
   exact .cnt ⟨⟨m + 1,rfl,hlt'⟩,by simp only; omega⟩
  ·rw [Pl (by omega)]
   exact .cnt ⟨⟨k + 1,rfl,hlt⟩,by simp only; omega⟩
 refine .dec (fun h=>j2 true fun _=>.inl h) fun h1=>j2 _ fun h=>.inr (of_decide_eq_true h)
theorem Aeh (codes : List Int) (raw : Pc) (live : Pg) (hc : qL (QY .u8) codes) (_ : AgU raw) (hv : AiO live) : TV codes raw live = some true:=by
 obtain ⟨r,h,rfl⟩:=Afo codes raw live hc hv
 exact h
end Go.Proofs.YtnldnldmgceooaaGreatDoor
