/-
  Plain laws about the typed programs.
-/
import Derived.Test.YtcaoepecbgggcaaGreatDoorPa
import Derived.Test.YtcaoepecbgggcaaGreatDoorDxP
open BitVec renaming ofInt->aAZ
open Bool renaming cond_eq_ite->aAM,not_true->aAY
open Int renaming toNat_natCast->aAC,toNat_of_nonneg->aAS
open List renaming getElem?_eq_getElem->aAA,mem_of_getElem?->aAD,getElem_mem->aAE,getElem?_eq_some_iff->aAF,getElem?_of_mem->aAG,take_succ_eq_append_getElem->aAJ,take_of_length_le->aAK,getElem?_eq_none->aAL,take_length->aAN,find?_eq_none->aAP,ext_getElem?->aAQ,getElem?_append_left->aAT,getElem_cons_drop->aAV,take_append_drop->aAW,mem_iff_getElem?->aAX
open Nat renaming zero_le->aAB,not_lt_zero->aAH,le_refl->aAI,and_sub_one_eq_zero_iff_isPowerOfTwo->aAO,pow_le_pow_right->aAR,le_trans->aAU
open Option renaming bind_some->aA
namespace Go.Proofs.YtcaoepecbgggcaaGreatDoor
open Go Go.Dw Go.Proofs
variable {s a i:Int} {j k:Nat} {p:NG} {f:Mk} {c:BR} {l:List (List Int)} {r:NO} {used to ps:List Int} {x:Lo} {q:Int×Int×Bool} {sl:List NQ}
structure Azk (p:NG) (i:Int) (f:Mk) (al:Int):Prop where
 hi:ixO p.Funcs i=some f
 arg:AeC p f
 slots:AdV f.Slots
 alok:RZ al
 al16:16<=al
 al64:al<=16777216
 len':f.Code.length<=10000
def AbI (f:Mk) (y:NN) (k:Nat):Prop:=∃ o s,y.Off[k]? =some o/\f.Slots[k]? =some s/\y.Args<=o/\o.tmod s.Align=0/\InI ⟨o,s.Size⟩ y.Size
def QS (p:NG) (f:Mk) (al:Int) (y:NN):Prop :=
 y.Args=16*QA p f f.Code.length/\y.Off.length=f.Slots.length/\(∀ k:Nat,k<f.Slots.length->AbI f y k)/\y.Size.tmod al=0/\y.Args<=y.Size/\y.Size<=(Um p f al).Size
theorem AsB {s:List NQ} {a:Int}:∀ {k:Nat},k<=s.length->(plK s a k).1.length=k
 | 0,_=>by simp[plK]
 | k+1,hk=>by
  have ih:=AsB (s:=s) (a:=a) (k:=k) (by omega)
  grind [AhM,AkI]
theorem AvT {s:List NQ} {a:Int} {j:Nat} (hj:j<s.length):∀ {k:Nat},j<k->k<=s.length->(plK s a k).1[j]? =some (upN (plK s a j).2 s[j].Align)
 | 0,h,_=>absurd h (aAH _)
 | k+1,h,hk=>by
  rw[AhM hk];have hl:=AsB (a:=a) (show k<=s.length by omega)
  unfold AkI
  by_cases e:j=k
  ·simp_all
  ·rw[aAT (by omega)]
   exact AvT hj (by omega) (by omega)
theorem AvS {s:List NQ} (hj:j<s.length):(plK s a (j+1)).2=upN (plK s a j).2 s[j].Align+s[j].Size:=by rw[AhM hj];rfl
theorem Aro {s:List NQ} (h:AdV s) {a:Int} {j:Nat}:∀ {k:Nat},j<=k->k<=s.length->(plK s a j).2<=(plK s a k).2
 | 0,h,_=>by simp_all
 | k+1,hjk,hk=>by
  by_cases e:j=k+1
  ·simp_all
  have ih:=Aro h (a:=a) (j:=j) (k:=k) (by omega) (by omega)
  obtain⟨h1,h2,h3,h4⟩:=h.2 _ (aAE hk);obtain⟨u1,u2,_⟩:=VX (n:=(plK s a k).2) (a:=s[k].Align) (by have:=h1.rng;omega)
  grind [AvS]
section
variable {p:NG} {i:Int} {f:Mk} {al:Int} (h:Azk p i f al)
 include h
theorem AxS (y:NN):Hs (YG p i al y) λe=>(e=0\/e=13)/\(e=0↔QS p f al y):=by
 have hal:=h.al16;have hsl:=h.slots.1;have no:∀ {Q:Prop},(QS p f al y->False)->Hs (some (13:Int)) λe=>(e=0\/e=13)/\(e=0↔QS p f al y):=λhn=>.pure ⟨.inr rfl,⟨λh=>(by cases h),λh=>(hn h).elim⟩⟩
 unfold YG;rw[Arq h.hi h.len' h.arg h.slots h.alok h.al64,aA,h.hi,aA,AuN h.hi h.len' h.arg,aA];simp only[bne_self_eq_false,cond_false];refine .bne (λhA=>no (Q:=True) λhq=>hA hq.1) λhA=>.bne (λhL=>no (Q:=True) λhq=>hL (by rw[hq.2.1])) λhL=>?_
 have hL:y.Off.length=f.Slots.length:=by omega
 refine Hs.loop (λq=>∃ k:Nat,q=(k:Int)/\k<=f.Slots.length/\∀ j<k,AbI f y j) (λq=>f.Slots.length-q.toNat) ⟨0,rfl,aAB _,λj hj=>absurd hj (aAH _)⟩ ?_
 rintro _ ⟨k,rfl,hk,hall⟩;refine .dec (λhlt=>?_) λhge=>.lft ?_
 ·have hlt:k<f.Slots.length:=by omega
  have eo:y.Off[k]? =some (y.Off[k]'(by omega)):=aAA _
  have es:f.Slots[k]? =some f.Slots[k]:=aAA _;have hs:=(h.slots.2 _ (aAE hlt)).1.rng;generalize(y.Off[k]'(by omega))=o at eo
  generalize f.Slots[k]=s at es hs;have key:AbI f y k↔y.Args<=o/\o.tmod s.Align=0/\InI ⟨o,s.Size⟩ y.Size:=by
   grind [AbI]
  simp only[OE,eo,es,aA,Ate];refine .dec (λh1=>.lft (no (Q:=True) λhq=>?_)) λh1=>.chk (by omega) (.bne (λh2=>.lft (no (Q:=True) λhq=>?_)) λh2=>.cond (λh3=>.lft (no (Q:=True) λhq=>?_)) λh3=>?_)
  ·have:=key.1 (hq.2.2.1 k hlt);omega
  ·exact h2 (key.1 (hq.2.2.1 k hlt)).2.1
  ·rw[decide_eq_true (key.1 (hq.2.2.1 k hlt)).2.2]at h3;cases h3
  ·rw[NP (by omega)]
   refine .cnt ⟨⟨k+1,rfl,hlt,λj hj=>?_⟩,by grind⟩
   grind
 ·have hkk:k=f.Slots.length:=by omega
  subst hkk;refine .chk (by omega) (.bne (λh1=>no (Q:=True) λhq=>h1 hq.2.2.2.1) λh1=>.dec (λh2=>no (Q:=True) λhq=>?_) λh2=>.dec (λh3=>no (Q:=True) λhq=>?_) λh3=>.pure ⟨.inl rfl,⟨λ_=>⟨hA,hL,hall,h1,?_,?_⟩,λ_=>rfl⟩⟩)
  ·have:=hq.2.2.2.2.1;omega
  ·have:=hq.2.2.2.2.2;grind
  all_goals simp_all
theorem Axc:(plK f.Slots (16*QA p f f.Code.length) f.Slots.length).2<=(Um p f al).Size/\(Um p f al).Size<(plK f.Slots (16*QA p f f.Code.length) f.Slots.length).2+al/\(Um p f al).Size.tmod al=0/\0<=16*QA p f f.Code.length/\16*QA p f f.Code.length<=(plK f.Slots (16*QA p f f.Code.length) f.Slots.length).2/\(Um p f al).Size<=1000000000:=by
 have hr:=AbK h.arg (k:=f.Code.length) (aAI _);have hsl:=h.slots.1;have h16:=h.al16;have h64:=h.al64;have hp:=Akh h.slots (a:=16*QA p f f.Code.length) (by omega) (aAI _)
 obtain⟨u1,u2,u3⟩:=VX (n:=(plK f.Slots (16*QA p f f.Code.length) f.Slots.length).2) (a:=al) (by omega)
 refine⟨u1,u2,?_,by omega,hp.2.1,?_⟩
 ·show(upN _ al).tmod al=0
  grind
 ·show upN _ al<=1000000000;omega
theorem Ayo (hk:k<f.Slots.length):∃ o,(Um p f al).Off[k]? =some o/\(plK f.Slots (16*QA p f f.Code.length) k).2<=o/\o+f.Slots[k].Size=(plK f.Slots (16*QA p f f.Code.length) (k+1)).2/\o.tmod f.Slots[k].Align=0:=by
 have hr:=AbK h.arg (k:=f.Code.length) (aAI _);have hp:=Akh h.slots (a:=16*QA p f f.Code.length) (by omega) (show k<=f.Slots.length by omega)
 obtain⟨h1,h2,h3,h4⟩:=h.slots.2 _ (aAE hk);obtain⟨u1,u2,u3⟩:=VX (n:=(plK f.Slots (16*QA p f f.Code.length) k).2) (a:=f.Slots[k].Align) (by have:=h1.rng;omega)
 refine⟨_,AvT hk hk (aAI _),u1,(AvS hk).symm,?_⟩
 grind
theorem Awg:QS p f al (Um p f al):=by
 obtain⟨b1,b2,b3,b4,b5,b6⟩:=Axc h;refine⟨rfl,AsB (aAI _),λk hk=>?_,b3,?_,Int.le_refl _⟩
 ·obtain⟨o,e1,e2,e3,e4⟩:=Ayo h hk;have m1:=Aro h.slots (a:=16*QA p f f.Code.length) (j:=0) (k:=k) (by omega) (by omega)
  have m2:=Aro h.slots (a:=16*QA p f f.Code.length) (j:=k+1) (k:=f.Slots.length) hk (aAI _);have m0:(plK f.Slots (16*QA p f f.Code.length) 0).2=16*QA p f f.Code.length:=rfl;have hs:=(h.slots.2 _ (aAE hk)).2.2;refine⟨o,f.Slots[k],e1,aAA _,?_,e4,⟨?_,?_⟩⟩
  ·show 16*QA p f f.Code.length<=o;omega
  ·refine⟨?_,?_,?_,?_,?_⟩<;>simp only<;>omega
  grind
 ·show 16*QA p f f.Code.length<=_;omega
end
open Go Go.Dw Go.Proofs
structure Aix (p:NG) (i:Int) (f:Mk) (al:Int):Prop where
 hi:ixO p.Funcs i=some f
 arg:AeC p f
 slots:AdV f.Slots
 alok:RZ al
 al16:16<=al
 al64:al<=16777216
 SW:Oi f
 defs:PW f
 ml:AbH f
theorem Aix.bas {al:Int} (h:Aix p i f al):Azk p i f al:=⟨h.hi,h.arg,h.slots,h.alok,h.al16,h.al64,h.SW.len'⟩
section
variable {p:NG} {i:Int} {f:Mk} {al:Int} (h:Aix p i f al)
 include h
theorem AqR (y:NN):Hs (YG p i al y) λe=>(e=0\/e=13)/\(e=0↔QS p f al y):=AxS h.bas y
end
open Go Go.Dw Go.Proofs
section
variable {p:NG} {i:Int} {f:Mk} {al:Int} (h:Aix p i f al)
 include h
theorem AxH (y:NN) (hl:y.Off.length=f.Slots.length) (hk:k<f.Slots.length):Hs (Ru ⟨p,i,al,f,y⟩ (k:Int)) λb=>b=true↔AbI f y k:=by
 have eo:y.Off[k]? =some (y.Off[k]'(by omega)):=aAA _
 have es:f.Slots[k]? =some f.Slots[k]:=aAA _;have hs:=(h.slots.2 _ (aAE hk)).1.rng;generalize(y.Off[k]'(by omega))=o at eo
 generalize f.Slots[k]=s at es hs;have key:AbI f y k↔y.Args<=o/\o.tmod s.Align=0/\InI ⟨o,s.Size⟩ y.Size:=by
  grind [AbI]
 rw[key];unfold Ru;simp only[OE,eo,aA];refine .dec (λh1=>?_) λh1=>.pure ⟨λh=>(by cases h),λh=>(h1 h.1).elim⟩
 simp only[es,aA];refine .chk (by omega) (.beq (λh2=>?_) λh2=>.pure ⟨λh=>(by cases h),λh=>(h2 h.2.1).elim⟩)
 unfold Pl;simp only[OE,eo,es,aA,Awy];exact .pure ⟨λh=>⟨h1,h2,of_decide_eq_true h⟩,λh=>decide_eq_true h.2.2⟩
theorem AwG (y:NN):Hs (RT ⟨p,i,al,f,y⟩) λe=>(e=0\/e=13)/\(e=0↔QS p f al y):=by
 have hal:=h.al16;have hsl:=h.slots.1;have no:∀ {Q:Prop},(QS p f al y->False)->Hs (some (13:Int)) λe=>(e=0\/e=13)/\(e=0↔QS p f al y):=λhn=>.pure ⟨.inr rfl,⟨λh=>(by cases h),λh=>(hn h).elim⟩⟩
 unfold RT;rw[AuH h.hi h.SW.len' h.arg h.slots h.alok h.al64,aA,AuG h.hi h.SW.len' h.arg,aA];simp only[bne_self_eq_false,cond_false];refine .bne (λhA=>no (Q:=True) λhq=>hA hq.1) λhA=>.bne (λhL=>no (Q:=True) λhq=>hL (by rw[hq.2.1])) λhL=>?_
 have hL:y.Off.length=f.Slots.length:=by omega
 refine Hs.loop (λq=>∃ k:Nat,q=(k:Int)/\k<=f.Slots.length/\∀ j<k,AbI f y j) (λq=>f.Slots.length-q.toNat) ⟨0,rfl,aAB _,λj hj=>absurd hj (aAH _)⟩ ?_
 rintro _ ⟨k,rfl,hk,hall⟩;refine .dec (λhlt=>?_) λhge=>.lft ?_
 ·have hlt:k<f.Slots.length:=by simp_all
  refine(AxH h y hL hlt).bind λb hb=>.cond (λhb'=>.lft (no (Q:=True) λhq=>?_)) λhb'=>?_
  ·have:=hb.2 (hq.2.2.1 k hlt);simp_all
  ·rw[NP (by omega)]
   refine .cnt ⟨⟨k+1,rfl,hlt,λj hj=>?_⟩,by grind⟩
   grind
 ·have hkk:k=f.Slots.length:=by grind
  subst hkk;refine .chk (by grind) (.bne (λh1=>no (Q:=True) λhq=>h1 hq.2.2.2.1) λh1=>.dec (λh2=>no (Q:=True) λhq=>?_) λh2=>.dec (λh3=>no (Q:=True) λhq=>?_) λh3=>.pure ⟨.inl rfl,⟨λ_=>⟨hA,hL,hall,h1,?_,?_⟩,λ_=>rfl⟩⟩)
  ·have:=hq.2.2.2.2.1;grind
  ·have:=hq.2.2.2.2.2;grind
  all_goals simp_all
end
open Go Go.Dw Go.Proofs
theorem Aww (h:okC c) {al:Int} (hL:Aix p i f al) (hlast:Ux f) (hc:Acy p.Funcs.length f) (hp:p.Funcs.length<=1000):Hs (Vm c p i al) λq=>okC q.2:=by
 have hr:=AbK hL.arg (k:=f.Code.length) (aAI _);have hbl:(Um p f al).Off.length<=40:=by
  have:=(Akh hL.slots (a:=16*QA p f f.Code.length) (by omega) (k:=f.Slots.length) (aAI _)).1
  have:=hL.slots.1
  grind [Um]
 have j1:∀ {l:List Int} {a:Int} (y z:Int) {x:List Int},okC ⟨l,a⟩->x.length<=40->Hs (QI l a y z x) λq=>okC q.2:=by
  intro l a y z x hc hx;unfold QI;refine .chk (by simp;omega) ((Od hc (by omega) (by omega)).bind λr hr=>?_)
  refine Hs.loop (λs=>okC ⟨s.1,s.2.1⟩/\(s.2.2.1.length:Int)+s.2.2.2.2.2<=60/\0<=s.2.2.2.2.2) (λs=>s.2.2.2.2.2.toNat) ⟨hr.1,by grind,hr.2.1⟩ ?_
  rintro⟨l,a,x,y,z,n⟩ ⟨hc,hx,hn0⟩;replace hx:(x.length:Int)+n<=60:=hx;replace hn0:0<=n:=hn0;have w:IntKind.i64.wrap (n-1)=n-1:=wrap64 (by omega) (by omega)
  unfold VB;dsimp only;refine .dec (λhp=>?_) λ_=>.lft (.pure hc)
  have hp:0<n:=hp;have fin:∀ {l':List Int} {a':Int} (x':List Int) (y' z':Int),okC ⟨l',a'⟩->x'.length<=x.length+1->Hs (cnt (l',a',x',y',z',IntKind.i64.wrap (n-1)):Option ((List Int×Int×List Int×Int×Int×Int)⊕(NN×BR))) (Rnd (λs=>okC ⟨s.1,s.2.1⟩/\(s.2.2.1.length:Int)+s.2.2.2.2.2<=60/\0<=s.2.2.2.2.2) (λs=>s.2.2.2.2.2.toNat) (l,a,x,y,z,n) λq=>okC q.2):=by
   intro l' a' x' y' z' hc' hx';exact .cnt ⟨⟨hc',by grind,by grind⟩,by grind⟩
  have hm:1<=OX 1 (x.length:Int)/\OX 1 (x.length:Int)<=70:=by grind [OX]
  refine(Od hc hm.1 (by omega)).bind λr hr=>(Od hr.1 (by omega) (by omega)).bind λu hu=>?_
  have kx:∀ {b:Bool},(b=true->r.1<(x.length:Int))->(b=true->r.1.toNat<x.length):=λhb e=>by simp_all
  have j5:∀ {l':List Int} {a':Int} (b:Bool),okC ⟨l',a'⟩->(b=true->r.1<(x.length:Int))->Hs (Td r x y z n l' a' b) (Rnd (λs=>okC ⟨s.1,s.2.1⟩/\(s.2.2.1.length:Int)+s.2.2.2.2.2<=60/\0<=s.2.2.2.2.2) (λs=>s.2.2.2.2.2.toNat) (l,a,x,y,z,n) λq=>okC q.2):=by
   intro l' a' b hc' hb;refine .cond (λe=>(AmS hc').bind λv hv=>.chk (by simp_all) ((Hs.get (P:=λ_=>True) (by omega) (by simp_all) λ_ _=>trivial).bind λ_ _=>fin _ _ _ hv.1 (by simp))) λ_=>fin _ _ _ hc' (by omega)
  have j4:∀ b:Bool,Hs (Tc r x u y z n b) (Rnd (λs=>okC ⟨s.1,s.2.1⟩/\(s.2.2.1.length:Int)+s.2.2.2.2.2<=60/\0<=s.2.2.2.2.2) (λs=>s.2.2.2.2.2.toNat) (l,a,x,y,z,n) λq=>okC q.2):=by
   intro b;refine .cond (λ_=>.dec (λhlt=>?_) λ_=>fin _ _ _ hu.1 (by omega)) λ_=>.beq (λ_=>(Od hu.1 (by omega) (by omega)).bind λv hv=>fin _ _ _ hv.1 (by omega)) λ_=>.beq (λ_=>.dec (λhlt=>(Od hu.1 (by omega) (by omega)).bind λv hv=>j5 _ hv.1 λ_=>hlt) λ_=>j5 false hu.1 λe=>by cases e) λ_=>.beq (λ_=>?_) λ_=>fin _ _ _ hu.1 (by omega)
   ·refine(Od hu.1 (n:=(x.length:Int)) (by omega) (by omega)).bind λv hv=>.chk (by omega) ((Hs.get (P:=λ_=>True) (by omega) (by omega) λ_ _=>trivial).bind λq _=>.chk (by omega) ((Hs.get (P:=λ_=>True) (by omega) (by omega) λ_ _=>trivial).bind λ_ _=>fin _ _ _ hv.1 (by simp)))
   ·refine(Od hu.1 (by omega) (by omega)).bind λv hv=>.beq (λ_=>(AmS hv.1).bind λw hw=>fin _ _ _ hw.1 (by omega)) λ_=>.beq (λ_=>(AmS hv.1).bind λw hw=>fin _ _ _ hw.1 (by omega)) λ_=>.beq (λ_=>(Od hv.1 (by omega) (by omega)).bind λw hw=>.chk (by simp;omega) (fin _ _ _ hw.1 (by simp))) λ_=>fin _ _ _ hv.1 (by omega)
  have j3:∀ b:Bool,Hs (RQ r x u y z n b) (Rnd (λs=>okC ⟨s.1,s.2.1⟩/\(s.2.2.1.length:Int)+s.2.2.2.2.2<=60/\0<=s.2.2.2.2.2) (λs=>s.2.2.2.2.2.toNat) (l,a,x,y,z,n) λq=>okC q.2):=by
   intro b;refine .cond (λ_=>.dec (λhlt=>(Od hu.1 (by omega) (by omega)).bind λv hv=>.chk (by omega) ((Hs.get (P:=λ_=>True) (by omega) (by omega) λ_ _=>trivial).bind λ_ _=>fin _ _ _ hv.1 (by simp))) λ_=>fin _ _ _ hu.1 (by omega)) λ_=>.cond (λ_=>j4 _) λ_=>j4 _
  grind
 unfold Vm;rw[Arq hL.hi hL.SW.len' hL.arg hL.slots hL.alok hL.al64,aA];refine(Od h (by omega) (by omega)).bind λr hr=>.cond (λ_=>?_) λ_=>j1 _ _ hr.1 hbl
 refine(AnS hL.hi hL.SW hL.defs hL.ml hlast hc hp).bind λq _=>.cond (λe=>j1 _ _ hr.1 ?_) λ_=>j1 _ _ hr.1 hbl
 grind
attribute [local simp] OO aAM
open Go Go.Dw Go.Proofs
def alS (f:Mk) (t:Int):Int:=((f.Slots[t.toNat]?).map NQ.Align).getD 0
def Afa (f:Mk) (l:List Int) (a0 a:Int):Prop:=a0<=a/\(∀ t∈l,alS f t<=a)/\(a=a0\/∃ t∈l,a=alS f t)
theorem Afa.unique {l l':List Int} {a0 b:Int} (h:Afa f l a0 a) (k:Afa f l' a0 b) (e:∀ t,t∈l↔t∈l'):a=b:=by
 obtain⟨h1,h2,h3⟩:=h;obtain⟨k1,k2,k3⟩:=k
 grind
theorem Afa.nil (f:Mk) (a:Int):Afa f [] a a:=⟨Int.le_refl _,λt h=>(by cases h),.inl rfl⟩
theorem Afa.snoc {l:List Int} {a0:Int} (h:Afa f l a0 a) (t:Int):Afa f (l++[t]) a0 (max a (alS f t)):=by
 obtain⟨h1,h2,h3⟩:=h;refine⟨by omega,λu hu=>?_,?_⟩
 all_goals grind
def Ayi (to:List Int) (s:Int) (l:List Int):Prop:=∀ t,t∈l↔∃ j:Nat,j<to.length/\t=(j:Int)/\Oa to j=s
def AtV (f:Mk) (r:NO) (used:List Int):Prop:=Ul used λv=>∃ k:Nat,k<f.Code.length/\Oh r.Keep k=true/\v∈OD (rnI r.To (NF f k))
structure Ze (f:Mk) (r:NO) (used:List Int) (out:List NQ):Prop where
 len:out.length=used.length
 at_:∀ (i:Nat) (u:Int) (y:NQ),used[i]? =some u->out[i]? =some y->∃ x l,f.Slots[u.toNat]? =some x/\y.Size=x.Size/\Ayi r.To u l/\Afa f l x.Align y.Align
theorem Ze.unique {a b:List NQ} (h:Ze f r used a) (k:Ze f r used b):a=b:=by
 refine aAQ λi=>?_
 by_cases hi:i<used.length
 ·have e1:a[i]? =some (a[i]'(by have:=h.len;omega)):=aAA _
  have e2:b[i]? =some (b[i]'(by have:=k.len;omega)):=aAA _
  have hu:used[i]? =some used[i]:=aAA _;obtain⟨x,l,x1,x2,x3,x4⟩:=h.at_ i _ _ hu e1;obtain⟨x',l',y1,y2,y3,y4⟩:=k.at_ i _ _ hu e2;rw[x1]at y1;cases y1;rw[e1,e2];have ea:=x4.unique y4 λt=>(x3 t).trans (y3 t).symm
  congr 1;generalize a[i]'_=p at *;generalize b[i]'_=q at *;cases p;cases q;simp_all
 ·rw[aAL (by have:=h.len;omega),aAL (by have:=k.len;omega)]
def AtO (r:NO) (used to:List Int):Prop:=to.length=r.To.length/\∀ (s:Nat) x,to[s]? =some x->Oa r.To s∈used->0<=x/\used[x.toNat]? =some (Oa r.To s)
def Amv (r:NO) (pl:List Int):Prop:=pl.length=r.Keep.length/\∀ j:Nat,j<r.Keep.length->pl[j]? =some (kept r.Keep j:Int)
theorem Amv.unique {a b:List Int} (h:Amv r a) (k:Amv r b):a=b:=by
 refine aAQ λj=>?_
 by_cases hj:j<r.Keep.length
 ·rw[h.2 j hj,k.2 j hj]
 ·rw[aAL (by have:=h.1;omega),aAL (by have:=k.1;omega)]
theorem AxP {to':List Int} (h:∀ s∈OD x,rnS to s=rnS to' s):rnI to x=rnI to' x:=by
 simp_all[rnI,OD,Pc]
theorem OH.inj {l:List Int} (h:OH l) {i:Nat} {v:Int} (hi:l[i]? =some v) (hj:l[j]? =some v):i=j:=by
 obtain⟨a1,a2⟩:=aAF.1 hi;obtain⟨b1,b2⟩:=aAF.1 hj;have hp:=List.pairwise_iff_getElem.1 h.1
 grind
theorem AmP {α β:Type} {f g:α->Option β}:∀ {l:List α},(∀ x∈l,f x=g x)->l.filterMap f=l.filterMap g
 | [],_=>rfl
 | a::l,h=>by
  have h0:=h a (List.mem_cons_self ..);have h1:=AmP (l:=l) λx hx=>h x (List.mem_cons_of_mem _ hx)
  grind
theorem AwJ (hf:Oi f) (hd:PW f) (hr:Rz f r) {to' pl:List Int} (hs:OH used) (hu:∀ k:Nat,k<f.Code.length->Oh r.Keep k=true->∀ v∈OD (rnI r.To (NF f k)),v∈used) (h:AtO r used to) (h':AtO r used to') :
  TZ f r.Keep to pl f.Code.length=TZ f r.Keep to' pl f.Code.length:=by
 have hrl:=hr.1.1;unfold TZ;refine AmP λj hj=>?_
 have hj:=List.mem_range.1 hj
 by_cases hk:Oh r.Keep j=true
 ·have hxm:=(hf.at (j:=(j:Int)) (by omega) (by omega)).2
  rw[AxP λs hs'=>?_]
  obtain⟨h0,h1⟩:=AlJ hf hd hxm hs';have hm:=hu j hj hk (rnS r.To s) ((AhH _ _ _).2 ⟨s,hs',rfl⟩);rw[(hr.1.rng h0 h1).2.2]at hm;have one:∀ {t:List Int},AtO r used t->rnS t s=Oa t s/\0<=Oa t s/\used[(Oa t s).toNat]? =some (Oa r.To s):=fun{t} ht=>by
   have htl:=ht.1;have hg:=Qu (to:=t) (s:=s) h0 (by omega)
   have:=ht.2 s.toNat _ hg;rw[aAS h0]at this;simp_all[rnS]
  obtain⟨a1,a2,a3⟩:=one h;obtain⟨b1,b2,b3⟩:=one h';have:=hs.inj a3 b3;omega
 simp_all
def AfP (f:Mk) (r:NO) (q:Mk×Int):Prop:=q.2=0/\q.1.Params=f.Params/\∃ used to pl:List Int,AtV f r used/\Ze f r used q.1.Slots/\AtO r used to/\Amv r pl/\q.1.Code=TZ f r.Keep to pl f.Code.length
theorem AfP.unique (hf:Oi f) (hd:PW f) (hr:Rz f r) {q q':Mk×Int} (h:AfP f r q) (k:AfP f r q'):q=q':=by
 obtain⟨h1,h2,used,to,pl,h3,h4,h5,h6,h7⟩:=h;obtain⟨k1,k2,used',to',pl',k3,k4,k5,k6,k7⟩:=k;have e1:used=used':=Ul.eq h3 k3 λv _ _=>Iff.rfl
 subst e1;have e2:=h6.unique k6;subst e2;have hm:∀ k:Nat,k<f.Code.length->Oh r.Keep k=true->∀ v∈OD (rnI r.To (NF f k)),v∈used:=λj hj hk v hv=>by
  have hsl:=hf.slots;have hxm:=(hf.at (j:=(j:Int)) (by omega) (by omega)).2
  have:=AfL hf hd hr.1 hxm v hv;exact(h3.2 v).2 ⟨⟨this.1,by omega⟩,j,hj,hk,hv⟩
 rw[AwJ hf hd hr h3.1 hm h5 k5]at h7;obtain⟨⟨p,s,c⟩,e⟩:=q;obtain⟨⟨p',s',c'⟩,e'⟩:=q';simp only at *;rw[h1,k1,h2,k2,h7,k7,h4.unique k4]
section
variable {f:Mk}
theorem Axa (_hsl:f.Slots.length<=500) {x:NQ} {out:List NQ} {i:Nat} (hi:i<=1000) {l:List Int} (hll:l.length<=1000) (ho:out.length=i) (hl:∀ t∈l,0<=t/\t<f.Slots.length) {I:List NQ×Int->Prop} {μ:List NQ×Int->Nat} {s0:List NQ×Int} {Q:Mk×Int->Prop}
  (hI:∀ y:NQ,y.Size=x.Size->Afa f l x.Align y.Align->Rnd I μ s0 Q (.inl (out++[y],((i+1:Nat):Int)))):Hs (NU (λs=>ZE l f out x (i:Int) s.1 s.2) (x.Align,0)) (Rnd I μ s0 Q):=by
 refine Hs.loop (λs=>∃ k:Nat,s.2=(k:Int)/\k<=l.length/\Afa f (l.take k) x.Align s.1) (λs=>l.length-s.2.toNat) ⟨0,rfl,aAB _,by grind [Afa.nil]⟩ ?_
 rintro⟨a,_⟩ ⟨k,rfl,hk,hm⟩;refine .dec (λhlt=>?_) λhge=>.lft (.chk (by simp;omega) (.chk (by simp;omega) ?_))
 ·have hlt:k<l.length:=by omega
  have hg:l[k]? =some l[k]:=aAA _;have htk:l.take (k+1)=l.take k++[l[k]]:=by simp_all
  have ht:=hl _ (aAE hlt);generalize l[k]=t at hg htk ht;refine .chk (by omega) ?_
  rw[aAC,hg,aA];refine(Hs.ix (P:=λy=>alS f t=y.Align) ht.1 ht.2 λy hy=>by grind [alS]).bind λy hy=>?_
  rw[NP (by omega),AsA,<- hy]
  refine .cnt ⟨⟨k+1,rfl,hlt,?_⟩,by grind⟩
  rw[htk];exact hm.snoc t
 ·have hkk:k=l.length:=by omega
  subst hkk;rw[aAN]at hm;unfold ZF;rw[NP (by omega)]
  exact .cnt (hI _ rfl hm)
theorem Ze.snoc {out:List NQ} {i:Nat} (ho:out.length=i) (hi:i<=used.length) (h:Ze f r (used.take i) out) {u:Int} (hu:used[i]? =some u) {x y:NQ} {l:List Int} (hx:f.Slots[u.toNat]? =some x) (h1:y.Size=x.Size) (hl:Ayi r.To u l) (h2:Afa f l x.Align y.Align):Ze f r (used.take (i+1)) (out++[y]):=by
 have hlt:=(aAF.1 hu).1;refine⟨by grind,λj v z hv hz=>?_⟩
 by_cases e:j<i
 ·rw[aAT (by omega)]at hz
  refine h.at_ j v z ?_ hz
  grind
 grind
theorem ABa (hf:Oi f) (hd:PW f) (hr:Rz f r):Hs (Adf f r) λl=>AtV f r l/\Ov f.Slots.length l:=by
 have hlen:=hf.len';have hsl:=hf.slots;have hkl:=hr.2.1;refine Hs.loop (λs=>∃ k:Nat,s.2=(k:Int)/\k<=f.Code.length/\Ov f.Slots.length s.1/\∀ v,v∈s.1↔∃ j:Nat,j<k/\Oh r.Keep j=true/\v∈OD (rnI r.To (NF f j))) (λs=>f.Code.length-s.2.toNat) ⟨0,rfl,aAB _,Ov.nil _,λv=>⟨λh=>(by cases h),λ⟨j,hj,_⟩=>absurd hj (aAH _)⟩⟩ ?_
 rintro⟨l,_⟩ ⟨k,rfl,hk,hs,hj⟩;replace hs:Ov f.Slots.length l:=hs;have split:∀ v,(∃ j:Nat,j<k+1/\Oh r.Keep j=true/\v∈OD (rnI r.To (NF f j)))↔v∈l\/(Oh r.Keep k=true/\v∈OD (rnI r.To (NF f k))):=λv=>by
  grind
 refine .dec (λhlt=>.dec (λ_=>?_) λh=>?_) λhge=>.lft (.pure ⟨⟨hs.1,λv=>?_⟩,hs⟩)
 ·have hlt:k<f.Code.length:=by omega
  have hx:=hf.at (j:=(k:Int)) (by omega) (by omega)
  rw[aAC]at hx;have hg:r.Keep[k]? =some (Oh r.Keep k):=by grind [Oh]
  have hnr:=AfL hf hd hr.1 hx.2;unfold AaL;simp only[OE,hg,hx.1,aA,AuS,Aub,Aki,NP (show k<9223372036854775807 by omega)]
  refine .cond (λh=>.cnt ⟨⟨k+1,rfl,hlt,hs,λv=>?_⟩,by grind⟩) λh=>?_
  ·simp_all
  ·have hkt:Oh r.Keep k=true:=by simp_all
   obtain⟨y,hy⟩:∃ y,y=rnI r.To (NF f k):=⟨_,rfl⟩;rw[<- hy]at hnr ⊢;have hul:(Pc y).length<=1:=by grind [Pc]
   have hll:=hs.1.length_le;rw[union_eq _ _ (by omega),aA]
   obtain⟨u1,u2⟩:=VQ (n:=f.Slots.length) (by omega) (b:=Pc y) (a:=l) hs (λx hx=>hnr x (by grind [OD]))
   by_cases hdy:y.Op=16\/y.Op=17
   ·simp only[Ajo,if_pos hdy,cond_true];have hA:=hnr y.A (by simp_all[OD])
    obtain⟨a1,a2⟩:=Ov.add (n:=f.Slots.length) u1 hA (by omega)
    have a3:=(Ov.AlZ u1 hA (by omega)).2.2
    rw[a2,aA];refine .cnt ⟨⟨k+1,rfl,hlt,a1,λv=>?_⟩,by grind⟩
    show v∈RO y.A (QD l (Pc y))↔_;rw[split v,a3,u2,<- hy];unfold OD
    grind
   ·simp only[Ajo,if_neg hdy,cond_false];refine .cnt ⟨⟨k+1,rfl,hlt,u1,λv=>?_⟩,by grind⟩
    simp_all[OD]
 ·omega
 ·have hkk:k=f.Code.length:=by omega
  subst hkk;constructor
  ·intro h;have:=hs.2 v h;exact⟨⟨(hs.1.2 v h).1,by omega⟩,(hj v).1 h⟩
  simp_all
theorem AyT (hf:Oi f) (hd:PW f) (hr:Rz f r):Hs (Qe f r) (AfP f r):=by
 have hlen:=hf.len';have hsl:=hf.slots;have hkl:=hr.2.1;have htl:=hr.1.1;refine(Aep hf r).bind λe he=>.bne (λh=>(h (he.2.2 hr)).elim) λ_=>?_
 refine(ABa hf hd hr).bind λused ⟨hu0,hu1⟩=>?_
 have hul:=hu1.1.length_le;refine Hs.loop (λs=>∃ i:Nat,s.2=(i:Int)/\i<=used.length/\s.1.length=i/\Ze f r (used.take i) s.1) (λs=>used.length-s.2.toNat) ⟨0,rfl,aAB _,rfl,rfl,λj u y hj=>by simp at hj⟩ ?_
 rintro⟨out,_⟩ ⟨i,rfl,hi,ho,hsa⟩;refine .dec (λhlt=>?_) λhge=>.lft ?_
 ·have hlt:i<used.length:=by omega
  have hgx:used[i]? =some used[i]:=aAA _;have hxm:=aAE hlt;generalize used[i]=u at hgx hxm;have h0:=(hu1.1.2 u hxm).1;have h1:=hu1.2 u hxm;refine .chk (by omega) ?_
  simp only[aAC,hgx,aA];refine(Hs.ix (P:=λx=>f.Slots[u.toNat]? =some x) h0 h1 λx hx=>hx).bind λx hfx=>.chk (by omega) ?_
  refine(Aqb (by omega) u).bind λl hm=>?_
  refine Axa hsl (by omega) (l:=l) (by omega) ho (λt ht=>?_) λy hy1 hy2=>⟨⟨i+1,rfl,hlt,by simp[ho],hsa.snoc ho (by omega) hgx hfx hy1 hm.2 hy2⟩,by grind⟩
  grind
 have hii:i=used.length:=by omega
 subst hii;rw[aAN]at hsa;refine(ArT (by omega) hul).bind λto ⟨n1,n2⟩=>(Atj r (by omega)).bind λpl ⟨p1,p2⟩=>?_
 refine(AtX hf hkl to pl p1 out).mono λq hq=>?_
 subst hq;exact⟨rfl,rfl,used,to,pl,hu0,hsa,⟨n1,λs x hs hm=>⟨(n2 s x hs).1,(n2 s x hs).2 hm⟩⟩,⟨p1,p2⟩,rfl⟩
end
open Go Go.Dw Go.Proofs
theorem RZ.max {b:Int} (ha:RZ a) (hb:RZ b):RZ (OX a b):=by grind [OX]
theorem AyX {B:Int} (hB:16<=B) {s:List NQ} (hl:s.length<=512) (h:∀ x∈s,RZ x.Align/\x.Align<=B):Hs (Uu s) λa=>RZ a/\16<=a/\a<=B:=by
 have a16:RZ 16:=Yq 4 (by omega)
 unfold Uu;refine(ApT s).bind λe he=>.bne (λ_=>.pure ⟨a16,by omega,by omega⟩) λ_=>?_
 refine Hs.loop (λq=>∃ k:Nat,q.2=(k:Int)/\k<=s.length/\RZ q.1/\16<=q.1/\q.1<=B) (λq=>s.length-q.2.toNat) ⟨0,rfl,aAB _,a16,by omega,by omega⟩ ?_
 rintro⟨a,_⟩ ⟨k,rfl,hk,h1,h2,h3⟩;replace h2:16<=a:=h2;replace h3:a<=B:=h3;unfold Zr;dsimp only;refine .dec (λhlt=>?_) λ_=>.lft (.pure ⟨h1,h2,h3⟩)
 have hlt:k<s.length:=by omega
 rw[NP (by omega)]
 refine(Hs.ix (by omega) (by omega) λx hx=>h x (aAD hx)).bind λx hx=>.cnt ⟨⟨k+1,rfl,hlt,h1.max hx.1,?_,?_⟩,by grind⟩
 all_goals grind [OX]
theorem AyN {B:Int} (hB:16<=B) (hp:p.Funcs.length<=1000) (h:∀ f∈p.Funcs,f.Slots.length<=512/\∀ x∈f.Slots,RZ x.Align/\x.Align<=B):Hs (RK p) λa=>RZ a/\16<=a/\a<=B:=by
 have a16:RZ 16:=Yq 4 (by omega)
 unfold RK;refine Hs.loop (λq=>∃ k:Nat,q.2=(k:Int)/\k<=p.Funcs.length/\RZ q.1/\16<=q.1/\q.1<=B) (λq=>p.Funcs.length-q.2.toNat) ⟨0,rfl,aAB _,a16,by omega,by omega⟩ ?_
 rintro⟨a,_⟩ ⟨k,rfl,hk,h1,h2,h3⟩;replace h2:16<=a:=h2;replace h3:a<=B:=h3;unfold AcT;dsimp only;refine .dec (λhlt=>?_) λ_=>.lft (.pure ⟨h1,h2,h3⟩)
 have hlt:k<p.Funcs.length:=by omega
 rw[NP (by omega)]
 refine(Hs.ix (by omega) (by omega) λx hx=>h x (aAD hx)).bind λx hx=>(AyX hB hx.1 hx.2).bind λb hb=>.cnt ⟨⟨k+1,rfl,hlt,h1.max hb.1,?_,?_⟩,by grind⟩
 all_goals grind [OX]
theorem Si.args {most:Int} (h:Si ps i most f) (hi:0<=i) (hl:p.Funcs.length=ps.length) (hps:ApY ps) (hall:∀ (j:Nat) g,p.Funcs[j]? =some g->Si ps j most g):AeC p f:=by
 intro x hx;obtain⟨k,hk⟩:=aAG hx;have hkl:=(aAF.1 hk).1
 by_cases hk1:k+1<f.Code.length
 ·have hins:=h.body k x hk hk1;cases hins with
  | call j h0 h1 =>
   refine⟨λe=>by simp at e,λ_=>⟨by grind,?_⟩⟩
   have hg:p.Funcs[j.toNat]? =some (p.Funcs[j.toNat]'(by omega)):=aAA _
   have:=(hall _ _ hg).par;have:=hps.1 _ (aAD this)
   grind
  | arg a b h0 h1 h2=>grind
  | bin op a b c h1 h2 h3 h4 h5 h6=>grind
  | un op a h1 h2=>grind
  | _=>exact⟨λe=>by simp at e,λe=>by simp at e⟩
 ·have he:=h.last x (by grind)
  rcases he with rfl|⟨w,_,rfl⟩<;>exact⟨λe=>by simp at e,λe=>by simp at e⟩
def AiL (n:Nat) (f:Mk):Prop:=∀ x∈f.Code,x.Op=22->0<=x.A/\x.A<n
theorem AvH {n:Nat} (h:AiL n f) {keep:List Bool} {pl:List Int} (hk:f.Code.length<=keep.length):∀ x∈TZ f keep to pl f.Code.length,x.Op=22->0<=x.A/\x.A<n:=by
 intro x hx hop;obtain⟨p,hp⟩:=aAG hx;obtain⟨j,h1,_,_,rfl⟩:=(WE (f:=f) (keep:=keep) (to:=to) (pl:=pl) _ hk).2 p x hp;have hm:NF f (j:Nat)∈f.Code:=by
  grind [NF]
 have ho:(mvI pl (rnI to (NF f (j:Nat)))).Op=(NF f (j:Nat)).Op:=by
  refine Eq.trans ?_ (Ahd to _)
  grind [mvI]
 rw[ho]at hop;have e:mvI pl (rnI to (NF f (j:Nat)))=NF f (j:Nat):=by grind [mvI,rnI]
 rw[e];exact h _ hm hop
theorem Avj (hf:Oi f) (hd:PW f) (hlast:Ux f) {n:Nat} (hc:AiL n f) (hr:Rz f r):Hs (Qe f r) λq=>q.2=0/\Oi q.1/\PW q.1/\AiL n q.1:=by
 obtain⟨q,e,h1,h2,h3⟩:=ArE hf hd hlast hr;obtain⟨q',e',_,used,to,pl,_,_,_,_,_,_,_,_,cd⟩:=AqZ hf hd hr;rw[e]at e';cases e';refine⟨q,e,h1,h2,h3,?_⟩;unfold AiL;rw[cd];exact AvH hc (by rw[hr.2.1];omega)
section
variable {p:NG} {i:Int} {f:Mk}
theorem Ze.ABm (hs:∀ x∈f.Slots,AjT x) (htl:r.To.length=f.Slots.length) {out:List NQ} (h:Ze f r used out):∀ y∈out,AjT y:=by
 intro y hy;obtain⟨j,hj⟩:=aAG hy;have hjl:=(aAF.1 hj).1;have hu:used[j]? =some (used[j]'(by rw[<- h.len];exact hjl)):=aAA _
 obtain⟨x,l,h1,h2,h3,h4⟩:=h.at_ j _ y hu hj;have hx:=hs x (aAD h1);unfold AjT;rw[h2];refine⟨hx.1,?_⟩;rcases h4.2.2 with e|⟨t,ht,e⟩
 ·rw[e];exact hx.2
 ·obtain⟨k,hk,rfl,_⟩:=(h3 t).1 ht;have hs':f.Slots[k]? =some (f.Slots[k]'(by omega)):=aAA _
  have:alS f (k:Int)=(f.Slots[k]'(by omega)).Align:=by grind [alS]
  rw[e,this];exact(hs _ (aAE _)).2
theorem AsR (pl:List Int) (x:Lo):(mvI pl x).Op=x.Op:=by
 grind [mvI]
theorem Avk {pl:List Int} (h:x.Op=18\/x.Op=22):mvI pl (rnI to x)=x:=by
 have e:rnI to x=x:=by
  unfold rnI
  grind
 rw[e];unfold mvI
 grind
end
theorem AfP.AAn (hf:Oi f) (hd:PW f) (hml:AbH f) (hr:Rz f r) {q:Mk} (hx:AfP f r (q,0)):AbH q:=by
 obtain⟨_,_,used,to,pl,hu,hsx,hn,hpl,hcode⟩:=hx;have hsx:Ze f r used q.Slots:=hsx;have hcode:q.Code=TZ f r.Keep to pl f.Code.length:=hcode;have hrl:=hr.1.1;have hsl:=hf.slots;intro y hy hop;rw[hcode]at hy;obtain⟨pn,hp⟩:=aAG hy;obtain⟨j,hj,hk,_,rfl⟩:=(WE (f:=f) (keep:=r.Keep) (to:=to) (pl:=pl) _ (by rw[hr.2.1];omega)).2 pn y hp
 have hm:=(hf.at (j:=(j:Int)) (by omega) (by omega)).2
 rw[AsR,Ahd]at hop;obtain⟨a0,a1,b0,b1,hsz⟩:=hml _ hm hop;have one:∀ s:Int,s∈OD (NF f (j:Nat))->0<=rnS to s/\rnS to s<q.Slots.length/\PK q (rnS to s)=PK f s:=λs hs=>by
  obtain⟨h0,h1⟩:=AlJ hf hd hm hs;have hrn:=AfL hf hd hr.1 hm (rnS r.To s) ((AhH _ _ _).2 ⟨s,hs,rfl⟩);have hmu:rnS r.To s∈used:=(hu.2 _).2 ⟨⟨hrn.1,by omega⟩,j,hj,hk,(AhH _ _ _).2 ⟨s,hs,rfl⟩⟩
  rw[(hr.1.rng h0 h1).2.2]at hmu;have hg:=Qu (to:=to) (s:=s) h0 (by have:=hn.1;omega)
  have e:rnS to s=Oa to s:=by unfold rnS;grind
  have hn2:=hn.2 s.toNat _ hg;rw[aAS h0]at hn2;obtain⟨q0,q1⟩:=hn2 hmu;rw[e];have hlt:=(aAF.1 q1).1;have hql:(Oa to s).toNat<q.Slots.length:=by rw[hsx.len];exact hlt
  have hqs:q.Slots[(Oa to s).toNat]? =some q.Slots[(Oa to s).toNat]:=aAA _;obtain⟨x,l,x1,x2,_,_⟩:=hsx.at_ _ _ _ q1 hqs;refine⟨q0,by omega,?_⟩
  have hsz2:=(hr.1.2 s.toNat (by omega)).2.2.1
  grind [PK]
 have eA:(mvI pl (rnI to (NF f (j:Nat)))).A=rnS to (NF f (j:Nat)).A:=by
  simp_all[mvI,rnI]
 have eB:(mvI pl (rnI to (NF f (j:Nat)))).B=rnS to (NF f (j:Nat)).B:=by
  simp_all[mvI,rnI]
 simp_all[OD,Pc]
open Go Go.Dw Go.Proofs
def Wj (a:Int):Prop:=0<=a/\a<8
inductive Wi (sl:List NQ) (np nf:Int) (T:Int->Prop):Lo->Prop
 | store (a b:Int):0<=a->a<sl.length->Wj b->Wi sl np nf T ⟨16,a,b,0,0⟩
 | load (a b:Int):Wj a->0<=b->b<sl.length->Wi sl np nf T ⟨15,a,b,0,0⟩
 | move (a b:Int):AtW sl a b->0<=b->b<sl.length->Wi sl np nf T ⟨17,a,b,0,0⟩
 | const (a w:Int):Wj a->Wi sl np nf T ⟨0,a,0,0,w⟩
 | bin (op a b c:Int):2<=op->op<12->Wj a->Wj b->Wj c->Wi sl np nf T ⟨op,a,b,c,0⟩
 | one (op a:Int):(op=13\/op=14)->Wj a->Wi sl np nf T ⟨op,a,0,0,0⟩
 | two (op a b:Int):(op=1\/op=12)->Wj a->Wj b->Wi sl np nf T ⟨op,a,b,0,0⟩
 | param (a b:Int):Wj a->0<=b->b<np->Wi sl np nf T ⟨19,a,b,0,0⟩
 | arg (a b:Int):0<=a->a<8->Wj b->Wi sl np nf T ⟨18,a,b,0,0⟩
 | call (j:Int):0<=j->j<nf->Wi sl np nf T ⟨22,j,0,0,0⟩
 | jump (t:Int):T t->Wi sl np nf T ⟨20,t,0,0,0⟩
 | branch (a t:Int):Wj a->T t->Wi sl np nf T ⟨21,a,t,0,0⟩
 | ret:Wi sl np nf T ⟨23,0,0,0,0⟩
 | trap (w:Int):Wi sl np nf T ⟨24,0,0,0,w⟩
theorem Reg.w (h:Reg a):Wj a:=⟨h.1,by have:=h.2;omega⟩
theorem PM.w {np:Int} {T:Int->Prop} (h:PM sl np i ps T x) (hi: -1<=i):Wi sl np ps.length T x:=by
 cases h with
 | store a b h1 h2 h3=>exact .store a b h1 h2 h3.w
 | load a b h1 h2 h3=>exact .load a b h1.w h2 h3
 | move a b h1 h2 h3=>exact .move a b h1 h2 h3
 | const a w h1 h2=>exact .const a w h1.w
 | bin op a b c h1 h2 h3 h4 h5 h6=>exact .bin op a b c h1 h2 h3.w h4.w ⟨h5,h6⟩
 | out a h1=>exact .one 14 a (.inr rfl) h1.w
 | un op a h1 h2 =>
  rcases h1 with rfl|rfl|rfl
  ·exact .one 13 a (.inl rfl) h2.w
  ·exact .two 12 a 0 (.inr rfl) h2.w ⟨by omega,by omega⟩
  ·exact .two 1 a 0 (.inl rfl) h2.w ⟨by omega,by omega⟩
 | param a b h1 h2 h3=>exact .param a b h1.w h2 h3
 | arg a b h1 h2 h3=>exact .arg a b h1 (by omega) h3.w
 | call j h1 h2=>exact .call j (by omega) h2
 | jump q h1=>exact .jump q h1
 | branch a q h1 h2=>exact .branch a q h1.w h2
theorem AjR.w {np nf:Int} {T:Int->Prop} (h:AjR x):Wi sl np nf T x:=by
 rcases h with rfl|⟨w,_,rfl⟩
 ·exact .ret
 ·exact .trap w
theorem Wi.rn {sl':List NQ} {np nf:Int} {T T':Int->Prop} (h:Wi sl np nf T x) {pl:List Int} (hs:∀ s∈OD x,0<=rnS to s/\rnS to s<sl'.length) (hz:x.Op=17->AtW sl' (rnS to x.A) (rnS to x.B)) (ht:∀ t,T t->T' ((pl[t.toNat]?).getD 0)) :
  Wi sl' np nf T' (mvI pl (rnI to x)):=by
 cases h with
 | store a b h1 h2 h3 =>
  have:=hs a (by simp[OD])
  exact .store _ _ this.1 this.2 h3
 | load a b h1 h2 h3 =>
  have:=hs b (by simp[OD,Pc])
  exact .load _ _ h1 this.1 this.2
 | move a b h1 h2 h3 =>
  have:=hs b (by simp[OD,Pc])
  exact .move _ _ (hz rfl) this.1 this.2
 | const a w h1=>exact .const a w h1
 | bin op a b c h1 h2 h3 h4 h5 =>
  have:mvI pl (rnI to ⟨op,a,b,c,0⟩)=⟨op,a,b,c,0⟩:=by grind [mvI,rnI]
  rw[this];exact .bin op a b c h1 h2 h3 h4 h5
 | one op a h1 h2 =>
  have:mvI pl (rnI to ⟨op,a,0,0,0⟩)=⟨op,a,0,0,0⟩:=by grind [mvI,rnI]
  rw[this];exact .one op a h1 h2
 | two op a b h1 h2 h3 =>
  have:mvI pl (rnI to ⟨op,a,b,0,0⟩)=⟨op,a,b,0,0⟩:=by grind [mvI,rnI]
  rw[this];exact .two op a b h1 h2 h3
 | param a b h1 h2 h3=>exact .param a b h1 h2 h3
 | arg a b h1 h2 h3=>exact .arg a b h1 h2 h3
 | call j h1 h2=>exact .call j h1 h2
 | jump q h1=>exact .jump _ (ht _ h1)
 | branch a q h1 h2=>exact .branch a _ h1 (ht _ h2)
 | ret=>exact .ret
 | trap w=>exact .trap w
structure GW (nf:Int) (f:Mk):Prop where
 par:0<=f.Params/\f.Params<=8
 slots:f.Slots.length<=40
 slot:∀ s∈f.Slots,AjT s
 len:1<=f.Code.length
 len':f.Code.length<=1024
 body:∀ x∈f.Code,Wi f.Slots f.Params nf (λt=>0<=t/\t<f.Code.length) x
 last:Ux f
structure ZT (p:NG):Prop where
 zero:∀ f,p.Funcs[0]? =some f->f.Params=0
 few:1<=p.Funcs.length/\p.Funcs.length<=80
 all:∀ f∈p.Funcs,GW p.Funcs.length f
theorem Si.gw {most:Int} (h:Si ps i most f) (hi: -1<=i) (hm:most<=200) (hps:ApY ps):GW ps.length f:=by
 have hp:=hps.1 _ (aAD h.par);refine⟨⟨hp.1,by omega⟩,by have:=h.slots;omega,λs hs=>(h.slot s hs).wide,h.len,by have:=h.len';omega,λx hx=>?_,h.AAQ⟩
 obtain⟨k,hx⟩:=aAG hx;have hk:=(aAF.1 hx).1
 by_cases e:k+1<f.Code.length
 ·exact(h.body k x hx e).w hi
 ·exact(h.last x (by grind)).w
theorem ArC.y {funcs most:Int} (h:ArC funcs most p) (hm:most<=200) (hfn:funcs<=79):ZT p:=by
 obtain⟨ps,hps,hz,hp1,hp2,hfl,hall⟩:=h;refine⟨λf hf=>?_,by omega,λf hf=>?_⟩
 ·have:=(hall 0 f hf).par;simp_all
 ·obtain⟨j,hj⟩:=aAG hf;have:=(hall j f hj).gw (by omega) hm hps
  simp_all
section
variable {nf:Int} {f:Mk} (h:GW nf f)
 include h
theorem GW.AAZ:AdV f.Slots:=⟨h.slots,λx hx=>(h.slot x hx).al⟩
theorem GW.defs:PW f:=by
 intro x hx hop;have hb:=h.body x hx;cases hb with
 | store a b h1 h2 h3=>simp_all
 | move a b h1 h2 h3=>exact⟨h1.1,h1.2.1⟩
 | bin op a b c h1 h2=>grind
 | one op a h1=>grind
 | two op a b h1=>grind
 | _=>simp at hop
theorem GW.ApG:AbH f:=by
 intro x hx hop;have hb:=h.body x hx;cases hb with
 | move a b h1 h2 h3 =>
  obtain⟨q0,q1,x,y,e1,e2,e3⟩:=h1
  grind [PK]
 | bin op a b c h1 h2=>simp_all
 | one op a h1=>simp_all
 | two op a b h1=>simp_all
 | _=>simp at hop
theorem GW.calls:AiL nf.toNat f:=by
 intro x hx hop;have hb:=h.body x hx;cases hb<;>grind
theorem GW.SW:Oi f:=by
 have hl:=h.len;have hl':=h.len';have hs:=h.slots;refine⟨hl,by omega,by omega,λk x hx j hj=>?_,λx hx v hv=>?_⟩
 ·have hk:=(aAF.1 hx).1;have hlast:k+1=f.Code.length->x.Op=20\/x.Op=23\/x.Op=24:=λe=>by
   have:=h.last
   grind [NF,Ux]
  have hb:=h.body x (aAD hx);have hT:(x.Op=20->0<=x.A/\x.A<f.Code.length)/\(x.Op=21->0<=x.B/\x.B<f.Code.length):=by
   cases hb<;>grind
  grind [QJ]
 ·have hb:=h.body x hx;cases hb<;>grind [Pc]
end
theorem ZT.args (h:ZT p) (hf:f∈p.Funcs):AeC p f:=by
 intro x hx;have hb:=(h.all f hf).body x hx;cases hb with
 | arg a b h1 h2 h3=>simp_all
 | call j h1 h2 =>
  refine⟨λe=>by simp at e,λ_=>⟨h1,?_⟩⟩
  have hg:p.Funcs[j.toNat]? =some (p.Funcs[j.toNat]'(by omega)):=aAA _
  exact⟨_,hg,(h.all _ (aAE _)).par⟩
 | bin op a b c h1 h2=>grind
 | one op a h1=>grind
 | two op a b h1=>grind
 | _=>exact⟨λe=>by simp at e,λe=>by simp at e⟩
open Go Go.Dw Go.Proofs
theorem AyG {keep:List Bool} (h:k<keep.length):keep[k]? =some (Oh keep k):=by simp[Oh,h]
theorem AlI {keep:List Bool} (h:k<keep.length):kept keep (k+1)=kept keep k+(if Oh keep k=true then 1 else 0):=ZN (AyG h)
theorem AyH {keep:List Bool} (hj:j<keep.length) (hk:k<keep.length) (h1:Oh keep j=true) (h2:Oh keep k=true) (h:kept keep j=kept keep k):j=k:=by
 rcases Nat.lt_trichotomy j k with c|c|c
 ·have a:=AiW (keep:=keep) (j:=j+1) (k:=k) (by omega) (by omega)
  rw[AlI hj,if_pos h1]at a;omega
 ·exact c
 ·have a:=AiW (keep:=keep) (j:=k+1) (k:=j) (by omega) (by omega)
  rw[AlI hk,if_pos h2]at a;omega
structure AlY (f g:Mk) (r:NO) (used nm pl:List Int):Prop where
 rw:Rz f r
 usd:Ov f.Slots.length used
 nms:∀ k:Nat,k<f.Code.length->Oh r.Keep k=true->∀ v∈OD (rnI r.To (NF f k)),v∈used
 nl:nm.length=r.To.length
 num:∀ (s:Nat) x,nm[s]? =some x->0<=x/\(Oa r.To s∈used->used[x.toNat]? =some (Oa r.To s))
 pll:pl.length=r.Keep.length
 plc:∀ j:Nat,j<r.Keep.length->pl[j]? =some (kept r.Keep j:Int)
 sl:g.Slots.length=used.length
 par:g.Params=f.Params
 code:g.Code=TZ f r.Keep nm pl f.Code.length
 sls:Ahu f used g.Slots
section
variable {f g:Mk} {r:NO} {used nm pl:List Int} (h:AlY f g r used nm pl)
 include h
theorem AlY.len:g.Code.length=kept r.Keep f.Code.length:=by
 rw[h.code];exact(WE (f:=f) (keep:=r.Keep) (to:=nm) (pl:=pl) _ (by have:=h.rw.2.1;omega)).1
theorem AlY.back {p:Nat} (hx:g.Code[p]? =some x):∃ j:Nat,j<f.Code.length/\Oh r.Keep j=true/\kept r.Keep j=p/\x=mvI pl (rnI nm (NF f j)):=by
 rw[h.code]at hx;exact(WE (f:=f) (keep:=r.Keep) (to:=nm) (pl:=pl) _ (by have:=h.rw.2.1;omega)).2 p x hx
theorem AlY.at (hj:j<f.Code.length) (hk:Oh r.Keep j=true):g.Code[kept r.Keep j]? =some (mvI pl (rnI nm (NF f j))):=by
 have hkl:=h.rw.2.1;have h1:=AlI (keep:=r.Keep) (k:=j) (by omega)
 rw[if_pos hk]at h1;have h2:=AiW (keep:=r.Keep) (j:=j+1) (k:=f.Code.length) (by omega) (by omega)
 have hl:=h.len;have hg:g.Code[kept r.Keep j]? =some (g.Code[kept r.Keep j]'(by omega)):=aAA _
 obtain⟨j',a,b,c,d⟩:=h.back hg
 grind [AyH]
theorem AlY.nmS (h0:0<=s) (h1:s<f.Slots.length):rnS nm s=Oa nm s/\0<=Oa nm s/\(Oa r.To s∈used->used[(Oa nm s).toNat]? =some (Oa r.To s)):=by
 have htl:=h.rw.1.1;have hnl:=h.nl;have hg:=Qu (to:=nm) (s:=s) h0 (by omega)
 obtain⟨q1,q2⟩:=h.num s.toNat _ hg;rw[aAS h0]at q2;simp_all[rnS]
theorem AlY.slot (h0:0<=s) (h1:s<f.Slots.length) (hu:Oa r.To s∈used):(Oa nm s).toNat<g.Slots.length/\∃ y,g.Slots[(Oa nm s).toNat]? =some y/\y.Size=PK f s:=by
 obtain⟨_,q1,q2⟩:=h.nmS h0 h1;have q2:=q2 hu;have hl:=(aAF.1 q2).1;have hsl:=h.sl;refine⟨by omega,g.Slots[(Oa nm s).toNat]'(by omega),aAA _,?_⟩
 obtain⟨u,x,e1,e2,e3,_⟩:=h.sls (Oa nm s).toNat _ (aAA (by omega))
 rw[q2]at e1;obtain rfl:=Option.some.inj e1;have:=(h.rw.1.2 s.toNat (by have:=h.rw.1.1;omega)).2.2.1
 grind [Adl]
end
theorem AlY.gw {nf:Int} {g:Mk} {nm pl:List Int} (h:AlY f g r used nm pl) (hg:GW nf f):GW nf g:=by
 have hf:=hg.SW;have hd:=hg.defs;have hml:=hg.ApG;have hkl:=h.rw.2.1;have hlen:=h.len;have hl1:=hg.len;have hl2:=hg.len';have hsl:=hg.slots;have hk0:=AmU hf hg.last h.rw (t:=0) (by omega)
 have hkl2:=AmT r.Keep f.Code.length;have hul:=ApZ (l:=used) (a:=0) (n:=f.Slots.length) h.usd.1.1 λx hx=>⟨(h.usd.1.2 x hx).1,h.usd.2 x hx⟩
 have hgs:=h.sl;refine⟨by rw[h.par];exact hg.par,by omega,λy hy=>?_,by omega,by omega,λx hx=>?_,?_⟩
 ·obtain⟨j,hj⟩:=aAG hy;obtain⟨u,x,_,e2,e3,t,ht,e4⟩:=h.sls j y hj;have a:=hg.slot x (aAD e2);have b:=hg.slot t ht;exact⟨by rw[e3];exact a.1,by rw[e4];exact b.2⟩
 ·obtain⟨p,hx⟩:=aAG hx;obtain⟨j,hj,hk,hp,rfl⟩:=h.back hx;have hc:=(hf.at (j:=(j:Int)) (by omega) (by omega))
  have hnames:∀ s∈OD (NF f j),0<=s/\s<f.Slots.length/\Oa r.To s∈used:=λs hs=>by
   obtain⟨a,b⟩:=AlJ hf hd hc.2 hs;have:=h.nms j hj hk (rnS r.To s) ((AhH _ _ _).2 ⟨s,hs,rfl⟩);rw[(h.rw.1.rng a b).2.2]at this;simp_all
  have hin:∀ s∈OD (NF f j),0<=rnS nm s/\rnS nm s<g.Slots.length/\∃ y,g.Slots[(rnS nm s).toNat]? =some y/\y.Size=PK f s:=λs hs=>by
   obtain⟨a,b,c⟩:=hnames s hs;obtain⟨e,q,_⟩:=h.nmS a b;obtain⟨e1,e2⟩:=h.slot a b c;simp_all
  rw[h.par];refine(hg.body _ hc.2).rn (λs hs=>⟨(hin s hs).1,(hin s hs).2.1⟩) (λh17=>?_) λt ht=>?_
  ·obtain⟨a1,a2,y,a3,a4⟩:=hin (NF f j).A (by grind [OD])
   obtain⟨_,_,z,b3,b4⟩:=hin (NF f j).B (by grind [OD,Pc])
   refine⟨a1,a2,y,z,a3,b3,?_⟩;rw[a4,b4];exact(hml _ hc.2 h17).2.2.2.2
  ·rw[h.plc t.toNat (by omega)]
   have:=AmU hf hg.last h.rw (t:=t.toNat) (by omega)
   simp_all
 ·have hk:Oh r.Keep (f.Code.length-1)=true:=by
   cases e:Oh r.Keep (f.Code.length-1)
   ·have:=h.rw.2.2 _ (by omega) e
    have hlast:=hg.last
    grind [Ux]
   ·rfl
  have hat:=h.at (j:=f.Code.length-1) (by omega) hk
  have hs:=AlI (keep:=r.Keep) (k:=f.Code.length-1) (by omega)
  rw[if_pos hk,show f.Code.length-1+1=f.Code.length by omega]at hs
  have hlast:=hg.last
  grind [Ux,NF,AsR,Ahd]
theorem AsT (hf:Oi f) (hd:PW f) (hr:Rz f r):Hs (Qe f r) λq=>q.2=0/\∃ used nm pl,AlY f q.1 r used nm pl :=
 (AsS hf hd hr).mono λ_q ⟨h0,used,to,pl,u1,u2,n1,n2,p1,p2,sl,pr,cd,sa⟩=>⟨h0,used,to,pl,hr,u1,u2,n1,n2,p1,p2,sl,pr,cd,sa⟩
open Go Go.Dw Go.Proofs
theorem Azi (f:Mk) (to:List Int) (hsl:f.Slots.length<=500):Hs (Wa f to) λb=>b=true↔Akm f to:=by
 unfold Wa;refine .bne (λh=>.pure ⟨λh'=>(by cases h'),λh'=>(h (by rw[h'.1])).elim⟩) λh=>?_
 have hl:to.length=f.Slots.length:=by omega
 refine Hs.loop (λi=>∃ k:Nat,i=(k:Int)/\k<=to.length/\∀ s:Nat,s<k->0<=Oa to s/\Oa to s<to.length/\PK f (Oa to s)=PK f s/\Oa to (Oa to s)=Oa to s) (λi=>to.length-i.toNat) ⟨0,rfl,aAB _,λs hs=>absurd hs (aAH _)⟩ ?_
 rintro _ ⟨k,rfl,hk,hall⟩;unfold Vl;refine .dec (λhlt=>?_) λhge=>.lft (.pure ⟨λ_=>⟨hl,λs hs=>hall s (by omega)⟩,λ_=>rfl⟩)
 have hlt:k<to.length:=by omega
 have hg:to[k]? =some (Oa to k):=by have:=Qu (to:=to) (s:=k) (by omega) (by omega);simp_all
 rw[OE,hg,aA];have no:∀ {p:Prop},¬ p->(Akm f to->p)->Hs (lft (some false):Option (Int⊕Bool)) (Rnd (λi=>∃ k:Nat,i=(k:Int)/\k<=to.length/\∀ s:Nat,s<k->0<=Oa to s/\Oa to s<to.length/\PK f (Oa to s)=PK f s/\Oa to (Oa to s)=Oa to s) (λi=>to.length-i.toNat) (k:Int) λb=>b=true↔Akm f to) :=
  λhp hq=>.lft (.pure ⟨λh=>(by cases h),λh=>(hp (hq h)).elim⟩)
 refine .dec (λh0=>no (p:=0<=Oa to k) (by omega) λh=>(h.2 k hlt).1) λh0=>?_
 refine .dec (λh1=>no (p:=Oa to k<to.length) (by omega) λh=>(h.2 k hlt).2.1) λh1=>?_
 refine Hs.bind (Hs.ix (i:=Oa to k) (P:=λx=>x.Size=PK f (Oa to k)) (by omega) (by omega) λx hx=>Adl hx) λa ha=>?_
 refine Hs.bind (Hs.ix (i:=(k:Int)) (P:=λx=>x.Size=PK f k) (by omega) (by omega) λx hx=>Adl hx) λb hb=>?_
 rw[ha,hb];refine .bne (λh2=>no h2 λh=>(h.2 k hlt).2.2.1) λh2=>?_
 rw[Qn _ (by omega),Qu (by omega) (by omega),aA]
 refine .bne (λh3=>no h3 λh=>(h.2 k hlt).2.2.2) λh3=>?_
 rw[NP (by omega)]
 refine .cnt ⟨⟨k+1,rfl,hlt,λs hs=>?_⟩,by grind⟩
 grind
theorem AnV (hf:Oi f) (r:NO):Hs (Vi f r) λe=>(e=0\/e=12)/\(e=0↔Rz f r):=by
 have hlen:=hf.len';refine(Azi f r.To hf.slots).bind λb hb=>.cond (λh=>.pure ⟨.inr rfl,λh=>by omega,λh'=>?_⟩) λh=>?_
 ·rw[hb.2 h'.1]at h;cases h
 have hv:Akm f r.To:=hb.1 (by simp_all)
 refine .bne (λh=>.pure ⟨.inr rfl,λh=>by omega,λh'=>(h (by rw[h'.2.1])).elim⟩) λh=>?_
 have hkl:r.Keep.length=f.Code.length:=by omega
 refine Hs.loop (λi=>∃ k:Nat,i=(k:Int)/\k<=f.Code.length/\∀ j:Nat,j<k->Oh r.Keep j=false->(NF f j).Op=16\/(NF f j).Op=17) (λi=>f.Code.length-i.toNat) ⟨0,rfl,aAB _,λs hs=>absurd hs (aAH _)⟩ ?_
 rintro _ ⟨k,rfl,hk,hall⟩;refine .dec (λhlt=>?_) λhge=>.lft (.pure ⟨.inl rfl,λ_=>⟨hv,hkl,λj hj=>hall j (by omega)⟩,λ_=>rfl⟩)
 have hlt:k<f.Code.length:=by omega
 have hx:=hf.at (j:=(k:Int)) (by omega) (by omega)
 rw[aAC]at hx;have hg:r.Keep[k]? =some (Oh r.Keep k):=by grind [Oh]
 have stp:(Oh r.Keep k=false->(NF f k).Op=16\/(NF f k).Op=17)->∀ j:Nat,j<k+1->Oh r.Keep j=false->(NF f j).Op=16\/(NF f j).Op=17:=by
  grind
 simp only[OE,hx.1,hg,aA];rw[NP (by omega)]
 refine .cond (λh=>?_) λh=>.cnt ⟨⟨k+1,rfl,hlt,stp λh'=>by simp_all⟩,by grind⟩
 have hkf:Oh r.Keep k=false:=by simp_all
 unfold Ws;rw[AmM,aA,aA]
 by_cases hd:(NF f k).Op=16\/(NF f k).Op=17
 ·rw[if_pos hd];exact .cnt ⟨⟨k+1,rfl,hlt,stp λ_=>hd⟩,by grind⟩
 ·rw[if_neg hd];exact .lft (.pure ⟨.inr rfl,λh=>by omega,λh=>(hd (h.2.2 k hlt hkf)).elim⟩)
attribute [local simp] OO aAM
def Apt (v:Int):Nat->List Int->Int
 | _,[]=>-1
 | a,x::r=>if v=x then a else Apt v (a+1) r
theorem AyC (s:List Int) (v:Int) (hs:s.length<=9223372036854775807):RX s v=some (Apt v 0 s):=by
 unfold RX;refine SI s (λ(_:Nat) i=>i) (λa i=>a=i) (λa l=>some (Apt v a l)) (λ_ _=>⟨-1,by simp[QG],by simp[Apt]⟩) (λa i x r ha hd hi hx=>?_) 0 rfl
 subst ha;have w:=NP (show a<9223372036854775807 by omega)
 obtain⟨_,rfl⟩:=aAF.1 hx
 by_cases h:v=s[a]
 all_goals simp_all[QG,Apt]
theorem AuA (v:Int):∀ (a:Nat) (s:List Int),v∈s->∃ i:Nat,Apt v a s=((a+i:Nat):Int)/\s[i]? =some v
 | a,[],h=>by cases h
 | a,x::r,h=>by
  simp only[Apt]
  by_cases e:v=x
  ·rw[if_pos e];exact⟨0,rfl,by rw[e];rfl⟩
  ·obtain⟨i,h1,h2⟩:=AuA v (a+1) r ((List.mem_cons.1 h).resolve_left e);exact⟨i+1,by omega,by simp_all⟩
theorem AzF (to:List Int) (s:Int):PY s to=some (rnS to s):=by
 unfold PY rnS
 by_cases h0:s<0
 ·grind
 ·rw[decide_eq_false h0,cond_false]
  by_cases h1:s>=(to.length:Int)
  ·grind
  ·rw[decide_eq_false h1,cond_false,if_pos (by omega),Qn _ (by omega),Qu (by omega) (by omega)]
   rfl
theorem AzE (x:Lo) (to:List Int):Wb x to=some (rnI to x):=by
 unfold Wb rnI;simp only[AzF,aA]
 grind
def WQ (f:Mk) (keep:List Bool) (to:List Int) (k:Nat):List Lo:=(List.range k).filterMap λj=>if Oh keep j=true then some (rnI to (NF f (j:Nat)))else none
theorem AwE (f:Mk) (keep:List Bool) (to:List Int) (k:Nat):WQ f keep to (k+1)=WQ f keep to k++(if Oh keep k=true then[rnI to (NF f (k:Nat))]else[]):=by
 grind [WQ,List.range_succ]
theorem Apv (f:Mk) (keep:List Bool) (to:List Int) (k:Nat):(WQ f keep to k).length<=k:=by
 grind [WQ]
theorem AxF (f:Mk) (keep:List Bool) (to pl:List Int) (k:Nat):TZ f keep to pl k=(WQ f keep to k).map (mvI pl):=by
 unfold TZ WQ;rw[List.map_filterMap];simp_all
section
variable {f:Mk}
theorem Aus (hf:Oi f) (hkl:r.Keep.length=f.Code.length) (to:List Int):WI f r to=some (WQ f r.Keep to f.Code.length):=by
 have hlen:=hf.len';have key:Hs (WI f r to) λl=>l=WQ f r.Keep to f.Code.length:=by
  refine Hs.loop (λs=>∃ k:Nat,s.2=(k:Int)/\k<=f.Code.length/\s.1=WQ f r.Keep to k) (λs=>f.Code.length-s.2.toNat) ⟨0,rfl,aAB _,rfl⟩ ?_
  rintro⟨_,_⟩ ⟨k,rfl,hk,rfl⟩;refine .dec (λhlt=>?_) λhge=>.lft (.pure ?_)
  ·have hlt:k<f.Code.length:=by omega
   have hx:=hf.at (j:=(k:Int)) (by omega) (by omega)
   rw[aAC]at hx;have hg:r.Keep[k]? =some (Oh r.Keep k):=by grind [Oh]
   have hs:=AwE f r.Keep to k;have hl:=Apv f r.Keep to k;simp only[OE,hx.1,aA];refine .dec (λ_=>?_) λh=>by omega
   rw[hg,aA];unfold UY;rw[AzE,NP (by omega)]
   refine .cond (λh=>?_) λh=>?_
   ·rw[if_pos h]at hs;exact .chk (by simp;omega) (.cnt ⟨⟨k+1,rfl,hlt,hs.symm⟩,by grind⟩)
   ·rw[if_neg (by simp_all),List.append_nil]at hs
    exact .cnt ⟨⟨k+1,rfl,hlt,hs.symm⟩,by grind⟩
  ·have hkk:k=f.Code.length:=by omega
   subst hkk;rfl
 obtain⟨l,h,rfl⟩:=key;exact h
theorem Arj {keep:List Bool}:x∈WQ f keep to k↔∃ j:Nat,j<k/\Oh keep j=true/\x=rnI to (NF f j):=by
 unfold WQ
 grind
theorem AzH (hf:Oi f) (hd:PW f) (hr:Rz f r):Hs (ZJ f r) λl=>AtV f r l/\Ov f.Slots.length l:=by
 have hlen:=hf.len';have hkl:=hr.2.1;unfold ZJ;rw[Aus hf hkl,aA];have hK:=Apv f r.Keep r.To f.Code.length;have hin:∀ x∈WQ f r.Keep r.To f.Code.length,∀ v∈OD x,0<=v/\v<f.Slots.length:=λx hx v hv=>by
  obtain⟨j,hj,_,rfl⟩:=Arj.1 hx;exact AfL hf hd hr.1 (hf.at (j:=(j:Int)) (by omega) (by omega)).2 v hv
 generalize hKe:WQ f r.Keep r.To f.Code.length=K at hK hin;have nm:∀ x:Lo,(OD x).length<=2:=λx=>by
  grind [OD,Pc]
 refine Hs.loop (λs=>∃ k:Nat,s.2=(k:Int)/\k<=K.length/\s.1.length<=2*k/\s.1=(K.take k).flatMap OD) (λs=>K.length-s.2.toNat) ⟨0,rfl,aAB _,aAI _,by simp⟩ ?_
 rintro⟨l,_⟩ ⟨k,rfl,hk,hll,hl⟩;replace hll:l.length<=2*k:=hll;replace hl:l=(K.take k).flatMap OD:=hl;refine .dec (λhlt=>?_) λhge=>.lft ?_
 ·have hlt:k<K.length:=by omega
  have hg:K[k]? =some K[k]:=aAA _;have htk:K.take (k+1)=K.take k++[K[k]]:=by simp_all
  generalize K[k]=x at hg htk;have hu:=AvY x;have hn:=nm x;have step:(K.take (k+1)).flatMap OD=l++OD x:=by simp_all
  refine .chk (by omega) ?_
  simp only[aAC,hg,aA,Aut,AmM,NP (show k<9223372036854775807 by omega)]
  refine .chk (by omega) ?_
  by_cases hdy:x.Op=16\/x.Op=17
  ·rw[if_pos hdy];simp only[cond_true];have e:OD x=Pc x++[x.A]:=by simp_all[OD]
   rw[e]at step hn;refine .chk (by simp;omega) (.cnt ⟨⟨k+1,rfl,hlt,?_,?_⟩,by grind⟩)
   all_goals grind
  ·rw[if_neg hdy];have e:OD x=Pc x:=by simp_all[OD]
   rw[e]at step;refine .cnt ⟨⟨k+1,rfl,hlt,?_,step.symm⟩,by grind⟩
   simp;omega
 ·have hkk:k=K.length:=by omega
  subst hkk;rw[aAN]at hl;refine(Auc l (by omega)).bind λq hq=>.pure ?_
  have hm:∀ v,v∈l↔∃ j:Nat,j<f.Code.length/\Oh r.Keep j=true/\v∈OD (rnI r.To (NF f j)):=λv=>by
   rw[hl,List.mem_flatMap,<- hKe]
   grind [Arj]
  refine⟨hq.mono λv _ _=>hm v,hq.1,λv hv=>?_⟩
  have:=((hq.2 v).1 hv).2
  grind
theorem AyQ (hl:to.length<=500) (s:Int):Hs (Wn to s) λl=>l.length<=to.length/\Ayi to s l:=by
 refine Hs.loop (λz=>∃ k:Nat,z.2=(k:Int)/\k<=to.length/\z.1.length<=k/\∀ t,t∈z.1↔∃ j:Nat,j<k/\t=(j:Int)/\Oa to j=s) (λz=>to.length-z.2.toNat) ⟨0,rfl,aAB _,aAI _,λt=>⟨λh=>(by cases h),λ⟨j,h,_⟩=>absurd h (aAH _)⟩⟩ ?_
 rintro⟨l,_⟩ ⟨k,rfl,hk,hll,hm⟩;replace hll:l.length<=k:=hll;refine .dec (λhlt=>?_) λhge=>.lft (.pure ?_)
 ·have hlt:k<to.length:=by omega
  have hg:=Qu (to:=to) (s:=(k:Int)) (by omega) (by omega)
  rw[aAC]at hg;simp only[OE,hg,aA];rw[NP (by omega)]
  refine .beq (λh=>.chk (by simp;omega) (.cnt ⟨⟨k+1,rfl,hlt,by simp;omega,λt=>?_⟩,by grind⟩)) λh=>.cnt ⟨⟨k+1,rfl,hlt,by grind,λt=>?_⟩,by grind⟩
  all_goals grind
 ·have hk:k=to.length:=by omega
  subst hk;exact⟨hll,hm⟩
theorem AxI (r:NO) (hl:r.Keep.length<=1000000):Hs (ZI r) (Amv r):=by
 refine Hs.loop (λs=>∃ k:Nat,s.2.1=(k:Int)/\k<=r.Keep.length/\s.2.2=(kept r.Keep k:Int)/\s.1.length=k/\∀ j:Nat,j<k->s.1[j]? =some (kept r.Keep j:Int)) (λs=>r.Keep.length-s.2.1.toNat) ⟨0,rfl,aAB _,rfl,rfl,λj hj=>absurd hj (aAH _)⟩ ?_
 rintro⟨l,_,n⟩ ⟨k,rfl,hk,hn,hll,hj⟩;subst hn;replace hll:l.length=k:=hll;refine .dec (λhlt=>?_) λhge=>.lft (.pure ?_)
 ·have hlt:k<r.Keep.length:=by simp_all
  have hg:r.Keep[k]? =some r.Keep[k]:=aAA _;generalize r.Keep[k]=b at hg;have hkl:=AmT r.Keep k;have hks:=ZN hg;have hap:∀ j:Nat,j<k+1->(l++[(kept r.Keep k:Int)])[j]? =some (kept r.Keep j:Int):=by
   grind
  simp only[OE,hg,aA];refine .chk (by simp;omega) ?_
  rw[NP (show k<9223372036854775807 by omega),NP (show kept r.Keep k<9223372036854775807 by omega)]
  refine .cond (λh=>?_) λh=>?_
  ·subst h;exact .cnt ⟨⟨k+1,rfl,hlt,by simp_all,by simp[hll],hap⟩,by grind⟩
  ·subst h;exact .cnt ⟨⟨k+1,rfl,hlt,by simp_all,by simp[hll],hap⟩,by grind⟩
 ·have hkk:k=r.Keep.length:=by grind
  subst hkk;exact⟨hll,hj⟩
theorem AyP (hf:Oi f) (hkl:r.Keep.length=f.Code.length) (to pl:List Int) (hpl:pl.length=r.Keep.length) (sl:List NQ) :
  Hs (NU (λs=>WH (WQ f r.Keep to f.Code.length) pl f sl s.1 s.2) (WQ f r.Keep to f.Code.length,0)) λq=>q=(⟨f.Params,sl,TZ f r.Keep to pl f.Code.length⟩,0):=by
 have hlen:=hf.len';have hK:=Apv f r.Keep to f.Code.length;have hin:∀ x∈WQ f r.Keep to f.Code.length,(x.Op=20->0<=x.A/\x.A<f.Code.length)/\(x.Op=21->0<=x.B/\x.B<f.Code.length):=λx hx=>by
  grind [Arj,AnX,Ahd,Aje]
 rw[AxF];generalize WQ f r.Keep to f.Code.length=K at hK hin;refine Hs.loop (λs=>∃ k:Nat,s.2=(k:Int)/\k<=K.length/\s.1=(K.take k).map (mvI pl)++K.drop k) (λs=>K.length-s.2.toNat) ⟨0,rfl,aAB _,by simp⟩ ?_
 rintro⟨_,_⟩ ⟨k,rfl,hk,rfl⟩;refine .dec (λhlt=>?_) λhge=>.lft (.pure ?_)
 ·have hlt:k<K.length:=by omega
  have hg:K[k]? =some K[k]:=aAA _;have htk:K.take (k+1)=K.take k++[K[k]]:=by simp_all
  have hdk:K.drop k=K[k]::K.drop (k+1):=List.drop_eq_getElem_cons hlt;have hxm:=aAE hlt;generalize K[k]=x at hg htk hdk hxm;have hml:((K.take k).map (mvI pl)).length=k:=by simp;omega
  obtain⟨x1,x2⟩:=hin x hxm;have at_:((K.take k).map (mvI pl)++K.drop k)[k]? =some x:=by
   simp_all
  have fin:∀ y,y=mvI pl x->((K.take k).map (mvI pl)++K.drop k).set k y=(K.take (k+1)).map (mvI pl)++K.drop (k+1):=λy hy=>by
   simp_all
  refine .chk (by simp;omega) ?_
  simp only[aAC,at_,aA,NP (show k<9223372036854775807 by omega)]
  refine .beq (λh=>?_) λh=>.beq (λh'=>?_) λh'=>.cnt ⟨⟨k+1,rfl,hlt,?_⟩,by simp only;omega⟩
  ·have t:=x1 h;refine .chk (by omega) ((Hs.get t.1 (by omega) λz hz=>hz).bind λz hz=>.cnt ⟨⟨k+1,rfl,hlt,fin _ ?_⟩,by simp only;omega⟩)
   simp_all[mvI]
  ·have t:=x2 h';refine .chk (by omega) ((Hs.get t.1 (by omega) λz hz=>hz).bind λz hz=>.cnt ⟨⟨k+1,rfl,hlt,fin _ ?_⟩,by simp only;omega⟩)
   simp_all[mvI]
  ·have:=fin x (by simp_all[mvI])
   grind
 ·have hkk:k=K.length:=by omega
  subst hkk;show((⟨f.Params,sl,_⟩:Mk),(0:Int))=_;simp_all
theorem AyO (hf:Oi f) (hd:PW f) (hr:Rz f r):Hs (Xp f r) (AfP f r):=by
 have hlen:=hf.len';have hsl:=hf.slots;have hkl:=hr.2.1;have htl:=hr.1.1;refine(AnV hf r).bind λe he=>.bne (λh=>(h (he.2.2 hr)).elim) λ_=>?_
 refine(AzH hf hd hr).bind λused ⟨hu0,hu1⟩=>?_
 have hul:=hu1.1.length_le;refine Hs.loop (λs=>∃ i:Nat,s.2=(i:Int)/\i<=used.length/\s.1.length=i/\Ze f r (used.take i) s.1) (λs=>used.length-s.2.toNat) ⟨0,rfl,aAB _,rfl,rfl,λj u y hj=>by simp at hj⟩ ?_
 rintro⟨out,_⟩ ⟨i,rfl,hi,ho,hsa⟩;replace ho:out.length=i:=ho;refine .dec (λhlt=>?_) λhge=>.lft ?_
 ·have hlt:i<used.length:=by omega
  have hgx:used[i]? =some used[i]:=aAA _;have hxm:=aAE hlt;generalize used[i]=u at hgx hxm;have h0:=(hu1.1.2 u hxm).1;have h1:=hu1.2 u hxm;refine .chk (by omega) ?_
  simp only[aAC,hgx,aA];refine(Hs.ix (P:=λx=>f.Slots[u.toNat]? =some x) h0 h1 λx hx=>hx).bind λx hfx=>?_
  refine(AyQ (by omega) u).bind λl ⟨hll,hm⟩=>?_
  have hl:∀ t∈l,0<=t/\t<f.Slots.length:=λt ht=>by
   obtain⟨j,q1,rfl,_⟩:=(hm t).1 ht;omega
  refine Hs.loop (λs=>∃ k:Nat,s.2=(k:Int)/\k<=l.length/\Afa f (l.take k) x.Align s.1) (λs=>l.length-s.2.toNat) ⟨0,rfl,aAB _,by grind [Afa.nil]⟩ ?_
  rintro⟨a,_⟩ ⟨k,rfl,hk,hx⟩;refine .dec (λhlt2=>?_) λhge2=>.lft (.chk (by simp;omega) ?_)
  ·have hlt2:k<l.length:=by omega
   have hg:l[k]? =some l[k]:=aAA _;have htk:l.take (k+1)=l.take k++[l[k]]:=by simp_all
   have ht:=hl _ (aAE hlt2);generalize l[k]=t at hg htk ht;refine .chk (by omega) ?_
   rw[aAC,hg,aA];refine(Hs.ix (P:=λy=>alS f t=y.Align) ht.1 ht.2 λy hy=>by grind [alS]).bind λy hy=>?_
   rw[NP (by omega),AsA,<- hy]
   refine .cnt ⟨⟨k+1,rfl,hlt2,?_⟩,by grind⟩
   rw[htk];exact hx.snoc t
  ·have hkk:k=l.length:=by omega
   subst hkk;rw[aAN]at hx;rw[NP (by omega)]
   exact .cnt ⟨⟨i+1,rfl,hlt,by simp[ho],hsa.snoc ho (by omega) hgx hfx rfl hm hx⟩,by grind⟩
 have hii:i=used.length:=by omega
 subst hii;rw[aAN]at hsa;unfold Auk AbO;rw[OO (by omega),aA]
 refine Hs.loop (λs=>∃ k:Nat,s.2=(k:Int)/\k<=r.To.length/\s.1.length=r.To.length/\(∀ (j:Nat) x,j<k->s.1[j]? =some x->Oa r.To j∈used->0<=x/\used[x.toNat]? =some (Oa r.To j))/\∀ j:Nat,k<=j->s.1[j]? =r.To[j]?) (λs=>r.To.length-s.2.toNat) ⟨0,rfl,aAB _,rfl,λj x hj=>absurd hj (aAH _),λj _=>rfl⟩ ?_
 rintro⟨to,_⟩ ⟨k,rfl,hk,h1,h2,h3⟩;replace h1:to.length=r.To.length:=h1;refine .dec (λhlt=>?_) λhge=>.lft ?_
 ·have hlt:k<r.To.length:=by omega
  have hg:=Qu (to:=r.To) (s:=(k:Int)) (by omega) (by omega)
  rw[aAC,<- h3 k (aAI _)]at hg;refine .chk (by simp_all) ?_
  rw[aAC,hg,aA,AyC _ _ (by omega),aA]
  refine .chk (by simp_all) ?_
  rw[aA,NP (by omega)]
  refine .cnt ⟨⟨k+1,rfl,hlt,by simp[h1],λj x hj hx hm=>?_,λj hj=>?_⟩,by simp only;omega⟩
  ·have hx:(to.set k (Apt (Oa r.To k) 0 used))[j]? =some x:=hx
   by_cases e:j=k
   ·subst e;rw[List.getElem?_set_self (by omega)]at hx
    cases hx;obtain⟨q,q1,q2⟩:=AuA _ 0 _ hm;simp_all
   ·rw[List.getElem?_set_ne (λh=>e h.symm)]at hx
    exact h2 j x (by omega) hx hm
  grind
 ·have hkk:k=r.To.length:=by omega
  subst hkk;refine(AxI r (by omega)).bind λpl hp=>?_
  rw[Aus hf hkl,aA];refine(AyP hf hkl to pl hp.1 out).mono λq hq=>?_
  subst hq;exact⟨rfl,rfl,used,to,pl,hu0,hsa,⟨h1,λs x hs hm=>h2 s x (by grind) hs hm⟩,hp,rfl⟩
theorem Awf (hf:Oi f) (hd:PW f) (hr:Rz f r):∃ q,Xp f r=some q/\Qe f r=some q/\AfP f r q:=by
 obtain⟨q,h1,h2⟩:=AyO hf hd hr;obtain⟨q',k1,k2⟩:=AyT hf hd hr;exact⟨q,h1,by rw[k1,k2.unique hf hd hr h2],h2⟩
end
open Go Go.Dw Go.Proofs
def Vc (f:Mk) (l:List (List Int)) (r:NO) (k:Nat) (y:Int):Prop :=
 ((NF f k).Op=16\/(NF f k).Op=17)/\¬ ((NF f k).Op=17/\Oa r.To (NF f k).A=Oa r.To (NF f k).B)/\y∈NY l k/\(Oh r.Keep k=true↔y≠(NF f k).A)/\Oa r.To y=Oa r.To (NF f k).A
instance {f:Mk} {l:List (List Int)} {r:NO} {k:Nat} {y:Int}:Decidable (Vc f l r k y):=by unfold Vc;infer_instance
theorem Vc.mono {l':List (List Int)} {y:Int} (h:Vc f l' r k y) (hs:∀ v∈NY l' k,v∈NY l k):Vc f l r k y :=
 ⟨h.1,h.2.1,hs y h.2.2.1,h.2.2.2.1,h.2.2.2.2⟩
def Aci (f:Mk) (l:List (List Int)) (r:NO) (k:Nat):Option Int:=(NY l k).find? λy=>decide (Vc f l r k y)
def AtQ (o:Option Int):Int×Bool:=match o with|some y=>(y,true)|none=>(0,false)
theorem Ayy {l:List Int} {p:Int->Bool} {y:Int} (h:l[j]? =some y) (hp:p y=true) (hn:∀ z∈l.take j,p z=false):l.find? p=some y:=by
 grind [aAV,aAW]
def Ahs (f:Mk) (l:List (List Int)) (r:NO) (q:Int×Int×Bool):Prop :=
 (∃ (k:Nat) (y:Int),k<f.Code.length/\Aci f l r k=some y/\(∀ j<k,Aci f l r j=none)/\q=((k:Int),y,true))\/((∀ j<f.Code.length,Aci f l r j=none)/\q=(0,0,false))
theorem Ahs.unique {p:Int×Int×Bool} (h:Ahs f l r q) (h':Ahs f l r p):q=p:=by
 rcases h with⟨k,y,hk,h1,h2,rfl⟩|⟨h1,rfl⟩<;>rcases h' with⟨k',y',hk',h1',h2',rfl⟩|⟨h1',rfl⟩
 all_goals grind
theorem Ahs.found (h:Ahs f l r q):q.2.2=true↔∃ k y,k<f.Code.length/\Vc f l r k y:=by
 rcases h with⟨k,y,hk,h1,_,rfl⟩|⟨h1,rfl⟩
 ·exact⟨λ_=>⟨k,y,hk,by simpa using List.find?_some h1⟩,λ_=>rfl⟩
 ·refine⟨λh=>(by cases h),λ⟨k,y,hk,hy⟩=>?_⟩
  have:=aAP.1 (h1 k hk) y hy.2.2.1;simp_all
theorem Auq (hf:Oi f) (hd:PW f) {l:NT} (hl:Rj f l.Out) (hr:Rz f r) (hk:k<f.Code.length) :
  Hs (PL (k:Int) f r l) λq=>q.2=true↔∃ y,Vc f l.Out r k y:=by
 have htl:=hr.1.1;have hx:=hf.at (j:=(k:Int)) (by omega) (by omega)
 have hrow:=hl.at (j:=(k:Int)) (by omega) (by omega)
 rw[aAC]at hx hrow;have hlo:=hrow.2.1.length_le;have hg:r.Keep[k]? =some (Oh r.Keep k):=by have:=hr.2.1;grind [Oh]
 have tg:∀ s:Int,0<=s->s<f.Slots.length->ixO r.To s=some (Oa r.To s):=λs h0 h1=>by grind [Qn,Qu]
 unfold PL;simp only[OE,hx.1,aA,AmM]
 by_cases hdef:(NF f k).Op=16\/(NF f k).Op=17
 ·rw[if_pos hdef];have hA:=hd _ hx.2 hdef;have inner:¬ ((NF f k).Op=17/\Oa r.To (NF f k).A=Oa r.To (NF f k).B)->Hs (OY l (k:Int) r ((NF f k).A,true)) λq=>q.2=true↔∃ y,Vc f l.Out r k y:=by
   intro hnm;unfold OY;rw[OE,hrow.1,aA];refine Hs.loop (λi=>∃ j:Nat,i=(j:Int)/\j<=(NY l.Out k).length/\∀ y∈(NY l.Out k).take j,¬ Vc f l.Out r k y) (λi=>(NY l.Out k).length-i.toNat) ⟨0,rfl,aAB _,λy hy=>by simp at hy⟩ ?_
   rintro _ ⟨j,rfl,hj,hno⟩;refine .dec (λhlt=>?_) λhge=>.lft (.pure ⟨λh=>(by cases h),λ⟨y,hy⟩=>?_⟩)
   ·have hlt:j<(NY l.Out k).length:=by omega
    have hgx:(NY l.Out k)[j]? =some (NY l.Out k)[j]:=aAA _;have hxm:=aAE hlt;have htk:(NY l.Out k).take (j+1)=(NY l.Out k).take j++[(NY l.Out k)[j]]:=by simp_all
    generalize(NY l.Out k)[j]=y at hgx hxm htk;have hy0:=(hrow.2.1.2 y hxm).1;have hyn:=hrow.2.2 y hxm;have stp:¬ Vc f l.Out r k y->∀ z∈(NY l.Out k).take (j+1),¬ Vc f l.Out r k z:=by
     grind
    simp only[OE,hgx,hg,tg _ hy0 hyn,tg _ hA.1 hA.2,aA];rw[NP (by omega)]
    have hky:(Oh r.Keep k==(y != (NF f k).A))=true↔(Oh r.Keep k=true↔y≠(NF f k).A):=by
     grind
    refine .cond (λh1=>.beq (λh2=>.lft (.pure ⟨λ_=>⟨y,hdef,hnm,hxm,hky.1 h1,h2⟩,λ_=>rfl⟩)) λh2=>?_) λh1=>?_
    ·exact .cnt ⟨⟨j+1,rfl,hlt,stp λh=>h2 h.2.2.2.2⟩,by grind⟩
    ·exact .cnt ⟨⟨j+1,rfl,hlt,stp λh=>by rw[hky.2 h.2.2.2.1]at h1;cases h1⟩,by grind⟩
   ·refine(hno y ?_ hy).elim;rw[aAK (by omega)]
    exact hy.2.2.1
  refine .beq (λh17=>?_) λh17=>inner λh=>h17 h.1
  have hB:=hf.uses _ hx.2 (NF f k).B (by grind [Pc])
  rw[tg _ hA.1 hA.2,aA,tg _ hB.1 hB.2,aA];exact .beq (λh=>.pure ⟨λh=>(by cases h),λ⟨y,hy⟩=>(hy.2.1 ⟨h17,h⟩).elim⟩) λh=>inner λh'=>h h'.2
 ·rw[if_neg hdef];exact .pure ⟨λh=>(by cases h),λ⟨y,hy⟩=>(hdef hy.1).elim⟩
theorem Avs (hf:Oi f) (hd:PW f) {l:NT} (hl:Acc f l.Out) (hr:Rz f r):Hs (Vv f l r) λq=>q.2.2=true↔∃ k y,k<f.Code.length/\Vc f l.Out r k y:=by
 have hlen:=hf.len';refine(Ard hf (hl.1.len hf)).bind λe he=>.bne (λh=>(h (he.2.2 hl)).elim) λ_=>?_
 refine(AnV hf r).bind λe he=>.bne (λh=>(h (he.2.2 hr)).elim) λ_=>?_
 refine Hs.loop (λi=>∃ k:Nat,i=(k:Int)/\k<=f.Code.length/\∀ j y,j<k->¬ Vc f l.Out r j y) (λi=>f.Code.length-i.toNat) ⟨0,rfl,aAB _,λs _ hs=>absurd hs (aAH _)⟩ ?_
 rintro _ ⟨k,rfl,hk,hall⟩;refine .dec (λhlt=>?_) λhge=>.lft (.pure ⟨λh=>(by cases h),λ⟨j,y,hj,hy⟩=>(hall j y (by omega) hy).elim⟩)
 have hlt:k<f.Code.length:=by omega
 refine(Auq hf hd hl.1 hr hlt).bind λq hq=>.cond (λh=>?_) λh=>?_
 ·obtain⟨y,hy⟩:=hq.1 h;exact .lft (.pure ⟨λ_=>⟨k,y,hlt,hy⟩,λ_=>rfl⟩)
 ·rw[NP (by omega)]
  refine .cnt ⟨⟨k+1,rfl,hlt,λj y hj hy=>?_⟩,by grind⟩
  grind
theorem Ayg (hf:Oi f) (hd:PW f) {l:NT} (hl:Qg l.Out) (r:NO) :
  Hs (Uj f l r) λe=>(¬ Acc f l.Out/\e=11)\/(Acc f l.Out/\(¬ Rz f r\/∃ k y,k<f.Code.length/\Vc f l.Out r k y)/\e=12)\/(Acc f l.Out/\Rz f r/\(∀ k y,k<f.Code.length->¬ Vc f l.Out r k y)/\e=0):=by
 unfold Uj;refine(Ard hf hl).bind λe he=>.bne (λh=>.pure (.inl ⟨λh'=>h (he.2.2 h'),rfl⟩)) λh=>?_
 have ha:=he.2.1 h;refine(AnV hf r).bind λe he=>.bne (λh=>.pure (.inr (.inl ⟨ha,.inl λh'=>h (he.2.2 h'),rfl⟩))) λh=>?_
 have hr:=he.2.1 h;refine(Avs hf hd ha hr).bind λq hq=>.cond (λh=>.pure (.inr (.inl ⟨ha,.inr (hq.1 h),rfl⟩))) λh=>.pure (.inr (.inr ⟨ha,hr,λk y hk hy=>?_,rfl⟩))
 simp_all
theorem AuO (hf:Oi f) (hd:PW f) {l:NT} (hl:Rj f l.Out) (hr:Rz f r) (hk:k<f.Code.length) :
  Hs (ZG f l r (k:Int)) λq=>q=AtQ (Aci f l.Out r k):=by
 have htl:=hr.1.1;have hx:=hf.at (j:=(k:Int)) (by omega) (by omega)
 have hrow:=hl.at (j:=(k:Int)) (by omega) (by omega)
 rw[aAC]at hx hrow;have hlo:=hrow.2.1.length_le;have hg:r.Keep[k]? =some (Oh r.Keep k):=by have:=hr.2.1;grind [Oh]
 have tg:∀ s:Int,0<=s->s<f.Slots.length->ixO r.To s=some (Oa r.To s):=λs h0 h1=>by grind [Qn,Qu]
 have none':(∀ y,¬ Vc f l.Out r k y)->Aci f l.Out r k=none:=λh=>aAP.2 λy _=>by simp[h y]
 unfold ZG;simp only[OE,hx.1,aA,Aki,Ajo]
 by_cases hdef:(NF f k).Op=16\/(NF f k).Op=17
 ·rw[if_pos hdef];have hA:=hd _ hx.2 hdef;have inner:¬ ((NF f k).Op=17/\Oa r.To (NF f k).A=Oa r.To (NF f k).B)->Hs (Ty r (k:Int) l ((NF f k).A,true)) λq=>q=AtQ (Aci f l.Out r k):=by
   intro hnm;unfold Ty;simp only[OE,hg,hrow.1,aA];refine .cond (λh=>?_) λh=>?_
   ·have hkf:Oh r.Keep k=false:=by simp_all
    rw[AiV _ _ (by omega),aA]
    have only:∀ y,Vc f l.Out r k y->y=(NF f k).A:=λy hy=>Classical.byContradiction λhn=>by rw[hy.2.2.2.1.2 hn]at hkf;cases hkf
    refine .dec (λhm=>.pure ?_) λhm=>.pure ?_
    ·have hL:Vc f l.Out r k (NF f k).A:=⟨hdef,hnm,hm,⟨λh=>(by simp_all),λh=>(h rfl).elim⟩,rfl⟩
     cases hla:Aci f l.Out r k with
     | none=>exact((aAP.1 hla _ hm) (by simp[hL])).elim
     | some y =>
      rw[only y (by simpa using List.find?_some hla)];rfl
    grind [AtQ,Aci]
   ·have hkt:Oh r.Keep k=true:=by simp_all
    refine Hs.loop (λi=>∃ j:Nat,i=(j:Int)/\j<=(NY l.Out k).length/\∀ y∈(NY l.Out k).take j,¬ Vc f l.Out r k y) (λi=>(NY l.Out k).length-i.toNat) ⟨0,rfl,aAB _,λy hy=>by simp at hy⟩ ?_
    rintro _ ⟨j,rfl,hj,hno⟩;unfold Za;simp only[OE,hrow.1,aA];refine .dec (λhlt=>?_) λhge=>.lft (.pure ?_)
    ·have hlt:j<(NY l.Out k).length:=by omega
     have hgx:(NY l.Out k)[j]? =some (NY l.Out k)[j]:=aAA _;have hxm:=aAE hlt;have htk:(NY l.Out k).take (j+1)=(NY l.Out k).take j++[(NY l.Out k)[j]]:=by simp_all
     generalize(NY l.Out k)[j]=y at hgx hxm htk;have hy0:=(hrow.2.1.2 y hxm).1;have hyn:=hrow.2.2 y hxm;have stp:¬ Vc f l.Out r k y->∀ z∈(NY l.Out k).take (j+1),¬ Vc f l.Out r k z:=by
      grind
     simp only[hgx,tg _ hy0 hyn,tg _ hA.1 hA.2,aA];rw[NP (by omega)]
     refine .bne (λh1=>.beq (λh2=>.lft (.pure ?_)) λh2=>?_) λh1=>?_
     ·have hL:Vc f l.Out r k y:=⟨hdef,hnm,hxm,⟨λ_=>h1,λ_=>hkt⟩,h2⟩
      rw[Aci,Ayy hgx (by simp[hL]) λz hz=>by simp_all]
      rfl
     ·exact .cnt ⟨⟨j+1,rfl,hlt,stp λh=>h2 h.2.2.2.2⟩,by grind⟩
     ·exact .cnt ⟨⟨j+1,rfl,hlt,stp λh=>h.2.2.2.1.1 hkt h1⟩,by grind⟩
    ·rw[none' λy hy=>hno y (by rw[aAK (by omega)];exact hy.2.2.1) hy]
     rfl
  refine .beq (λh17=>?_) λh17=>inner λh=>h17 h.1
  have hB:=hf.uses _ hx.2 (NF f k).B (by grind [Pc])
  rw[tg _ hA.1 hA.2,aA,tg _ hB.1 hB.2,aA];refine .beq (λh=>.pure ?_) λh=>inner λh'=>h h'.2
  rw[none' λy hy=>hy.2.1 ⟨h17,h⟩]
  rfl
 ·rw[if_neg hdef];refine .pure ?_;rw[none' λy hy=>hdef hy.1]
  rfl
theorem AuM (hf:Oi f) (hd:PW f) {l:NT} (hl:Qg l.Out) (r:NO):Hs (Adg f l r) λq=>(Acc f l.Out/\Rz f r->Ahs f l.Out r q)/\(¬ (Acc f l.Out/\Rz f r)->q=(0,0,false)):=by
 have hlen:=hf.len';refine(Ajb hf hl).bind λe he=>.bne (λh=>.pure ⟨λh'=>(h (he.2.2 h'.1)).elim,λ_=>rfl⟩) λh=>?_
 have ha:=he.2.1 h;refine(Aep hf r).bind λe he=>.bne (λh=>.pure ⟨λh'=>(h (he.2.2 h'.2)).elim,λ_=>rfl⟩) λh=>?_
 have hr:=he.2.1 h;refine Hs.mono (P:=Ahs f l.Out r) ?_ λq hq=>⟨λ_=>hq,λh'=>(h' ⟨ha,hr⟩).elim⟩
 refine Hs.loop (λi=>∃ k:Nat,i=(k:Int)/\k<=f.Code.length/\∀ j<k,Aci f l.Out r j=none) (λi=>f.Code.length-i.toNat) ⟨0,rfl,aAB _,λj hj=>absurd hj (aAH _)⟩ ?_
 rintro _ ⟨k,rfl,hk,hall⟩;refine .dec (λhlt=>?_) λhge=>.lft (.pure (Or.inr ⟨λj hj=>hall j (by omega),rfl⟩))
 have hlt:k<f.Code.length:=by omega
 refine(AuO hf hd ha.1 hr hlt).bind λq hq=>?_
 subst hq;cases hlk:Aci f l.Out r k with
 | some y=>exact .lft (.pure (Or.inl ⟨k,y,hlt,hlk,hall,rfl⟩))
 | none =>
  simp only[AtQ,cond_false];rw[NP (by omega)]
  refine .cnt ⟨⟨k+1,rfl,hlt,λj hj=>?_⟩,by grind⟩
  grind
theorem AvF (hf:Oi f) (hd:PW f) {l:NT} (hl:Qg l.Out) (r:NO) :
  Hs (Aex f l r) λe=>(¬ Acc f l.Out/\e=11)\/(Acc f l.Out/\(¬ Rz f r\/∃ k y,k<f.Code.length/\Vc f l.Out r k y)/\e=12)\/(Acc f l.Out/\Rz f r/\(∀ k y,k<f.Code.length->¬ Vc f l.Out r k y)/\e=0):=by
 refine(Ajb hf hl).bind λe he=>.bne (λh=>.pure (.inl ⟨λh'=>h (he.2.2 h'),he.1.resolve_left h⟩)) λh=>?_
 have ha:=he.2.1 h;refine(AuM hf hd hl r).bind λq hq=>.cond (λh=>.pure (.inr (.inl ⟨ha,?_,rfl⟩))) λh=>(Aep hf r).bind λe he=>.bne (λh=>.pure (.inr (.inl ⟨ha,.inl λh'=>h (he.2.2 h'),rfl⟩))) λh'=>.pure (.inr (.inr ⟨ha,he.2.1 h',λk y hk hy=>?_,rfl⟩))
 ·by_cases hr:Rz f r
  ·exact .inr ((hq.1 ⟨ha,hr⟩).found.1 h)
  simp_all
 ·rw[(hq.1 ⟨ha,he.2.1 h'⟩).found.2 ⟨k,y,hk,hy⟩]at h;cases h
def Agw (y:NN) (s:Int):Int:=(y.Off[s.toNat]?).getD 0
def Uk (f:Mk) (l:List (List Int)) (y:NN) (k:Nat) (s:Int):Prop :=
 ((NF f k).Op=16\/(NF f k).Op=17)/\¬ ((NF f k).Op=17/\Agw y (NF f k).A=Agw y (NF f k).B)/\s∈NY l k/\s≠(NF f k).A/\AfS ⟨Agw y s,PK f s⟩ ⟨Agw y (NF f k).A,PK f (NF f k).A⟩
instance {f:Mk} {l:List (List Int)} {y:NN} {k:Nat} {s:Int}:Decidable (Uk f l y k s):=by unfold Uk;infer_instance
theorem Uk.mono {l':List (List Int)} {y:NN} (h:Uk f l' y k s) (hs:∀ v∈NY l' k,v∈NY l k):Uk f l y k s :=
 ⟨h.1,h.2.1,hs s h.2.2.1,h.2.2.2⟩
def RP (f:Mk) (l:List (List Int)) (y:NN) (k:Nat):Option Int:=(NY l k).find? λs=>decide (Uk f l y k s)
def AmQ (o:Option Int):Int×Bool:=match o with|some y=>(y,true)|none=>(0,false)
theorem Auw {l:List Int} {p:Int->Bool} {y:Int} (h:l[j]? =some y) (hp:p y=true) (hn:∀ z∈l.take j,p z=false):l.find? p=some y:=by
 grind [aAV,aAW]
theorem Aks {y:NN}:RP f l y k=none↔∀ s,¬ Uk f l y k s:=by
 unfold RP;rw[aAP];exact⟨λh s hs=>by have:=h s hs.2.2.1;simp_all,λh s _=>by simp[h s]⟩
theorem Auh {y:NN} (h:RP f l y k=some s):Uk f l y k s:=by
 grind [RP]
theorem AhI {y:NN} (hl:y.Off.length=f.Slots.length) (h0:0<=s) (h1:s<f.Slots.length):ixO y.Off s=some (Agw y s):=by
 grind [Qn,Agw]
theorem AsQ (h0:0<=s) (h1:s<f.Slots.length):∃ x,ixO f.Slots s=some x/\x.Size=PK f s:=by
 have e:f.Slots[s.toNat]? =some (f.Slots[s.toNat]'(by omega)):=aAA _
 grind [Qn,Adl]
section
variable {p:NG} {i:Int} {f:Mk} {al:Int} (h:Aix p i f al)
 include h
theorem AxL {y:NN} (hyl:y.Off.length=f.Slots.length) {l:NT} (hl:Rj f l.Out) (hk:k<f.Code.length) :
  Hs (Aey f l y (k:Int)) λq=>q=AmQ (RP f l.Out y k):=by
 have hx:=h.SW.at (j:=(k:Int)) (by omega) (by omega)
 have hrow:=hl.at (j:=(k:Int)) (by omega) (by omega)
 rw[aAC]at hx hrow;have hlo:=hrow.2.1.length_le;have none':(∀ s,¬ Uk f l.Out y k s)->RP f l.Out y k=none:=Aks.2;unfold Aey;simp only[OE,hx.1,aA,Aki,Ajo]
 by_cases hdef:(NF f k).Op=16\/(NF f k).Op=17
 ·rw[if_pos hdef];have hA:=h.defs _ hx.2 hdef;obtain⟨xA,eA,hxA⟩:=AsQ (f:=f) hA.1 hA.2;have inner:¬ ((NF f k).Op=17/\Agw y (NF f k).A=Agw y (NF f k).B)->Hs (ZH l (k:Int) ((NF f k).A,true) y f) λq=>q=AmQ (RP f l.Out y k):=by
   intro hnm;refine Hs.loop (λi=>∃ j:Nat,i=(j:Int)/\j<=(NY l.Out k).length/\∀ s∈(NY l.Out k).take j,¬ Uk f l.Out y k s) (λi=>(NY l.Out k).length-i.toNat) ⟨0,rfl,aAB _,λy hy=>by simp at hy⟩ ?_
   rintro _ ⟨j,rfl,hj,hno⟩;unfold Adk;rw[OE,hrow.1,aA];refine .dec (λhlt=>?_) λhge=>.lft (.pure ?_)
   ·have hlt:j<(NY l.Out k).length:=by omega
    have hgx:(NY l.Out k)[j]? =some (NY l.Out k)[j]:=aAA _;have hxm:=aAE hlt;have htk:(NY l.Out k).take (j+1)=(NY l.Out k).take j++[(NY l.Out k)[j]]:=by simp_all
    generalize(NY l.Out k)[j]=s at hgx hxm htk;have hs0:=(hrow.2.1.2 s hxm).1;have hsn:=hrow.2.2 s hxm;obtain⟨xS,eS,hxS⟩:=AsQ (f:=f) hs0 hsn;have stp:¬ Uk f l.Out y k s->∀ z∈(NY l.Out k).take (j+1),¬ Uk f l.Out y k z:=by
     grind
    rw[aA,OE,hgx,aA];simp only[AhI hyl hs0 hsn,AhI hyl hA.1 hA.2,eS,eA,hxS,hxA,aA,AwK];rw[NP (by omega)]
    refine .bne (λh1=>.cond (λh2=>.lft (.pure ?_)) λh2=>?_) λh1=>?_
    ·have hL:Uk f l.Out y k s:=⟨hdef,hnm,hxm,h1,of_decide_eq_true h2⟩;rw[RP,Auw hgx (by simp[hL]) λz hz=>by simp_all]
     rfl
    ·exact .cnt ⟨⟨j+1,rfl,hlt,stp λh=>by rw[decide_eq_true h.2.2.2.2]at h2;cases h2⟩,by grind⟩
    ·exact .cnt ⟨⟨j+1,rfl,hlt,stp λh=>h.2.2.2.1 h1⟩,by grind⟩
   ·rw[none' λs hs=>hno s (by rw[aAK (by omega)];exact hs.2.2.1) hs]
    rfl
  refine .beq (λh17=>?_) λh17=>inner λh=>h17 h.1
  have hB:=h.SW.uses _ hx.2 (NF f k).B (by grind [Pc])
  rw[AhI hyl hA.1 hA.2,aA,AhI hyl hB.1 hB.2,aA];refine .beq (λh=>.pure ?_) λh=>inner λh'=>h h'.2
  rw[none' λs hs=>hs.2.1 ⟨h17,h⟩]
  rfl
 ·rw[if_neg hdef];refine .pure ?_;rw[none' λs hs=>hdef hs.1]
  rfl
end
def AbF (f:Mk) (l:List (List Int)) (y:NN) (q:Int×Int×Bool):Prop :=
 (∃ (k:Nat) (s:Int),k<f.Code.length/\RP f l y k=some s/\(∀ j<k,RP f l y j=none)/\q=((k:Int),s,true))\/((∀ j<f.Code.length,RP f l y j=none)/\q=(0,0,false))
theorem AbF.unique {y:NN} {p:Int×Int×Bool} (h:AbF f l y q) (h':AbF f l y p):q=p:=by
 rcases h with⟨k,s,hk,h1,h2,rfl⟩|⟨h1,rfl⟩<;>rcases h' with⟨k',s',hk',h1',h2',rfl⟩|⟨h1',rfl⟩
 all_goals grind
theorem AbF.found {y:NN} (h:AbF f l y q):q.2.2=true↔∃ k s,k<f.Code.length/\Uk f l y k s:=by
 rcases h with⟨k,s,hk,h1,h2,rfl⟩|⟨h1,rfl⟩
 all_goals grind [Auh,Aks]
def Akf (p:NG) (f:Mk) (al:Int) (l:List (List Int)) (y:NN) (e:Int):Prop :=
 (¬ QS p f al y/\e=13)\/(QS p f al y/\¬ Acc f l/\e=11)\/(QS p f al y/\Acc f l/\(∃ k s,k<f.Code.length/\Uk f l y k s)/\e=13)\/(QS p f al y/\Acc f l/\(∀ k s,k<f.Code.length->¬ Uk f l y k s)/\e=0)
theorem Akf.unique {al:Int} {y:NN} {b:Int} (h:Akf p f al l y a) (h':Akf p f al l y b):a=b:=by
 rcases h with⟨h1,rfl⟩|⟨h1,h2,rfl⟩|⟨h1,h2,⟨k,s,hk,hc⟩,rfl⟩|⟨h1,h2,h3,rfl⟩<;>rcases h' with⟨k1,rfl⟩|⟨k1,k2,rfl⟩|⟨k1,k2,⟨k',s',hk',hc'⟩,rfl⟩|⟨k1,k2,k3,rfl⟩ <;>
  first|rfl|exact(h1 k1).elim|exact(k1 h1).elim|exact(h2 k2).elim|exact(k2 h2).elim|exact(k3 _ _ hk hc).elim|simp_all
section
variable {p:NG} {i:Int} {f:Mk} {al:Int} (h:Aix p i f al)
 include h
theorem Avz {y:NN} (hyl:y.Off.length=f.Slots.length) {l:NT} (hl:Rj f l.Out):Hs (Adj p i l y) (AbF f l.Out y):=by
 have hlen:=h.SW.len';refine Hs.loop (λi=>∃ k:Nat,i=(k:Int)/\k<=f.Code.length/\∀ j<k,RP f l.Out y j=none) (λi=>f.Code.length-i.toNat) ⟨0,rfl,aAB _,λj hj=>absurd hj (aAH _)⟩ ?_
 rintro _ ⟨k,rfl,hk,hall⟩;unfold Adi;rw[h.hi,aA];refine .dec (λhlt=>?_) λhge=>.lft (.pure (Or.inr ⟨λj hj=>hall j (by omega),rfl⟩))
 have hlt:k<f.Code.length:=by omega
 refine(AxL h hyl hl hlt).bind λq hq=>?_
 subst hq;cases hlk:RP f l.Out y k with
 | some s=>exact .lft (.pure (Or.inl ⟨k,s,hlt,hlk,hall,rfl⟩))
 | none =>
  simp only[AmQ,cond_false];rw[NP (by omega)]
  refine .cnt ⟨⟨k+1,rfl,hlt,λj hj=>?_⟩,by grind⟩
  grind
theorem Avy (y:NN) {l:NT} (hl:Qg l.Out):Hs (AiJ p i al l y) λq=>(QS p f al y/\Acc f l.Out->AbF f l.Out y q)/\(¬ (QS p f al y/\Acc f l.Out)->q=(0,0,false)):=by
 refine(AqR h y).bind λe he=>.bne (λhne=>.pure ⟨λhh=>(hne (he.2.2 hh.1)).elim,λ_=>rfl⟩) λh0=>?_
 rw[h.hi,aA];refine(Ajb h.SW hl).bind λc hc=>.bne (λhne=>.pure ⟨λhh=>(hne (hc.2.2 hh.2)).elim,λ_=>rfl⟩) λhc0=>?_
 have hs:=he.2.1 h0;have ha:=hc.2.1 hc0;exact(Avz h hs.2.1 ha.1).mono λq hq=>⟨λ_=>hq,λhn=>(hn ⟨hs,ha⟩).elim⟩
theorem AqQ (y:NN) {l:NT} (hl:Qg l.Out):Hs (AaT p i al l y) (Akf p f al l.Out y):=by
 refine(AqR h y).bind λe he=>.bne (λhne=>.pure (.inl ⟨λhs=>hne (he.2.2 hs),?_⟩)) λh0=>?_
 ·omega
 rw[h.hi,aA];refine(Ajb h.SW hl).bind λc hc=>.bne (λhne=>.pure (.inr (.inl ⟨he.2.1 h0,λha=>hne (hc.2.2 ha),?_⟩))) λhc0=>?_
 ·omega
 have hs:=he.2.1 h0;have ha:=hc.2.1 hc0;refine(Avy h y hl).bind λq hq=>?_
 replace hq:=hq.1 ⟨hs,ha⟩;refine .cond (λhb=>.pure (.inr (.inr (.inl ⟨hs,ha,hq.found.1 hb,rfl⟩)))) λhb=>.pure (.inr (.inr (.inr ⟨hs,ha,λk s hk hc=>?_,rfl⟩)))
 rw[hq.found.2 ⟨k,s,hk,hc⟩]at hb;cases hb
end
open Go Go.Dw Go.Proofs
section
variable {p:NG} {i:Int} {f:Mk} {al:Int} (h:Aix p i f al)
 include h
theorem AqP {y:NN} (hl:y.Off.length=f.Slots.length) (h0:0<=s) (h1:s<f.Slots.length):Pl ⟨p,i,al,f,y⟩ s=some ⟨Agw y s,PK f s⟩:=by
 have:=h;grind [Pl,AsQ,AhI]
theorem Ayr {y:NN} (hyl:y.Off.length=f.Slots.length) {l:NT} (hl:Rj f l.Out) (hk:k<f.Code.length) :
  Hs (RS ⟨p,i,al,f,y⟩ l (k:Int)) λq=>q=AmQ (RP f l.Out y k):=by
 have hx:=h.SW.at (j:=(k:Int)) (by omega) (by omega)
 have hrow:=hl.at (j:=(k:Int)) (by omega) (by omega)
 rw[aAC]at hx hrow;have hlo:=hrow.2.1.length_le;have none':(∀ s,¬ Uk f l.Out y k s)->RP f l.Out y k=none:=Aks.2;unfold RS;simp only[OE,hx.1,aA,AmM]
 by_cases hdef:(NF f k).Op=16\/(NF f k).Op=17
 ·rw[if_pos hdef];have hA:=h.defs _ hx.2 hdef;have inner:¬ ((NF f k).Op=17/\Agw y (NF f k).A=Agw y (NF f k).B)->Hs (Qk l (k:Int) ((NF f k).A,true) ⟨p,i,al,f,y⟩) λq=>q=AmQ (RP f l.Out y k):=by
   intro hnm;unfold Qk;rw[OE,hrow.1,aA];refine Hs.loop (λi=>∃ j:Nat,i=(j:Int)/\j<=(NY l.Out k).length/\∀ s∈(NY l.Out k).take j,¬ Uk f l.Out y k s) (λi=>(NY l.Out k).length-i.toNat) ⟨0,rfl,aAB _,λy hy=>by simp at hy⟩ ?_
   rintro _ ⟨j,rfl,hj,hno⟩;refine .dec (λhlt=>?_) λhge=>.lft (.pure ?_)
   ·have hlt:j<(NY l.Out k).length:=by omega
    have hgx:(NY l.Out k)[j]? =some (NY l.Out k)[j]:=aAA _;have hxm:=aAE hlt;have htk:(NY l.Out k).take (j+1)=(NY l.Out k).take j++[(NY l.Out k)[j]]:=by simp_all
    generalize(NY l.Out k)[j]=s at hgx hxm htk;have hs0:=(hrow.2.1.2 s hxm).1;have hsn:=hrow.2.2 s hxm;have stp:¬ Uk f l.Out y k s->∀ z∈(NY l.Out k).take (j+1),¬ Uk f l.Out y k z:=by
     grind
    simp only[OE,hgx,aA,AqP h hyl hs0 hsn,AqP h hyl hA.1 hA.2,Avu];rw[NP (by omega)]
    refine .bne (λh1=>.cond (λh2=>.lft (.pure ?_)) λh2=>?_) λh1=>?_
    ·have hL:Uk f l.Out y k s:=⟨hdef,hnm,hxm,h1,of_decide_eq_true h2⟩;rw[RP,Auw hgx (by simp[hL]) λz hz=>by simp_all]
     rfl
    ·exact .cnt ⟨⟨j+1,rfl,hlt,stp λh=>by rw[decide_eq_true h.2.2.2.2]at h2;cases h2⟩,by grind⟩
    ·exact .cnt ⟨⟨j+1,rfl,hlt,stp λh=>h.2.2.2.1 h1⟩,by grind⟩
   ·rw[none' λs hs=>hno s (by rw[aAK (by omega)];exact hs.2.2.1) hs]
    rfl
  refine .beq (λh17=>?_) λh17=>inner λh=>h17 h.1
  have hB:=h.SW.uses _ hx.2 (NF f k).B (by grind [Pc])
  rw[AhI hyl hA.1 hA.2,aA,AhI hyl hB.1 hB.2,aA];refine .beq (λh=>.pure ?_) λh=>inner λh'=>h h'.2
  rw[none' λs hs=>hs.2.1 ⟨h17,h⟩]
  rfl
 ·rw[if_neg hdef];refine .pure ?_;rw[none' λs hs=>hdef hs.1]
  rfl
theorem AwF {y:NN} (hyl:y.Off.length=f.Slots.length) {l:NT} (hl:Rj f l.Out):Hs (Ti ⟨p,i,al,f,y⟩ l) (AbF f l.Out y):=by
 have hlen:=h.SW.len';refine Hs.loop (λi=>∃ k:Nat,i=(k:Int)/\k<=f.Code.length/\∀ j<k,RP f l.Out y j=none) (λi=>f.Code.length-i.toNat) ⟨0,rfl,aAB _,λj hj=>absurd hj (aAH _)⟩ ?_
 rintro _ ⟨k,rfl,hk,hall⟩;refine .dec (λhlt=>?_) λhge=>.lft (.pure (Or.inr ⟨λj hj=>hall j (by grind),rfl⟩))
 have hlt:k<f.Code.length:=by simp_all
 refine(Ayr h hyl hl hlt).bind λq hq=>?_
 subst hq;cases hlk:RP f l.Out y k with
 | some s=>exact .lft (.pure (Or.inl ⟨k,s,hlt,hlk,hall,rfl⟩))
 | none =>
  simp only[AmQ,cond_false];rw[NP (by omega)]
  refine .cnt ⟨⟨k+1,rfl,hlt,λj hj=>?_⟩,by grind⟩
  grind
theorem AyV (y:NN) {l:NT} (hl:Qg l.Out):Hs (Tj ⟨p,i,al,f,y⟩ l) λe=>(¬ QS p f al y/\e=13)\/(QS p f al y/\¬ Acc f l.Out/\e=11)\/(QS p f al y/\Acc f l.Out/\e=0):=by
 refine(AwG h y).bind λe he=>.bne (λhne=>.pure (.inl ⟨λhs=>hne (he.2.2 hs),?_⟩)) λh0=>?_
 ·omega
 refine(Ard h.SW hl).bind λc hc=>.bne (λhne=>.pure (.inr (.inl ⟨he.2.1 h0,λha=>hne (hc.2.2 ha),rfl⟩))) λhc0=>.pure (.inr (.inr ⟨he.2.1 h0,hc.2.1 hc0,rfl⟩))
theorem ArR (y:NN) {l:NT} (hl:Qg l.Out):Hs (Sp p i al l y) (Akf p f al l.Out y):=by
 unfold Sp;rw[h.hi,aA];refine(AyV h y hl).bind λe he=>.bne (λhne=>.pure ?_) λh0=>?_
 ·rcases he with⟨h1,h2⟩|⟨h1,h2,h3⟩|⟨_,_,h3⟩
  ·exact .inl ⟨h1,h2⟩
  ·exact .inr (.inl ⟨h1,h2,h3⟩)
  omega
 obtain⟨hs,ha⟩:QS p f al y/\Acc f l.Out:=by
  simp_all
 refine(AwF h hs.2.1 ha.1).bind λq hq=>.cond (λhb=>.pure (.inr (.inr (.inl ⟨hs,ha,hq.found.1 hb,rfl⟩)))) λhb=>.pure (.inr (.inr (.inr ⟨hs,ha,λk s hk hc=>?_,rfl⟩)))
 rw[hq.found.2 ⟨k,s,hk,hc⟩]at hb;cases hb
end
open Go Go.Dw Go.Proofs
theorem AyZ:∀ k:Fin 17,Yp ((k:Nat):Int)=VN ((k:Nat):Int)/\(VN ((k:Nat):Int)).isSome=true:=by decide +kernel
theorem Atm (n:Int):∃ b,Yp n=some b/\VN n=some b:=by
 by_cases h:1<=n/\n<=16
 ·have:=AyZ ⟨n.toNat,by omega⟩
  grind [Option.isSome_iff_exists]
 ·refine⟨false,?_,?_⟩
  ·grind [Yp]
  ·unfold VN;have e1:(n==1)=false:=by simp;omega
   have e2:(n==2)=false:=by simp;omega
   have e3:(n==4)=false:=by simp;omega
   have e4:(n==8)=false:=by simp;omega
   have e5:(n==16)=false:=by simp;omega
   grind
def Pw (n:Int):Prop:=∃ i:Nat,i<=24/\n=(2 ^ i:Nat)
theorem ApS (n:Int) (j:Nat) (hj:j<=24):Ra n ((2 ^ j:Nat):Int)=if n=(2 ^ j:Nat)then some (.inr true)else some (.inl ((2 ^ (j+1):Nat):Int)):=by
 have h1:2 ^ j<=2 ^ 24:=aAR (by decide) hj
 have h2:(2 ^ j:Nat)<=16777216:=by omega
 have w:IntKind.i64.wrap (((2 ^ j:Nat):Int)*2)=((2 ^ (j+1):Nat):Int):=by
  grind [wrap64]
 unfold Ra;have hd:decide (((2 ^ j:Nat):Int)<=16777216)=true:=by grind
 simp_all
theorem AxQ (n:Int):∀ (d j:Nat),j+d<=24->n=(2 ^ (j+d):Nat)->NU (λs=>Ra n s) ((2 ^ j:Nat):Int)=some true:=by
 intro d
 induction d with
 | zero =>
  intro j hj hn;rw[ZS];rw[ApS n j (by omega),if_pos (by omega)]
 | succ d ih =>
  intro j hj hn;rw[ZS];rw[ApS n j (by omega),if_neg]
  ·grind
  ·have:2 ^ j<2 ^ (j+(d+1)):=Nat.pow_lt_pow_right (by decide) (by omega)
   omega
theorem Asg (n:Int) (h:¬ Pw n):∀ (d j:Nat),j+d=25->NU (λs=>Ra n s) ((2 ^ j:Nat):Int)=some false:=by
 intro d
 induction d with
 | zero =>
  simp_all[ZS,Ra]
 | succ d ih =>
  intro j hj;rw[ZS];rw[ApS n j (by omega),if_neg (λe=>h ⟨j,by omega,e⟩)]
  grind
theorem AzT {i:Nat} (h:2 ^ i<=16777216):i<=24:=by
 by_cases hi:i<=24
 ·exact hi
 ·have:2 ^ 25<=2 ^ i:=aAR (by decide) (by omega)
  omega
theorem ArV (n:Int):∃ b,PV n=some b/\RJ n=some b:=by
 have hr:RJ n=NU (λs=>Ra n s) ((2 ^ 0:Nat):Int):=rfl
 by_cases h:1<=n/\n<=16777216
 ·obtain⟨m,rfl⟩:∃ m:Nat,n=m:=⟨n.toNat,by omega⟩
  have e1:PV (m:Int)=some (decide (m &&& (m-1)=0)):=by
   unfold PV;have h1:((m:Int)>=1):=h.1;have h2:((m:Int)<=16777216):=h.2;have w:IntKind.i64.wrap ((m:Int)-1)=((m-1:Nat):Int):=by grind [wrap64]
   have t1:(aAZ IntKind.i64.bits (m:Int)).toNat=m:=by
    show(aAZ 64 (m:Int)).toNat=m
    grind
   have t2:(aAZ IntKind.i64.bits ((m-1:Nat):Int)).toNat=m-1:=by
    grind
   have hle:m &&& (m-1)<=m:=Nat.and_le_left;have w2:IntKind.i64.wrap ((m &&& (m-1):Nat):Int)=((m &&& (m-1):Nat):Int):=wrap64 (by omega) (by omega)
   rw[decide_eq_true h1,cond_true,decide_eq_true h2,cond_true,w,BitVec.toNat_and,t1,t2,w2];congr 1
   grind
  by_cases hp:m &&& (m-1)=0
  ·obtain⟨i,hi⟩:=(aAO (show m≠0 by omega)).1 hp
   refine⟨true,by simp_all,?_⟩
   exact AxQ _ i 0 (by have:=AzT (i:=i) (by omega);omega) (by simp_all)
  ·refine⟨false,by simp_all,?_⟩
   refine Asg _ (λ⟨i,_,hi⟩=>hp ?_) 25 0 (by omega)
   exact(aAO (show m≠0 by omega)).2 ⟨i,by omega⟩
 ·refine⟨false,?_,?_⟩
  ·grind [PV]
  ·rw[hr];refine Asg _ (λ⟨i,hi24,hi⟩=>h ?_) 25 0 (by omega)
   have h1:2 ^ i<=2 ^ 24:=aAR (by decide) hi24
   grind
noncomputable def AeZ (x:NQ):Bool:=(VN x.Size).getD false&&(RJ x.Align).getD false
theorem Axv (x:NQ):Wd x=some (!AeZ x):=by
 obtain⟨a,a1,a2⟩:=Atm x.Size;obtain⟨b,b1,b2⟩:=ArV x.Align
 grind [Wd,AeZ]
def AoO (s:List NQ) (e:Int):Prop:=(512<s.length/\e=3)\/(s.length<=512/\(∀ x∈s,AeZ x=true)/\e=0)\/(s.length<=512/\(∃ x∈s,AeZ x=false)/\e=5)
theorem AoO.one {s:List NQ} {b:Int} (h:AoO s a) (k:AoO s b):a=b:=by
 rcases h with⟨h1,h2⟩|⟨h1,h2,h3⟩|⟨h1,⟨x,h2,h3⟩,h4⟩<;>rcases k with⟨k1,k2⟩|⟨k1,k2,k3⟩|⟨k1,⟨y,k2,k3⟩,k4⟩<;>first
  | omega
  | (simp_all)
  | simp_all
theorem Auu (s:List NQ):Hs (Wv s) (AoO s):=by
 refine .dec (λh=>.pure (.inl ⟨by omega,rfl⟩)) λh=>?_
 have hl:s.length<=512:=by omega
 have key:Hs (NU (λst=>OT s st) 0) λr=>(r= -1/\∀ x∈s,AeZ x=true)\/(0<=r/\∃ x∈s,AeZ x=false):=by
  refine Hs.loop (λi=>0<=i/\i<=s.length/\∀ (j:Nat) x,(j:Int)<i->s[j]? =some x->AeZ x=true) (λi=>s.length-i.toNat) ⟨by omega,by omega,λj x h=>by omega⟩ ?_
  rintro i ⟨h0,h1,h2⟩;refine .dec (λhlt=>?_) λhlt=>?_
  ·refine(Hs.ix h0 hlt λx hx=>hx).bind λx hx=>?_
   rw[Axv,aA];refine .cond (λhb=>.lft (.pure (.inr ⟨h0,x,aAD hx,by simp_all⟩))) λhb=>?_
   have w:IntKind.i64.wrap (i+1)=i+1:=wrap64 (by omega) (by omega)
   rw[w];refine .cnt ⟨⟨by omega,by omega,λj y hj hy=>?_⟩,by grind⟩
   grind
  ·refine .lft (.pure (.inl ⟨rfl,λx hx=>?_⟩))
   grind [aAX]
 refine Hs.bind (P:=λb=>(b=false/\∀ x∈s,AeZ x=true)\/(b=true/\∃ x∈s,AeZ x=false)) (key.bind λr hr=>.pure ?_) λb hb=>?_
 ·grind
 ·rcases hb with⟨rfl,h⟩|⟨rfl,h⟩
  ·exact .pure (.inr (.inl ⟨hl,h,rfl⟩))
  ·exact .pure (.inr (.inr ⟨hl,h,rfl⟩))
theorem AxM (s:List NQ):Hs (YC s) (AoO s):=by
 refine .dec (λh=>.pure (.inl ⟨by omega,rfl⟩)) λh=>?_
 have hl:s.length<=512:=by omega
 refine Hs.loop (λi=>0<=i/\i<=s.length/\∀ (j:Nat) x,(j:Int)<i->s[j]? =some x->AeZ x=true) (λi=>s.length-i.toNat) ⟨by omega,by omega,λj x h=>by omega⟩ ?_
 rintro i ⟨h0,h1,h2⟩;refine .dec (λhlt=>?_) λhlt=>?_
 ·refine(Hs.ix h0 hlt λx hx=>hx).bind λx hx=>?_
  obtain⟨a,a1,a2⟩:=Atm x.Size;obtain⟨b,b1,b2⟩:=ArV x.Align;have hg:AeZ x=(a&&b):=by grind [AeZ]
  rw[a2,aA];have hx':ixO s i=some x:=by grind [Qn]
  cases a
  ·exact .lft (.pure (.inr (.inr ⟨hl,⟨x,aAD hx,hg⟩,rfl⟩)))
  ·rw[hx',aA,b2,aA];cases b
   ·exact .lft (.pure (.inr (.inr ⟨hl,⟨x,aAD hx,hg⟩,rfl⟩)))
   ·simp only[aAY,cond_false];have w:IntKind.i64.wrap (i+1)=i+1:=wrap64 (by omega) (by omega)
    rw[w];refine .cnt ⟨⟨by omega,by omega,λj y hj hy=>?_⟩,by grind⟩
    grind
 ·refine .lft (.pure (.inr (.inl ⟨hl,λx hx=>?_,rfl⟩)))
  grind [aAX]
theorem AwS (s:List NQ):∃ e,Wv s=some e/\YC s=some e/\(e=0->s.length<=512):=by
 obtain⟨a,a1,a2⟩:=Auu s;obtain⟨b,b1,b2⟩:=AxM s;obtain rfl:=a2.one b2;exact⟨a,a1,b1,λh=>by rcases a2 with h1|h1|h1<;>omega⟩
def ApE (s:List NQ):Int:=s.foldl (λa x=>OX a x.Align) 16
theorem ArD (s:List NQ):∃ a,Wu s=some a/\Uu s=some a:=by
 obtain⟨e,h1,h2,h3⟩:=AwS s;unfold Wu Uu;rw[h1,h2,aA,aA]
 by_cases he:e=0
 ·subst he;have hl:=h3 rfl;simp only[beq_self_eq_true,cond_true,bne_self_eq_false,cond_false];have p1:Hs (NU (λq=>XV s q.1 q.2) (0,16)) λa=>a=ApE s:=by
   refine Hs.loop (λq=>∃ k:Nat,q.1=(k:Int)/\k<=s.length/\q.2=ApE (s.take k)) (λq=>s.length-q.1.toNat) ⟨0,rfl,aAB _,rfl⟩ ?_
   rintro⟨_,_⟩ ⟨k,rfl,hk,rfl⟩;refine .dec (λhlt=>?_) λhge=>.lft (.pure ?_)
   ·have hlt:k<s.length:=by omega
    rw[OE,aAA hlt,aA,NP (by omega)]
    refine .cnt ⟨⟨k+1,rfl,hlt,?_⟩,by grind⟩
    grind [ApE,aAJ]
   ·have hkk:k=s.length:=by omega
    subst hkk;show ApE _=_;simp_all
  have p2:Hs (NU (λq=>Zr s q.1 q.2) (16,0)) λa=>a=ApE s:=by
   refine Hs.loop (λq=>∃ k:Nat,q.2=(k:Int)/\k<=s.length/\q.1=ApE (s.take k)) (λq=>s.length-q.2.toNat) ⟨0,rfl,aAB _,rfl⟩ ?_
   rintro⟨_,_⟩ ⟨k,rfl,hk,rfl⟩;refine .dec (λhlt=>?_) λhge=>.lft (.pure ?_)
   ·have hlt:k<s.length:=by omega
    rw[OE,aAA hlt,aA,NP (by omega)]
    refine .cnt ⟨⟨k+1,rfl,hlt,?_⟩,by grind⟩
    grind [ApE,aAJ]
   ·have hkk:k=s.length:=by omega
    subst hkk;show ApE _=_;simp_all
  obtain⟨a,q1,rfl⟩:=p1;obtain⟨b,q2,rfl⟩:=p2;simp_all
 grind
theorem AvC (p:NG) (hp:p.Funcs.length<=1000000):∃ a,UG p=some a/\RK p=some a:=by
 have step:∀ k≤p.Funcs.length,∃ a:Int,∀ b:Int,True:=λ_ _=>⟨0,λ_=>trivial⟩
 let al:Mk->Int:=λf=>Classical.choose (ArD f.Slots)
 have hal:∀ f:Mk,Wu f.Slots=some (al f)/\Uu f.Slots=some (al f):=λf=>Classical.choose_spec (ArD f.Slots)
 let A:List Mk->Int:=λl=>l.foldl (λa f=>OX a (al f)) 16
 have hA:∀ k (hk:k<p.Funcs.length),A (p.Funcs.take (k+1))=OX (A (p.Funcs.take k)) (al p.Funcs[k]):=λk hk=>by
  grind [aAJ]
 have p1:Hs (UG p) λa=>a=A p.Funcs:=by
  refine Hs.loop (λq=>∃ k:Nat,q.2=(k:Int)/\k<=p.Funcs.length/\q.1=A (p.Funcs.take k)) (λq=>p.Funcs.length-q.2.toNat) ⟨0,rfl,aAB _,rfl⟩ ?_
  rintro⟨_,_⟩ ⟨k,rfl,hk,rfl⟩;refine .dec (λhlt=>?_) λhge=>.lft (.pure ?_)
  ·have hlt:k<p.Funcs.length:=by omega
   rw[OE,aAA hlt,aA,(hal _).1,aA,NP (by omega)]
   exact .cnt ⟨⟨k+1,rfl,hlt,(hA k hlt).symm⟩,by grind⟩
  ·have hkk:k=p.Funcs.length:=by omega
   subst hkk;show A _=_;simp_all
 have p2:Hs (RK p) λa=>a=A p.Funcs:=by
  refine Hs.loop (λq=>∃ k:Nat,q.2=(k:Int)/\k<=p.Funcs.length/\q.1=A (p.Funcs.take k)) (λq=>p.Funcs.length-q.2.toNat) ⟨0,rfl,aAB _,rfl⟩ ?_
  rintro⟨_,_⟩ ⟨k,rfl,hk,rfl⟩;refine .dec (λhlt=>?_) λhge=>.lft (.pure ?_)
  ·have hlt:k<p.Funcs.length:=by omega
   rw[OE,aAA hlt,aA,(hal _).2,aA,NP (by omega)]
   exact .cnt ⟨⟨k+1,rfl,hlt,(hA k hlt).symm⟩,by grind⟩
  ·have hkk:k=p.Funcs.length:=by omega
   subst hkk;show A _=_;simp_all
 obtain⟨a,q1,rfl⟩:=p1;obtain⟨b,q2,rfl⟩:=p2;simp_all
theorem AzS (p:NG) (f:Mk) (hp:p.Funcs.length<=1000000) (h0:0<=i) (h1:i<p.Funcs.length):RH p i f=some ⟨p.Funcs.set i.toNat f⟩:=by
 unfold RH Aui AbO
 grind [OO]
theorem Ary (p:NG) (f:Mk) (hp:p.Funcs.length<=1000000) (h0:0<=i) (h1:i<p.Funcs.length):Yh p i f=some ⟨p.Funcs.set i.toNat f⟩:=by
 grind [Yh,AeS,OO]
structure Asm (p:NG) (i:Int) (f:Mk):Prop where
 hi:ixO p.Funcs i=some f
 arg:AeC p f
 so:∀ x∈f.Slots,AjT x
 sl:f.Slots.length<=40
 SW:Oi f
 defs:PW f
 ml:AbH f
 last:Ux f
 calls:AiL p.Funcs.length f
 pl:p.Funcs.length<=1000
 all:∀ g∈p.Funcs,AdV g.Slots
theorem ZT.opt (h:ZT p) (hi:ixO p.Funcs i=some f):Asm p i f:=by
 obtain⟨i0,i1,hif⟩:=Acb hi;have hm:=aAD hif;have hg:=h.all f hm;have hl:=h.few;exact⟨hi,h.args hm,hg.slot,hg.slots,hg.SW,hg.defs,hg.ApG,hg.last,by have:=hg.calls;simp_all,by omega,λg hgm=>(h.all g hgm).AAZ⟩
section
variable {p:NG} {i:Int} {f:Mk} (h:Asm p i f)
 include h
theorem Asm.align:∃ al,UG p=some al/\RK p=some al/\RZ al/\16<=al/\al<=16777216:=by
 obtain⟨al,eal,eal'⟩:=AvC p (by have:=h.pl;omega)
 obtain⟨a,e,ha⟩:=AyN (B:=16777216) (by omega) h.pl λg hg=>⟨by have:=(h.all g hg).1;omega,λx hx=>⟨((h.all g hg).2 x hx).1,((h.all g hg).2 x hx).2.1⟩⟩
 simp_all
theorem Asm.lay {al:Int} (ha:RZ al/\16<=al/\al<=16777216):Aix p i f al:=⟨h.hi,h.arg,⟨h.sl,λx hx=>(h.so x hx).al⟩,ha.1,ha.2.1,ha.2.2,h.SW,h.defs,h.ml⟩
theorem Asm.next (hr:Rz f r) {q:Mk} (ha:Qe f r=some (q,0)) (hx:AfP f r (q,0)) {al:Int} (hal:RZ al/\16<=al/\al<=16777216):Aix ⟨p.Funcs.set i.toNat q⟩ i q al/\q.Params=f.Params/\AiL p.Funcs.length q/\(∀ x∈q.Slots,AjT x):=by
 obtain⟨i0,i1,hif⟩:=Acb h.hi;have hf:=h.SW;obtain⟨qf,qd,qc⟩:Oi q/\PW q/\AiL p.Funcs.length q:=by
  obtain⟨q',e,_,h1,h2,h3⟩:=Avj hf h.defs h.last h.calls hr;simp_all
 have hml:=hx.AAn hf h.defs h.ml hr;obtain⟨_,hqp,used,to',pl,hu,hsx,hn,hpl,hcode⟩:=id hx;have hslot:=Ze.ABm h.so hr.1.1 hsx;have hul:q.Slots.length<=f.Slots.length:=by
  rw[hsx.len];have:=ApZ (l:=used) (a:=0) (n:=(f.Slots.length:Int)) hu.1.1 λv hv=>by
   obtain⟨_,j,hj,hk,hv'⟩:=(hu.2 v).1 hv;exact AfL hf h.defs hr.1 (hf.at (j:=(j:Int)) (by omega) (by omega)).2 v hv'
  omega
 have harg:AeC ⟨p.Funcs.set i.toNat q⟩ q:=by
  intro y hy;rw[hcode]at hy;obtain⟨pn,hp⟩:=aAG hy;obtain⟨j,h1,_,_,rfl⟩:=(WE (f:=f) (keep:=r.Keep) (to:=to') (pl:=pl) _ (by rw[hr.2.1];omega)).2 pn y hp
  have hm:=(hf.at (j:=(j:Int)) (by omega) (by omega)).2
  rw[AsR,Ahd];refine⟨λe=>?_,λe=>?_⟩
  ·rw[Avk (.inl e)];exact(h.arg _ hm).1 e
  ·rw[Avk (.inr e)];obtain⟨a0,gg,hgg,hpp⟩:=(h.arg _ hm).2 e
   grind
 have hset:ixO (⟨p.Funcs.set i.toNat q⟩:NG).Funcs i=some q:=by
  grind [Qn]
 have hsl:AdV q.Slots:=⟨by have:=h.sl;omega,λx hx=>(hslot x hx).al⟩
 exact⟨⟨hset,harg,hsl,hal.1,hal.2.1,hal.2.2,qf,qd,hml⟩,hqp,qc,hslot⟩
theorem AtL (x:NR) (hl:Qg x.Live.Out):∃ e,Uj f x.Live x.Rename=some e/\Aex f x.Live x.Rename=some e/\(e=0->Rz f x.Rename):=by
 obtain⟨e,h1,h2⟩:=Ayg h.SW h.defs hl x.Rename;obtain⟨e',h1',h2'⟩:=AvF h.SW h.defs hl x.Rename
 grind
theorem Avw {al:Int} (ha:RZ al/\16<=al/\al<=16777216) (y:NN) {l:NT} (hl:Qg l.Out):∃ e,Sp p i al l y=some e/\AaT p i al l y=some e/\Akf p f al l.Out y e:=by
 obtain⟨e,h1,h2⟩:=ArR (h.lay ha) y hl;obtain⟨e',h1',h2'⟩:=AqQ (h.lay ha) y hl;cases h2.unique h2';simp_all
end
open Go Go.Dw Go.Proofs
def shI (x:Lo):Lo:=if x.Op=20 then⟨x.Op,x.A+1,x.B,x.C,x.Imm⟩else if x.Op=21 then⟨x.Op,x.A,x.B+1,x.C,x.Imm⟩else x
theorem AAY (x:Lo):(shI x).Op=x.Op:=by
 grind [shI]
theorem AwR {code:List Lo} (hl:code.length<=1000) (h:∀ x∈code,(x.Op=20->0<=x.A/\x.A<=2000)/\(x.Op=21->0<=x.B/\x.B<=2000)):Hs (Agi code) λr=>r=code.map shI:=by
 refine .chk (by simp;omega) ?_
 rw[List.nil_append];refine Hs.loop (λs=>∃ k:Nat,s.2=(k:Int)/\k<=code.length/\s.1.length=code.length/\∀ j:Nat,s.1[j]? =(code[j]?).map λx=>if j<k then shI x else x) (λs=>code.length-s.2.toNat) ⟨0,rfl,aAB _,rfl,λj=>by simp_all⟩ ?_
 rintro⟨out,_⟩ ⟨k,rfl,hk,ho,hj⟩;replace ho:out.length=code.length:=ho;dsimp only;refine .dec (λhlt=>?_) λhge=>.lft (.pure ?_)
 ·have hk':k<code.length:=by omega
  obtain⟨x,hx⟩:∃ x,code[k]? =some x:=⟨_,aAA hk'⟩;have hok:out[k]? =some x:=by grind
  have hm:=h x (aAD hx);have get:∀ {P:Lo->Prop},P x->Hs (out[(k:Int).toNat]?) P:=λhp=>by
   rw[aAC,hok];exact .pure hp
  rw[NP (by omega)]
  have fin:∀ y,y=shI x->∀ j:Nat,(out.set (k:Int).toNat y)[j]? =(code[j]?).map λx=>if j<k+1 then shI x else x:=by
   grind
  have two:∀ y,y=shI x->Hs (cnt (out.set (k:Int).toNat y,((k+1:Nat):Int)):Option ((List Lo×Int)⊕List Lo)) (Rnd (λs:List Lo×Int=>∃ k:Nat,s.2=(k:Int)/\k<=code.length/\s.1.length=code.length/\∀ j:Nat,s.1[j]? =(code[j]?).map λx=>if j<k then shI x else x) (λs=>code.length-s.2.toNat) (out,(k:Int)) λr=>r=code.map shI):=λy hy =>
   .cnt ⟨⟨k+1,rfl,by omega,by simp_all,fin y hy⟩,by grind⟩
  refine .chk (by omega) ((get (P:=λy=>x=y) rfl).bind ?_)
  rintro _ rfl;refine .beq (λe=>?_) λe=>.beq (λe'=>?_) λe'=>?_
  ·refine .chk (by omega) ((get (P:=λy=>x=y) rfl).bind ?_)
   rintro _ rfl;refine .chk (by omega) ((get (P:=λy=>x=y) rfl).bind ?_)
   rintro _ rfl;refine two _ ?_;unfold shI;rw[if_pos e,wrap64 (by omega) (by omega)]
  ·refine .chk (by omega) ((get (P:=λy=>x=y) rfl).bind ?_)
   rintro _ rfl;refine .chk (by omega) ((get (P:=λy=>x=y) rfl).bind ?_)
   rintro _ rfl;refine two _ ?_;unfold shI;rw[if_neg e,if_pos e',wrap64 (by omega) (by omega)]
  ·have hsx:shI x=x:=by simp_all[shI]
   refine .cnt ⟨⟨k+1,rfl,by omega,ho,λj=>?_⟩,by grind⟩
   grind
 ·have:k=code.length:=by omega
  subst this;refine aAQ λj=>?_
  grind
theorem Wi.sh {np nf:Int} {T T':Int->Prop} (h:Wi sl np nf T x) (ht:∀ t,T t->T' (t+1)):Wi sl np nf T' (shI x):=by
 cases h with
 | bin op a b c h1 h2 h3 h4 h5 =>
  rw[show shI ⟨op,a,b,c,0⟩=⟨op,a,b,c,0⟩by grind [shI]]
  exact .bin op a b c h1 h2 h3 h4 h5
 | one op a h1 h2 =>
  rw[show shI ⟨op,a,0,0,0⟩=⟨op,a,0,0,0⟩by grind [shI]]
  exact .one op a h1 h2
 | two op a b h1 h2 h3 =>
  rw[show shI ⟨op,a,b,0,0⟩=⟨op,a,b,0,0⟩by grind [shI]]
  exact .two op a b h1 h2 h3
 | jump t h1=>exact .jump _ (ht _ h1)
 | branch a t h1 h2=>exact .branch a _ h1 (ht _ h2)
 | store a b h1 h2 h3=>exact .store a b h1 h2 h3
 | load a b h1 h2 h3=>exact .load a b h1 h2 h3
 | move a b h1 h2 h3=>exact .move a b h1 h2 h3
 | const a w h1=>exact .const a w h1
 | param a b h1 h2 h3=>exact .param a b h1 h2 h3
 | arg a b h1 h2 h3=>exact .arg a b h1 h2 h3
 | call j h1 h2=>exact .call j h1 h2
 | ret=>exact .ret
 | trap w=>exact .trap w
theorem ZT.set (h:ZT p) {q:Mk} (hi:ixO p.Funcs i=some f) (hq:GW p.Funcs.length q) (hp:q.Params=f.Params):ZT ⟨p.Funcs.set i.toNat q⟩/\ixO (⟨p.Funcs.set i.toNat q⟩:NG).Funcs i=some q:=by
 obtain⟨i0,i1,hif⟩:=Acb hi;refine⟨⟨λg hg=>?_,by simpa using h.few,λg hg=>?_⟩,by grind [Qn]⟩
 ·rw[List.getElem?_set]at hg;split at hg
  ·rename_i e;rw[if_pos (by omega)]at hg
   cases hg;rw[hp];exact h.zero f (by simp_all)
  ·exact h.zero g hg
 ·rw[List.length_set];rcases List.mem_or_eq_of_mem_set hg with hm|rfl
  ·exact h.all g hm
  ·exact hq
theorem Axr (h:okC c) {funcs most:Int} (hp:ArC funcs most p) (hm:most<=100) (hfn:funcs<=79):Hs (YN c p) λq=>okC q.2/\ZT q.1:=by
 have hy:=hp.y (by omega) hfn
 have hfew:=hy.few;have hlen:∀ f∈p.Funcs,f.Code.length<=600:=λf hf=>by
  obtain⟨ps,hps,hz,hp1,hp2,hfl,hall⟩:=hp;obtain⟨j,hj⟩:=aAG hf;have:=(hall j f hj).len';omega
 refine(Od h (by omega) (by omega)).bind λr hr=>?_
 refine(Hs.ix (P:=λf=>ixO p.Funcs r.1=some f) hr.2.1 hr.2.2 λf hf=>by grind [Qn]).bind λf hi=>?_
 obtain⟨i0,i1,hif⟩:=Acb hi;have hfm:=aAD hif;have hg:=hy.all f hfm;have hl:=hlen f hfm;refine(Od hr.1 (by omega) (by omega)).bind λu hu=>?_
 refine(AwR (by omega) λx hx=>?_).bind ?_
 ·have hb:=hg.body x hx;refine⟨λe=>?_,λe=>?_⟩<;>cases hb<;>first
   | (simp at e;done)
   | (rename_i h1;simp only at h1 ⊢;omega)
   | (simp_all)
   | (simp only at e;omega)
 rintro _ rfl;have hq:GW p.Funcs.length (Mk.mk f.Params f.Slots ([Lo.mk 22 u.1 0 0 0]++f.Code.map shI)):=by
  have hcl:([Lo.mk 22 u.1 0 0 0]++f.Code.map shI).length=f.Code.length+1:=by simp
  refine⟨hg.par,hg.slots,hg.slot,by simp,by grind,λx hx=>?_,?_⟩
  ·simp only[hcl];rcases List.mem_append.1 hx with hx|hx
   ·rw[List.mem_singleton.1 hx];exact .call _ hu.2.1 hu.2.2
   ·obtain⟨y,hy',rfl⟩:=List.mem_map.1 hx;exact(hg.body y hy').sh λt ht=>by omega
  ·have h1:=hg.len;have e:NF (Mk.mk f.Params f.Slots ([Lo.mk 22 u.1 0 0 0]++f.Code.map shI)) ((([Lo.mk 22 u.1 0 0 0]++f.Code.map shI).length-1:Nat):Int)=shI (NF f (f.Code.length-1:Nat)):=by
    grind [NF]
   unfold Ux;simp only[e,AAY];exact hg.last
 refine .chk (by simp;omega) ?_
 rw[Ary p _ (by omega) hr.2.1 hr.2.2,aA]
 exact .pure ⟨hu.1,(hy.set hi hq rfl).1⟩
theorem AwZ (hf:Oi f) (hd:PW f) (r:NO):Hs (Qe f r) λq=>q.2=0->∃ used nm pl,AlY f q.1 r used nm pl:=by
 obtain⟨e,he,h1,h2⟩:=Aep hf r
 by_cases e0:e=0
 ·exact(AsT hf hd (h2.1 e0)).mono λq hq _=>hq.2
 ·unfold Qe;rw[he,aA];exact .bne (λ_=>.pure λe=>(e0 e).elim) λe=>(e0 e).elim
theorem AvD (h:okC c) (hy:ZT p) (hi:ixO p.Funcs i=some f):Hs (WN c p i) λq=>okC q.2/\Qg q.1.Live.Out/\Qg q.1.LiveAfter.Out:=by
 obtain⟨i0,i1,hif⟩:=Acb hi;have hg:=hy.all f (aAD hif);have hfew:=hy.few;have hf:=hg.SW;have hop:=hy.opt hi;obtain⟨al,_,ea,hal⟩:=hop.align;refine(AnS hi hf hg.defs hg.ApG hg.last hop.calls (by omega)).bind λq hq=>(Od h (by omega) (by omega)).bind λr hr=>.beq (λ_=>.pure ⟨hr.1,hq.2.1.1.len hf,hq.2.2⟩) λ_=>(Od hr.1 (by omega) (by omega)).bind λu hu=>?_
 have j4:∀ {g:Mk},GW p.Funcs.length g->g.Params=f.Params->∀ {x y:List (List Int)} (a:List Int) (b:List Bool) {l:List Int} {k:Int},okC ⟨l,k⟩->Qg x->Qg y->Hs (Sm p i g.Params g.Slots g.Code x a b q l k y) λq=>okC q.2/\Qg q.1.Live.Out/\Qg q.1.LiveAfter.Out:=by
  intro g hgg hgp x y a b l k hc hx hy';obtain⟨hps,hpi⟩:=hy.set hi hgg hgp;have hop2:=hps.opt hpi;refine(Od hc (by omega) (by omega)).bind λv hv=>.beq (λ_=>?_) λ_=>.pure ⟨hv.1,hx,hy'⟩
  rw[Ary p _ (by omega) i0 i1,aA,ea,aA]
  exact(Aww hv.1 (hop2.lay hal) hgg.last hop2.calls (by simp;omega)).bind λw hw=>.pure ⟨hw,hx,hy'⟩
 have j3:∀ {g:Mk},GW p.Funcs.length g->g.Params=f.Params->∀ {x:List (List Int)} (a:List Int) (b:List Bool) {l:List Int} {k:Int},okC ⟨l,k⟩->Qg x->Hs (QX p i x a b q l k g.Params g.Slots g.Code) λq=>okC q.2/\Qg q.1.Live.Out/\Qg q.1.LiveAfter.Out:=by
  intro g hgg hgp x a b l k hc hx;exact(Od hc (by omega) (by omega)).bind λv hv=>.beq (λ_=>(AvP hv.1 hgg.SW).bind λw hw=>j4 hgg hgp a b hw.1 hx (AiO.len hgg.SW hw.2.1 hw.2.2)) λ_=>j4 hgg hgp a b hv.1 hx hq.2.2
 have j2:∀ {x:List (List Int)} (a:List Int) (b:List Bool) {l:List Int} {k:Int},okC ⟨l,k⟩->Qg x->Hs (QW p i x q l k a b) λq=>okC q.2/\Qg q.1.Live.Out/\Qg q.1.LiveAfter.Out:=by
  intro x a b l k hc hx;unfold QW;rw[hi,aA];refine(AwZ hf hg.defs ⟨a,b⟩).bind λg hgq=>.beq (λe=>?_) λ_=>j3 hg rfl a b hc hx
  obtain⟨used,nm,pl,hrw⟩:=hgq e;exact(Od hc (by omega) (by omega)).bind λv hv=>.beq (λ_=>j3 (hrw.gw hg) hrw.par a b hv.1 hx) λ_=>j3 hg rfl a b hv.1 hx
 have j1:∀ {x:List (List Int)} {l:List Int} {k:Int},okC ⟨l,k⟩->Qg x->Hs (Sl p i q l k x) λq=>okC q.2/\Qg q.1.Live.Out/\Qg q.1.LiveAfter.Out:=by
  intro x l k hc hx;exact(Od hc (by omega) (by omega)).bind λv hv=>.beq (λ_=>(AwV hv.1 hi hf hg.defs hg.ApG hg.last hop.calls (by omega)).bind λw hw=>j2 _ _ hw.1 hx) λ_=>j2 _ _ hv.1 hx
 refine .beq (λ_=>?_) λ_=>j1 hu.1 (hq.2.1.1.len hf)
 rw[hi,aA];exact(AvP hu.1 hf).bind λw hw=>j1 hw.1 (AiO.len hf hw.2.1 hw.2.2)
def AjS (l:List NR):Prop:=∀ x∈l,Qg x.Live.Out/\Qg x.LiveAfter.Out
theorem AuJ (h:okC c) (hy:ZT p):Hs (VC c p) λq=>okC q.2/\AjS q.1:=by
 have hfew:=hy.few;refine Hs.loop (λs=>okC ⟨s.1,s.2.1⟩/\∃ k:Nat,s.2.2.2=(k:Int)/\k<=p.Funcs.length/\s.2.2.1.length=k/\AjS s.2.2.1) (λs=>p.Funcs.length-s.2.2.2.toNat) ⟨h,0,rfl,aAB _,rfl,λx hx=>by cases hx⟩ ?_
 rintro⟨l,a,x,_⟩ ⟨hc,k,rfl,hk,hxl,hx⟩;replace hxl:x.length=k:=hxl;dsimp only;refine .dec (λhlt=>?_) λ_=>.lft ?_
 ·have hi:ixO p.Funcs (k:Int)=some (p.Funcs[k]'(by omega)):=by simp_all
  refine(AvD hc hy hi).bind λq hq=>.chk (by simp;omega) ?_
  rw[NP (by omega)]
  refine .cnt ⟨⟨hq.1,k+1,rfl,by omega,by simp[hxl],λz hz=>?_⟩,by grind⟩
  rcases List.mem_append.1 hz with hz|hz
  ·exact hx z hz
  simp_all
 ·refine(Od hc (by omega) (by omega)).bind λr hr=>.beq (λ_=>?_) λ_=>.pure ⟨hr.1,hx⟩
  rw[wrap64 (by omega) (by omega)]
  refine(Od hr.1 (by omega) (by omega)).bind λu hu=>.chk (by omega) (.chk (by omega) (.pure ⟨hu.1,λz hz=>hx z (List.mem_of_mem_take hz)⟩))
theorem AwQ (codes:List Int) (hc:qL (OZ .u8) codes):Hs (Aee codes) λq=>ZT q.1/\AjS q.2.1/\okC q.2.2:=by
 unfold Aee;obtain⟨c,e1,hcok⟩:=AAS codes 500 hc (by omega) (by omega)
 rw[e1,aA];have j1:∀ {p:NG} {l:List Int} {a:Int},okC ⟨l,a⟩->ZT p->Hs (Zn p.Funcs l a) λq=>ZT q.1/\AjS q.2.1/\okC q.2.2:=by
  intro p l a hc hy;exact(AuJ hc hy).bind λq hq=>.pure ⟨hy,hq.2,hq.1⟩
 exact(AwM hcok (by omega) (by omega) (by omega) (by omega)).bind λp hp=>(Od hp.1 (by omega) (by omega)).bind λr hr=>.beq (λ_=>(Axr hr.1 hp.2 (by omega) (by omega)).bind λq hq=>j1 hq.1 hq.2) λ_=>j1 hr.1 (hp.2.y (by omega) (by omega))
set_option maxRecDepth 100000
set_option maxHeartbeats 40000000
theorem AwX {ι R:Type} (body:ι->Option (ι⊕R)) (s:ι):NU body s=(body s).bind (Sum.elim (NU body) some):=by
 rw[ZS];cases body s with
 | none=>rfl
 | some x=>cases x<;>rfl
theorem ABk {n:Int} (h:decide (-9223372036854775808<=n/\n<=9223372036854775807)=true):IntKind.i64.wrap n=n:=by
 simp at h;exact wrap64 h.1 h.2
theorem ABl {n:Int} (h:decide (0<=n/\n<18446744073709551616)=true):IntKind.u64.wrap n=n:=by
 simp at h;simp[IntKind.wrap,IntKind.bits,IntKind.signed];omega
section
attribute [local simp] IntKind.bits Aum AbO OX Yb ABl Ams AwX ixO chk lft cnt ZR ABk Rs.toList Tu.toList NB.toList  Rs.set Tu.set NB.set   Ahf AeY Aaz Wv Po Pz OT Wd Yp PV Aax AlW Ahg Acv Aka Ahh SO AcD AcE AjU Qm ZU RB PI Xy AeD PZ Qw Qa Xx UJ Zh AcB PX Un Uo AcF Ahe Wu XV ZQ Agx Aam AbW Th AbX AfG TV XU AaC WG Agy Xi TW Qq PS Qr Rv Zf Ro XZ Ya Zo Pj AfH AbY Zm ON TP AfE QZ Vd VU ZM Ta QF Py VZ Rp Wm QE Px VY Vi Wa Vl Aaw Aav Ws Vv VS VR PL OY QM Xp ZJ WI AbC UY Wb PY AbB Aas Wn WK Aat Aau RX QG ZI Zb WH RH Sp Tj RT TM TL Ru Pl Sv UD Ti TK RS Qk TJ Wc Aec AcM VG VH VI VJ VK AjW ZV Tb Xz AfZ AfX AfY SD Rk QU Sk Rf AaE AeK AeI Abu Ana RG Yc Aaj WR AiC Zp Aeo We RV SJ AcP Vp Vq Rg PG Qb PH Yd TQ TR AjX Aiz Rl AeJ Aag OV Pb OW Tm 
abbrev AnR:NG:=NG.mk [Mk.mk 0 [] [Lo.mk 23 0 0 0 0]]
abbrev ABv:NR:=(NR.mk (NT.mk ([])) (NO.mk ([]) ([])) (NT.mk ([])) (NN.mk 0 0 ([])))
theorem ABH:Ajf AnR=some 0:=by simp(config:={decide:=true}) [Ajf]
theorem AAN:AaP [[]]=some ([0],0):=by simp(config:={decide:=true}) [AaP,Lib.ctz,Lib.ctzFrom]
theorem AAM:UG AnR=some 16:=by simp(config:={decide:=true}) [UG]
theorem AyE:RI AnR 0 16=some (⟨0,0,[]⟩,0):=by simp(config:={decide:=true}) [RI]
theorem AAO:Se (Mk.mk 0 [] [Lo.mk 23 0 0 0 0]) (NT.mk [])=some 11:=by simp(config:={decide:=true})
theorem ABF:Sp AnR 0 16 (NT.mk []) (NN.mk 0 0 [])=some 11:=by simp(config:={decide:=true}) [Sp,AyE,AAO]
theorem ABx:Su AnR 0 ABv=some (⟨0,[],[⟨23,0,0,0,0⟩]⟩,⟨0,0,[]⟩,0,0):=by simp(config:={decide:=true}) [Su,Sx,AAM,AyE,Uj,AAO]
theorem ABy:AaQ AnR 0 (NN.mk 0 0 [])=some ⟨0,0,[⟨23,0,0,0,0⟩]⟩:=by simp(config:={decide:=true}) [AaQ]
theorem ABD:AbM ⟨[[]],[0],[false],[0]⟩ 0=some (0,0,⟨[[]],[0],[true],[0]⟩):=AzJ (λn=>AsV n _ _) (n:=1) (by simp(config:={decide:=true}) [QH,QT,SD])
theorem ABz:Afx [[]] [0]=some ([0],0):=by simp(config:={decide:=true}) [Afx,AAN,ABD]
theorem ABA:AaB (OP.mk 16 [OI.mk 0 0 [Lo.mk 23 0 0 0 0]])=some [0]:=by simp(config:={decide:=true}) [AaB]
theorem ABB:Vk [[]] [0] [0]=some 0:=by simp(config:={decide:=true}) [Vk,AmC,BrG]
theorem ABC:Agu (OP.mk 16 [OI.mk 0 0 [Lo.mk 23 0 0 0 0]])=some 0:=by simp(config:={decide:=true}) [Agu]
theorem ABE:Asq AnR=some [[]]:=by simp[Asq,Awc,AdY,chk]
theorem ABG:RH AnR 0 ⟨0,[],[⟨23,0,0,0,0⟩]⟩=some AnR:=by simp(config:={decide:=true})
theorem Azv:Aed=some true:=by
 simp(config:={decide:=true}) [Aed,Agl,Agk,XM,XN,XO,Wq,Aab,Abn,XP,XQ,XR,XS,XT,TS,ABH,AAN,AAM,AyE,ABx,ABy,ABz,ABA,ABB,ABC,ABE]
end
open Go Go.Dw Go.Proofs
attribute [local simp] OO aAM
inductive Aht (n size params frames:Int):Lo->Prop
 | load (a o s:Int):Wj a->s∈([1,2,4,8,16]:List Int)->0<=o->o+s<=size+16*params->Aht n size params frames ⟨15,a,o,s,0⟩
 | store (o b s:Int):Wj b->s∈([1,2,4,8,16]:List Int)->0<=o->o+s<=size->Aht n size params frames ⟨16,o,b,s,0⟩
 | move (o o' s:Int):s∈([1,2,4,8,16]:List Int)->0<=o->o+s<=size->0<=o'->o'+s<=size->Aht n size params frames ⟨17,o,o',s,0⟩
 | const (a w:Int):Wj a->Aht n size params frames ⟨0,a,0,0,w⟩
 | bin (op a b c:Int):2<=op->op<12->Wj a->Wj b->Wj c->Aht n size params frames ⟨op,a,b,c,0⟩
 | one (op a:Int):(op=13\/op=14)->Wj a->Aht n size params frames ⟨op,a,0,0,0⟩
 | two (op a b:Int):(op=1\/op=12)->Wj a->Wj b->Aht n size params frames ⟨op,a,b,0,0⟩
 | call (j:Int):0<=j->j<frames->Aht n size params frames ⟨22,j,0,0,0⟩
 | jump (t:Int):0<=t->t<n->Aht n size params frames ⟨20,t,0,0,0⟩
 | branch (a t:Int):Wj a->0<=t->t<n->Aht n size params frames ⟨21,a,t,0,0⟩
 | ret:Aht n size params frames ⟨23,0,0,0,0⟩
 | trap (w:Int):Aht n size params frames ⟨24,0,0,0,w⟩
section
variable {f:Oz} {n size params:Int} (hn:(f.Frame.Code.length:Int)=n) (hs:f.Frame.Size=size) (hp:f.Frame.Params=params) (hs0:0<=size) (hs1:size<=2147483519) (hp0:0<=params) (hp1:params<=8)
 include hn hs hp hs0 hs1 hp0 hp1
end
open Go Go.Dw Go.Proofs
attribute [local simp] OO aAM
structure ABu (frames:List OI) (al:Int) (fr:OI):Prop where
 par:0<=fr.Params/\fr.Params<=8
 size:0<=fr.Size/\fr.Size<=2147483519
 al_:fr.Size.tmod al=0
 len:1<=fr.Code.length/\fr.Code.length<=1024
 code:∀ x∈fr.Code,Aht fr.Code.length fr.Size fr.Params frames.length x
 last:∀ x,fr.Code[fr.Code.length-1]? =some x->SO x.Op=some true
 call:∀ x∈fr.Code,x.Op=22->∃ g,ixO frames x.A=some g/\0<=g.Params/\g.Params<=8/\16*g.Params<=fr.Size
section
variable {t:OP} (hal:PV t.Align=some true) (h16:16<=t.Align) (hl:1<=t.Frames.length/\t.Frames.length<=80) (hfr:∀ fr∈t.Frames,ABu t.Frames t.Align fr)
 include hal h16 hl hfr
end
open Go Go.Dw Go.Proofs
attribute [local simp] OO aAM
section
variable {nf:Int} {p:NG} {f:Mk} {al:Int} {y:NN} (hg:GW nf f) (hy:QS p f al y) (hs:y.Size<=1100000000)
 include hg hy hs
end
open Go Go.Dw Go.Proofs
structure ChY (p:NG) (i:Int) (f:Mk) (al:Int) (r:Mk×NN×Int×Int):Prop where
 err:r.2.2.2=0
 gok:GW p.Funcs.length r.1
 arg:AeC ⟨p.Funcs.set i.toNat r.1⟩ r.1
 par:r.1.Params=f.Params
 shape:QS ⟨p.Funcs.set i.toNat r.1⟩ r.1 al r.2.1
 size:r.2.1.Size<=(Um p f al).Size
section
variable {p:NG} {i:Int} {f:Mk} (h:Asm p i f) (hg:GW p.Funcs.length f)
 include h hg
theorem Avr {al:Int} (ea:UG p=some al) (ea':RK p=some al) (hal:RZ al/\16<=al/\al<=16777216) (x:NR) (hx1:Qg x.Live.Out) (hx2:Qg x.LiveAfter.Out):∃ r,Su p i x=some r/\Acu p i x=some r/\ChY p i f al r:=by
 obtain⟨i0,i1,hif⟩:=Acb h.hi;have hL:=h.lay hal;have eb:=AuH h.hi h.SW.len' h.arg hL.slots hal.1 hal.2.2;have eb':=Arq h.hi h.SW.len' h.arg hL.slots hal.1 hal.2.2;obtain⟨e,ev,ev',hv⟩:=AtL h x hx1;obtain⟨c,ec,ec',hc⟩:=Avw h hal x.Layout hx1;have hset:(⟨p.Funcs.set i.toNat f⟩:NG)=p:=by
  have:p.Funcs.set i.toNat f=p.Funcs:=by
   apply aAQ
   grind
  rw[this]
 have old:∀ (y:NN) (n:Int),QS p f al y->ChY p i f al (f,y,n,0):=λy n hy=>⟨rfl,hg,by simp only[hset];exact h.arg,rfl,by simp_all,hy.2.2.2.2.2⟩
 have j1:∃ r,Sx p i al x f (Um p f al,0)=some r/\UU p i al x f (Um p f al,0)=some r/\ChY p i f al r:=by
  unfold Sx UU;simp only[ec,ec',aA]
  by_cases h0:c=0
  ·subst h0;simp only[beq_self_eq_true,cond_true];refine⟨_,rfl,rfl,old _ _ ?_⟩;rcases hc with⟨_,h2⟩|⟨_,_,h2⟩|⟨_,_,_,h2⟩|⟨h1,_⟩
   all_goals omega
  ·rw[show(c==0)=false by simp[h0]]
   exact⟨_,rfl,rfl,old _ _ (Awg hL.bas)⟩
 have j2:∀ (q:Mk×Int) (b:Bool),(b=true->ChY p i f al (q.1,x.Layout,2,0))->∃ r,Sy q x p i al f (Um p f al,0) b=some r/\UW q x p i al f (Um p f al,0) b=some r/\ChY p i f al r:=by
  grind [Sy,UW]
 unfold Su Acu;simp only[ea,eb,h.hi,ea',eb',aA,bne_self_eq_false,cond_false,ev,ev']
 by_cases he:e=0
 ·subst he;simp only[beq_self_eq_true,cond_true];have hr:=hv rfl;obtain⟨⟨q,qe⟩,ep,er,hx⟩:=Awf h.SW h.defs hr;have qe0:qe=0:=hx.1;subst qe0;simp only[ep,er,aA,AzS p q (show p.Funcs.length<=1000000 by have:=h.pl;omega) i0 (by omega),Ary p q (show p.Funcs.length<=1000000 by have:=h.pl;omega) i0 (by omega)]
  obtain⟨hL2,hqp,_⟩:=h.next hr er hx hal;obtain⟨d,h1,h2⟩:=ArR hL2 x.Layout hx2;obtain⟨d',h1',h2'⟩:=AqQ hL2 x.Layout hx2;cases h2.unique h2';have hgq:GW p.Funcs.length q:=by
   obtain⟨q',e1,_,used,nm,pl,hw⟩:=AsT h.SW h.defs hr;rw[er]at e1;cases e1;exact hw.gw hg
  simp only[h1,h1',aA,beq_self_eq_true,cond_true]
  by_cases hs:x.Layout.Size<=(Um p f al).Size
  ·rw[decide_eq_true hs];simp only[cond_true]
   by_cases hd:d=0
   ·subst hd;simp only[beq_self_eq_true,cond_true];refine j2 _ _ λ_=>⟨rfl,hgq,hL2.arg,hqp,?_,hs⟩
    rcases h2 with⟨_,h2⟩|⟨_,_,h2⟩|⟨_,_,_,h2⟩|⟨h1,_⟩
    all_goals omega
   ·rw[show(d==0)=false by simp[hd]]
    simp_all
  simp_all[decide_eq_false]
 grind
end
end Go.Proofs.YtcaoepecbgggcaaGreatDoor
namespace Go.Dw
theorem ArI {R:Type} {body:Int->Option (Int⊕R)} (n:Nat) {r:R} (h:∀ k:Nat,k<n->body (k:Int)=cnt (((k+1:Nat)):Int)) (he:body (n:Int)=lft (some r)):NU body 0=some r:=by
 have key:Hs (NU body 0) λq=>q=r:=by
  refine Hs.loop (λi=>∃ k:Nat,i=(k:Int)/\k<=n) (λi=>n-i.toNat) ⟨0,rfl,aAB _⟩ ?_
  rintro _ ⟨k,rfl,hk⟩
  by_cases e:k<n
  ·rw[h k e];exact .cnt ⟨⟨k+1,rfl,e⟩,by grind⟩
  ·obtain rfl:k=n:=by omega
   rw[he];exact .lft (.pure rfl)
 obtain⟨q,h,rfl⟩:=key;exact h
end Go.Dw
namespace Go.Proofs.YtcaoepecbgggcaaGreatDoor
open Go Go.Dw Go.Proofs
theorem AtI (c:List Lo) (h:c.length<=1000000):Zx c c=some true:=by
 unfold Zx;simp only[bne_self_eq_false,cond_false];refine ArI c.length (λk hk=>?_) ?_
 ·unfold Vt;rw[decide_eq_true (by omega),cond_true,OE,aAA hk,aA,aA,NP (by omega)]
  simp
 simp_all[Vt]
theorem AtJ (f:Mk) (h:f.Code.length<=1000000) (hs:f.Slots.length<=1000000):Zy f f=some true:=by
 unfold Zy;simp only[bne_self_eq_false,cond_false,AtI _ h,aA,aAY];unfold YX;refine ArI f.Slots.length (λk hk=>?_) ?_
 ·unfold Vu;rw[decide_eq_true (by omega),cond_true,OE,aAA hk,aA,aA,NP (by omega)]
  simp
 simp_all[Vu]
theorem AzI {raw:List NR} (hr:raw.length<=140737488355328):Hs (AcI raw) λ_=>True:=by
 refine Hs.loop (λs=>∃ k:Nat,s.2=(k:Int)/\k<=raw.length) (λs=>raw.length-s.2.toNat) ⟨0,rfl,aAB _⟩ ?_
 rintro⟨n,_⟩ ⟨k,rfl,hk⟩;refine .dec (λhlt=>.dec (λ_=>?_) λ_=>.lft (.pure trivial)) λ_=>.lft (.pure trivial)
 have ix:Hs (ixO raw (k:Int)) λ_=>True:=Hs.ix (by omega) (by omega) λ_ _=>trivial
 unfold AeH;rw[NP (by omega)]
 exact ix.bind λ_ _=>ix.bind λ_ _=>ix.bind λ_ _=>ix.bind λ_ _=>ix.bind λ_ _=>.cnt ⟨⟨k+1,rfl,by omega⟩,by grind⟩
theorem Ash (y:NN) (h:y.Off.length<=1000000):AgX y y=some true:=by
 unfold AgX AeW;simp only[bne_self_eq_false,cond_false];obtain⟨b,e,rfl⟩:Hs (NU (λs=>AeV y y s) 0) λb=>b=true:=by
  refine Hs.loop (λs=>∃ k:Nat,s=(k:Int)/\k<=y.Off.length) (λs=>y.Off.length-s.toNat) ⟨0,rfl,aAB _⟩ ?_
  rintro _ ⟨k,rfl,hk⟩;refine .dec (λhlt=>?_) λ_=>.lft (.pure rfl)
  rw[Qn _ (by omega),aAC,aAA (by omega),aA,aA,NP (by omega)]
  exact .bne (λe=>(e rfl).elim) λ_=>.cnt ⟨⟨k+1,rfl,by omega⟩,by grind⟩
 exact e
theorem AjS.raw {raw:List NR} (h:qL AlK raw):AjS raw:=λx hx=>by
 have:=h.2 x hx;have hm:140737488355328<=maxLen:=by decide
 exact⟨⟨aAU this.1.1 hm,λs hs=>aAU (this.1.2 s hs).1 hm⟩,⟨aAU this.2.2.1.1 hm,λs hs=>aAU (this.2.2.1.2 s hs).1 hm⟩⟩
theorem Axi {p:NG} (hy:ZT p) {l:List NR} (hl:AjS l) {q:List NR×BR} {k:Nat} (hk:k<p.Funcs.length) (hkl:k<l.length):SH l k (p,q)=cnt (((k+1:Nat):Int)):=by
 have hfew:=hy.few;obtain⟨x,hx⟩:∃ x,l[k]? =some x:=⟨_,aAA hkl⟩;obtain⟨f,hf⟩:∃ f,p.Funcs[k]? =some f:=⟨_,aAA hk⟩;have hi:ixO p.Funcs (k:Int)=some f:=by simp_all
 have hop:=hy.opt hi;obtain⟨al,ea,ea',hal⟩:=hop.align;obtain⟨h1,h2⟩:=hl x (aAD hx);obtain⟨r,e1,e2,hc⟩:=Avr hop (hy.all f (aAD hf)) ea ea' hal x h1 h2;have hg:=hc.gok;have ho:=hc.shape.2.2.1;unfold SH;have hs:=hg.slots;have hcl:=hg.len';rw[Qn _ (by omega),aAC,hx,aA,e1,aA,aA,e2,aA,AtJ _ (by omega) (by omega),Ash _ (by have:=hc.shape.2.1;omega),NP (by omega)]
 simp_all
theorem Alk (codes:List Int) (raw:List NR) (hc:qL (OZ .u8) codes) (hr:qL AlK raw):XY codes raw=some true:=by
 unfold XY;obtain⟨b,eb,_⟩:=AzI hr.1;simp only[Azv,eb,aA,aAY,cond_false];cases b
 ·rfl
 unfold US;obtain⟨⟨p,l,c⟩,es,hy,hl,_⟩:=AwQ codes hc;rw[es,aA];have hraw:=AjS.raw hr;obtain⟨b,e,rfl⟩:Hs (NU (λs=>SG (p,l,c) raw s) 0) λb=>b=true:=by
  refine Hs.loop (λs=>∃ k:Nat,s=(k:Int)/\k<=2) (λs=>2-s.toNat) ⟨0,rfl,aAB _⟩ ?_
  rintro _ ⟨k,rfl,hk⟩;unfold SG;refine .dec (λhlt=>?_) λ_=>.lft (.pure rfl)
  have hlt:k<2:=by grind
  obtain⟨y,hky,hys⟩:∃ y,([l,raw]:List (List NR))[k]? =some y/\AjS y:=by
   grind
  refine .chk (by omega) ?_
  simp only[aAC,hky,aA];refine Hs.loop (λs=>∃ m:Nat,s=(m:Int)/\m<=p.Funcs.length) (λs=>p.Funcs.length-s.toNat) ⟨0,rfl,aAB _⟩ ?_
  grind [Hs,cnt,Rnd,NP,UR,lft,Axi]
 exact e
end Go.Proofs.YtcaoepecbgggcaaGreatDoor
