/-
  THE LAYER: symbolic semantics of compiled code, and programs on typed data.
-/
import Derived.Test.YtbnconokpjdnjaaDoorDc
import Derived.KernelRfl
import Derived.Shelf.Spec.TrailingZeros
import Derived.Lib.ItoaNum
import Derived.Lib.Join
import Derived.Below
import Derived.Shelf.Strings.BuilderF
import Derived.Lib.Hide
import Derived.Sort.Row
import Derived.Sort.Grow
import Derived.Lib.SlicesCompact
import Derived.LaidMore
import Derived.OpenShut
import Derived.MakeChecks
import Derived.Lib.TrailingZeros
namespace Go.Dw
def itE (p : List UInt8 × Nat) : List D:=[.str p.1,.int .i64 (.ofNat p.2)]
def itN (p : List UInt8 × Nat) : List UInt8 × Nat:=(p.1,p.2 + (US p.1 p.2).2)
theorem FZ {α : Type} (l : List α) (en : α -> D) (k : Nat) : List.take (l.length - k) (List.drop k (l.map en)) = (l.drop k).map en:=by
 rw [<- List.map_drop]
 exact List.take_of_length_le (by simp)
section
variable {Γ : Ar} {X α : Type} {K : KR X} {t : Option X} {e E : List (Nat × D)} {o O : List (Nat × Ac)} {n nv : Nat} {acc : List Cs} {d : Bool}
 {r : List As} {dst : Nat} {g : Option (Nat × Bool)} {af : List Nat} {x y i : Arg} {gi vi ty : Nat} {m : Int} {en : α -> D} {l : List (Int × α)} {z : D}
theorem DY (g v : Nat) : strip (.mref g v) = (true,.mref g v):=rfl
theorem CJ (k : IntKind) (n : Int) : strip (.int k n) = (true,.int k n):=rfl
theorem AbU {K : X -> Ax -> S -> Prop} {N : Nat} {s : List UInt8} (hx : Aa e x = some (.str s))
  (h : ∀ nn,TrO Γ r (nn + 1) ⟨(dst,.mref dst nn) :: e,(dst,some (nn,⟨true,false,0,1,itE (s,0)⟩)) :: o,nn + 1⟩ false [] (Cj N K) t) :
  TrO Γ (⟨some dst,.rng x,none,af⟩ :: r) nv ⟨e,o,n⟩ false acc (Cj N K) t:=by
 intro q hq
 refine ⟨λ_=>.inr (.inr ?_),λhd=>by cases hd⟩
 exact ⟨_,.refl _,rfl,dst,rfl,1,_,⟨s,by rw [Ao,hx]; rfl,rfl,rfl⟩,_,.refl _,(h nv q hq).1 rfl⟩
theorem AbT {p : List UInt8 × Nat} {t' : Option X} (hg : gOn e g = true) (hx : Aa e x = some (.mref gi vi)) (ho : lkO o gi = some (vi,⟨true,false,0,1,itE p⟩))
  (h : p.2 < p.1.length -> TrO Γ r (nv + 1) ⟨(dst,.tup [.bool true,.int .i64 p.2,.int .i32 (US p.1 p.2).1]) :: e,(gi,some (vi,⟨true,false,0,1,itE (itN p)⟩)) :: o,n⟩ d (acc ++ [(gK g ++ (rdK x ++ [.o gi]),[.e dst,.o gi],af)]) K t)
  (h' : ¬ p.2 < p.1.length -> TrO Γ r (nv + 1) ⟨(dst,.tup [.bool false]) :: e,o,n⟩ d (acc ++ [(gK g ++ (rdK x ++ [.o gi]),[.e dst],af)]) K t') :
  TrO Γ (⟨some dst,.nxt x,g,af⟩ :: r) nv ⟨e,o,n⟩ d acc K (bif Nat.blt p.2 p.1.length then t else t'):=by
 obtain ⟨s,q⟩:=p
 simp only [itE,itN] at ho h h' ⊢
 by_cases hq : q < s.length
 ·have e1 : Nat.blt q s.length = true:=by simpa [Nat.blt_eq] using hq
  rw [e1]
  simp only [cond_true]
  refine An hg (c:=True /\ vi = vi /\ 0 = 0 /\ 1 = 1) (we:=[(dst,.tup [.bool true,.int .i64 q,.int .i32 (US s q).1])]) (wo:=[(gi,some (vi,⟨true,false,0,1,[.str s,.int .i64 (.ofNat (q + (US s q).2))]⟩))]) (rd:=rdK x ++ [Key.o gi]) ?_ ?_ ⟨trivial,rfl,rfl,rfl⟩ (h hq)
  ·simp only [evalOp,R.run_bind,Ao,Option.getD_some,hx,DY,Dp,R.Bk,AA,ho,R.AP,R.run_pure,if_pos hq,Ad]
  ·simp only [evalOp,R.AO,Ao,Bj,Option.getD_some,hx,DY,Dp,R.CI,R.Bk,AA,ho,R.Dh,R.AP,R.BB,if_pos hq,List.append_nil]
 ·have e1 : Nat.blt q s.length = false:=by
   cases hb : Nat.blt q s.length with
   | false=>rfl
   | true=>exact absurd (by simpa [Nat.blt_eq] using hb) hq
  rw [e1]
  simp only [cond_false]
  refine An hg (c:=True /\ vi = vi /\ 0 = 0 /\ 1 = 1) (we:=[(dst,.tup [.bool false])]) (wo:=[]) (rd:=rdK x ++ [Key.o gi]) ?_ ?_ ⟨trivial,rfl,rfl,rfl⟩ (h' hq)
  ·simp only [evalOp,R.run_bind,Ao,Option.getD_some,hx,DY,Dp,R.Bk,AA,ho,R.AP,R.run_pure,if_neg hq,Ad]
  ·simp only [evalOp,R.AO,Ao,Bj,Option.getD_some,hx,DY,Dp,R.CI,R.Bk,AA,ho,R.Dh,R.AP,R.BB,if_neg hq,List.append_nil]
theorem Aau {v vw gw off gg s tyy ss tw k : Nat} {β : Type} {l : List β} {en : β -> D} {zz z' : D} (how : lkO o gw = some (vw,⟨false,true,ss,tw,[zz]⟩)) (hc : (cells zz)[off]? = some (.osl gg v 0 k)) (ho : lkO o gg = some (v,⟨false,false,s,tyy,l.map en⟩)) (hk : k <= l.length)
  (hz : Rq zz off [.osl gg v 0 (l.take k).length] = z')
  (h : Has ⟨e,(gw,some (vw,⟨false,true,ss,tw,[z']⟩)) :: (gg,some (v,⟨false,false,s,tyy,(l.take k).map en⟩)) :: o,n⟩ E O) (hrw : Ab gw = false:=by rfl) (hr : Ab gg = false:=by rfl) (hne : Nat.beq gw gg = false:=by rfl) : Has ⟨e,o,n⟩ E O:=by
 subst hz
 have hne' : gw ≠ gg:=λe=>by subst e; simp at hne
 have:=Rw.shrink (σ:=⟨e,o,n⟩) gw vw 0 off gg v k ⟨false,true,ss,tw,[zz]⟩ ⟨false,false,s,tyy,l.map en⟩ (by rw [AA]; exact how) hrw rfl rfl (by simp) hc (by rw [AA]; exact ho) hr rfl rfl (by simpa using hk) hne'
 refine CO this ?_
 have e1 : ((l.map en).take k).length = (l.take k).length:=by simp
 have e2 : (l.map en).take k = (l.take k).map en:=List.map_take.symm
 simp only [List.getD_cons_zero,List.set_cons_zero]
 rw [e2,List.length_map]
 exact h
end
end Go.Dw
namespace Go.Dw
class TyE (ty : Nat) {α : outParam Type} (en : outParam (α -> D)) : Prop
def noE {B : Type} (_ : B) : List D:=[]
class RP {A : Type} (enc : A -> List D) (dec : outParam (List D -> A)) : Prop where
 ok : ∀ a,dec (enc a) = a
def EvL (l l' : List D) : Prop:=l = l'
theorem EvL.nil {l : List D} (h : l = []) : EvL l []:=h
theorem EvL.cons {l t t' : List D} {a : D} (h : l = a :: t) (ht : EvL t t') : EvL l (a :: t'):=by
 cases ht; exact h
def EvP (l l' : List (Nat × Nat × D)) : Prop:=l = l'
theorem EvP.nil {l : List (Nat × Nat × D)} (h : l = []) : EvP l []:=h
theorem EvP.cons {e : List (Nat × D)} {a b : Nat} {x : Arg} {r : List (Nat × Nat × Arg)} {d : D} {r' : List (Nat × Nat × D)} (h : Aa e x = some d) (ht : EvP (CA e r) r') : EvP (CA e ((a,b,x) :: r)) ((a,b,d) :: r'):=by
 cases ht; simp [EvP,CA,h]
section
variable {Γ : Ar} {X : Type} {K : KR X} {t : Option X} {e : List (Nat × D)} {o : List (Nat × Ac)} {n nv : Nat} {d : Bool} {acc : List Cs}
 {r : List As} {dst : Nat} {g : Option (Nat × Bool)} {af : List Nat} {α : Type}
 {x y : Arg} {v v' w : D} {k k' : IntKind} {a b : Int} {s ty gi vi ii off m : Nat} {fz var : Bool} {es cs : List D} {z z' : D} {l l' : List α} {en : α -> D}
theorem Gn {i : Nat} (hg : gOn e g = true) (hx : Aa e x = some (.optr gi vi i off)) (ho : lkO o gi = some (vi,⟨fz,var,s,ty,es⟩)) (hz : es[i]? = some z) (hv : (cells z)[off]? = some v)
  (h : TrO Γ r (nv + 1) ⟨(dst,v) :: e,o,n⟩ d (acc ++ [(gK g ++ (rdK x ++ [.o gi]),[.e dst],af)]) K t) (hpl : (plain v || !Ab gi) = true:=by rfl) :
  TrO Γ (⟨some dst,.ld 1 false x,g,af⟩ :: r) nv ⟨e,o,n⟩ d acc K t :=
 Fj hg hx ho hz (Nat.ble_eq_true_of_le (List.getElem?_eq_some_iff.1 hv).1) (by simp [AV,hv]) h hpl
theorem Gp {i : Nat} (hg : gOn e g = true) (hx : Aa e x = some (.optr gi vi i off)) (ho : lkO o gi = some (vi,⟨fz,var,s,ty,es⟩)) (hz : es[i]? = some z) (hb : Nat.ble (off + m) (cells z).length = true) (hv : EvL (((cells z).drop off).take m) cs)
  (h : TrO Γ r (nv + 1) ⟨(dst,.agg cs) :: e,o,n⟩ d (acc ++ [(gK g ++ (rdK x ++ [.o gi]),[.e dst],af)]) K t) :
  TrO Γ (⟨some dst,.ld m true x,g,af⟩ :: r) nv ⟨e,o,n⟩ d acc K t :=
 Fj hg hx ho hz hb (by cases hv; rfl) h (by rfl)
theorem Kg (hg : gOn e g = true) (hx : Aa e x = some (.fptr z off)) (hv : (cells z)[off]? = some v)
  (h : TrO Γ r (nv + 1) ⟨(dst,v) :: e,o,n⟩ d (acc ++ [(gK g ++ rdK x,[.e dst],af)]) K t) :
  TrO Γ (⟨some dst,.ld 1 false x,g,af⟩ :: r) nv ⟨e,o,n⟩ d acc K t :=
 Fi hg hx (Nat.ble_eq_true_of_le (List.getElem?_eq_some_iff.1 hv).1) (by simp [AV,hv]) h
theorem Kh (hg : gOn e g = true) (hx : Aa e x = some (.fptr z off)) (hb : Nat.ble (off + m) (cells z).length = true) (hv : EvL (((cells z).drop off).take m) cs)
  (h : TrO Γ r (nv + 1) ⟨(dst,.agg cs) :: e,o,n⟩ d (acc ++ [(gK g ++ rdK x,[.e dst],af)]) K t) :
  TrO Γ (⟨some dst,.ld m true x,g,af⟩ :: r) nv ⟨e,o,n⟩ d acc K t :=
 Fi hg hx hb (by cases hv; rfl) h
theorem Nv (hg : gOn e g = true) (hx : Aa e x = some (.optr gi vi 0 0)) (hy : Aa e y = some v) (hw : strip v = (true,v)) (ho : lkO o gi = some (vi,⟨false,true,s,ty,[z]⟩)) (hk : known v = true) (hl : cells v = [v'])
  (hb : Nat.ble 1 (cells z).length = true) (hz : (match z with | .agg _=>false | _=>true) = true)
  (h : TrO Γ r (nv + 1) ⟨e,(gi,some (vi,⟨false,true,s,ty,[v']⟩)) :: o,n⟩ d (acc ++ [(gK g ++ (rdK x ++ (rdK y ++ [.o gi])),[.o gi],af)]) K t) (hrg : Ab gi = false:=by rfl) :
  TrO Γ (⟨none,.st 1 x y,g,af⟩ :: r) nv ⟨e,o,n⟩ d acc K t :=
 Fk hg hx hy hw ho hk (by rw [hl]; rfl) hb (by rw [hl]; cases z <;> first | rfl | cases hz) h hrg
theorem Nw {zs : List D} (hg : gOn e g = true) (hx : Aa e x = some (.optr gi vi 0 off)) (hy : Aa e y = some v) (hw : strip v = (true,v)) (ho : lkO o gi = some (vi,⟨false,true,s,ty,[z]⟩)) (hk : known v = true) (hl : (cells v).length = m)
  (hzz : z = .agg zs) (hb : Nat.ble (off + m) zs.length = true) (hz : EvL (setAt zs off (cells v)) cs)
  (h : TrO Γ r (nv + 1) ⟨e,(gi,some (vi,⟨false,true,s,ty,[.agg cs]⟩)) :: o,n⟩ d (acc ++ [(gK g ++ (rdK x ++ (rdK y ++ [.o gi])),[.o gi],af)]) K t) (hrg : Ab gi = false:=by rfl) :
  TrO Γ (⟨none,.st m x y,g,af⟩ :: r) nv ⟨e,o,n⟩ d acc K t:=by
 subst hzz; cases hz
 exact Fk hg hx hy hw ho hk hl hb rfl h hrg
theorem Nt {zs : List D} {parts : List (Nat × Nat × Arg)} {ps : List (Nat × Nat × D)} (hg : gOn e g = true) (hp : EvP (CA e parts) ps) (hf : EJ zs.length ps = true) (hz : EvL (Dy zs ps) cs)
  (h : TrO Γ r (nv + 1) ⟨(dst,.agg cs) :: e,o,n⟩ d (acc ++ [(gK g ++ Dr parts,[.e dst],af)]) K t) :
  TrO Γ (⟨some dst,.bld zs parts,g,af⟩ :: r) nv ⟨e,o,n⟩ d acc K t:=OL hg hp hf hz h
theorem LL (hg : gOn e g = true) (hx : Aa e x = some (.agg cs)) (hv : cs[off]? = some v)
  (h : TrO Γ r (nv + 1) ⟨(dst,v) :: e,o,n⟩ d (acc ++ [(gK g ++ rdK x,[.e dst],af)]) K t) :
  TrO Γ (⟨some dst,.fld off 1 false x,g,af⟩ :: r) nv ⟨e,o,n⟩ d acc K t :=
 KP hg hx (Nat.ble_eq_true_of_le (List.getElem?_eq_some_iff.1 hv).1) (by simp [AV,hv]) h
theorem LM {cs' : List D} (hg : gOn e g = true) (hx : Aa e x = some (.agg cs)) (hb : Nat.ble (off + m) cs.length = true) (hv : EvL ((cs.drop off).take m) cs')
  (h : TrO Γ r (nv + 1) ⟨(dst,.agg cs') :: e,o,n⟩ d (acc ++ [(gK g ++ rdK x,[.e dst],af)]) K t) :
  TrO Γ (⟨some dst,.fld off m true x,g,af⟩ :: r) nv ⟨e,o,n⟩ d acc K t :=
 KP hg hx hb (by cases hv; rfl) h
theorem Ir (_ : TyE ty en) (hg : gOn e g = true) (hx : Aa e x = some .nils) (h : TrO Γ r (nv + 1) ⟨(dst,.osl dst nv 0 ([] : List α).length) :: e,(dst,some (nv,⟨false,false,s,ty,([] : List α).map en⟩)) :: o,n⟩ d (acc ++ [(gK g ++ rdK x,[.e dst,.o dst],af)]) K t) :
  TrO Γ (⟨some dst,.asg x (some (s,ty)),g,af⟩ :: r) nv ⟨e,o,n⟩ d acc K t:=Kb hg en hx h
theorem Nu {bytes : Nat} {q : α} (_ : TyE ty en) (hz : z = en q) (hg : gOn e g = true) (hx : Aa e x = some (.int k a)) (hy : Aa e y = some (.int k' a)) (hl : 0 <= a /\ a <= 16777216) (hby : Nat.ble bytes 65536 = true)
  (h : TrO Γ r (nv + 1) ⟨(dst,.osl dst nv 0 (List.replicate a.toNat q).length) :: e,(dst,some (nv,⟨false,false,s,ty,(List.replicate a.toNat q).map en⟩)) :: o,n⟩ d (acc ++ [(gK g ++ (rdK x ++ rdK y),[.e dst,.o dst],af)]) K t) :
  TrO Γ (⟨some dst,.mkS s ty bytes z x y,g,af⟩ :: r) nv ⟨e,o,n⟩ d acc K t:=OM en hg hx hy hz hl hby h
theorem Kd {c : Prop} {parts : List (Nat × Arg)} {i : Nat} {p : D} {rk : List Key} {q : α} (_ : TyE ty en) (hg : gOn e g = true) (hr : (AW parts).run ⟨e,o,n⟩ = (c,[(i,p)],[])) (hk : (AW parts).rd ⟨e,o,n⟩ = rk) (hc : c) (hq : p = en q)
  (hp : Jl s 1 [(i,p)] = true) (hes : CE [z] [(i,en q)] = [en q])
  (h : TrO Γ r (nv + 1) ⟨(dst,.osl dst nv 0 [q].length) :: e,(dst,some (nv,⟨false,false,s,ty,[q].map en⟩)) :: o,n⟩ d (acc ++ [(gK g ++ rk,[.e dst,.o dst],af)]) K t) :
  TrO Γ (⟨some dst,.bldS s ty z 1 parts,g,af⟩ :: r) nv ⟨e,o,n⟩ d acc K t:=by
 subst hq
 exact Ym [q] en hg hr hk hc hp hes rfl (by simpa using h)
theorem Kf {p q : Bool} (hg : gOn e g = true) (hx : Aa e x = some (.bool p)) (hy : Aa e y = some (.bool q))
  (h : TrO Γ r (nv + 1) ⟨(dst,.bool (!(p == q))) :: e,o,n⟩ d (acc ++ [(gK g ++ (rdK x ++ rdK y),[.e dst],af)]) K t) :
  TrO Γ (⟨some dst,.eqB true x y,g,af⟩ :: r) nv ⟨e,o,n⟩ d acc K t:=KN hg hx hy h
theorem Ke {p q : Bool} (hg : gOn e g = true) (hx : Aa e x = some (.bool p)) (hy : Aa e y = some (.bool q))
  (h : TrO Γ r (nv + 1) ⟨(dst,.bool (p == q)) :: e,o,n⟩ d (acc ++ [(gK g ++ (rdK x ++ rdK y),[.e dst],af)]) K t) :
  TrO Γ (⟨some dst,.eqB false x y,g,af⟩ :: r) nv ⟨e,o,n⟩ d acc K t:=KN hg hx hy h
theorem YD {ops : List As} {x : Nat} {wt : Bool} {b : Bool} {dt : Option Nat} {op : DOp} {t1 t2 : Option X} (hx : Cb e x = some (.bool b))
  (h1 : TrO Γ (⟨dt,op,some (x,wt),af⟩ :: ops) nv ⟨Ej e x (.bool true),o,n⟩ d acc K t1) (h2 : TrO Γ (⟨dt,op,some (x,wt),af⟩ :: ops) nv ⟨Ej e x (.bool false),o,n⟩ d acc K t2) :
  TrO Γ (⟨dt,op,some (x,wt),af⟩ :: ops) nv ⟨e,o,n⟩ d acc K (bif b then t1 else t2):=MC x hx h1 h2
end
section
variable {Γ : Ar} {X A B : Type} {K : KR X} {e : List (Nat × D)} {o : List (Nat × Ac)} {n nv : Nat} {d : Bool} {acc : List Cs}
 {r : List As} {dst : Nat} {g : Option (Nat × Bool)} {af : List Nat} {α : Type}
 {ptr : List (Nat × (Nat × Nat))} {kind : Kind} {enc : A -> List D} {dec : List D -> A} {f : A -> Option B} {encR : B -> D} {encE : B -> List D} {m : Option B} {kt : B -> Option X}
 {fa : Arg} {args : List Arg} {caps : List D} {k : Nat} {c : Prop} {ds : List D} {w : List (Nat × Ac)} {ps : List (Nat × Nat × Own)} {rk : List Key} {s ty : Nat}
theorem Hn (hg : gOn e g = true) (hf : Aa e fa = some (.clo k caps)) (hΓ : Γ (k + 4096 * AM (Aj e args)) = some (QW ptr .val enc dec f encR encE)) [hde : RP enc dec] (hr : (Ae ptr 0 (Aj e args ++ caps)).run ⟨e,o,n⟩ = (c,ds,w,ps))
  (hk : (Ae ptr 0 (Aj e args ++ caps)).rd ⟨e,o,n⟩ = rk) (hc : c) (ha : ∃ a,f a = m /\ ds = enc a)
  (h : ∀ b,m = some b -> TrO Γ r (nv + 1) ⟨(dst,encR b) :: e,(Ah ps (encE b) ++ w) ++ o,n⟩ d (acc ++ [(gK g ++ (rdK fa ++ (Bo args ++ rk)),.e dst :: (Ah ps (encE b) ++ w).map (λx=>.o x.1),af)]) K (kt b)) (hkb : Nat.blt k 4096 = true:=by rfl) :
  TrO Γ (⟨some dst,.call fa args,g,af⟩ :: r) nv ⟨e,o,n⟩ d acc K (m.bind kt) :=
 Sf λb hb=>ha.elim λa ha=>Gd a hg hf hΓ hde.ok hr hk hc ha.2 (ha.1.trans hb) (h b hb) hkb
theorem Gs (hg : gOn e g = true) (hf : Aa e fa = some (.clo k caps)) (hΓ : Γ (k + 4096 * AM (Aj e args)) = some (QW ptr .val enc dec f encR encE)) [hde : RP enc dec] (hr : (Ae ptr 0 (Aj e args ++ caps)).run ⟨e,o,n⟩ = (c,ds,w,ps))
  (hk : (Ae ptr 0 (Aj e args ++ caps)).rd ⟨e,o,n⟩ = rk) (hc : c) (ha : ∃ a,f a = m /\ ds = enc a)
  (h : ∀ b,m = some b -> TrO Γ r (nv + 1) ⟨e,(Ah ps (encE b) ++ w) ++ o,n⟩ d (acc ++ [(gK g ++ (rdK fa ++ (Bo args ++ rk)),(Ah ps (encE b) ++ w).map (λx=>.o x.1),af)]) K (kt b)) (hkb : Nat.blt k 4096 = true:=by rfl) :
  TrO Γ (⟨none,.call fa args,g,af⟩ :: r) nv ⟨e,o,n⟩ d acc K (m.bind kt) :=
 Sf λb hb=>ha.elim λa ha=>Fx a hg hf hΓ hde.ok hr hk hc ha.2 (ha.1.trans hb) (h b hb) hkb
theorem Fq (hg : gOn e g = true) (hf : Aa e fa = some (.clo k caps)) (hΓ : Γ (k + 4096 * AM (Aj e args)) = some (QW [] .ground enc dec f encR encE)) [hde : RP enc dec] (hr : (Ae [] 0 (Aj e args ++ caps)).run ⟨e,o,n⟩ = (c,ds,w,ps))
  (hk : (Ae [] 0 (Aj e args ++ caps)).rd ⟨e,o,n⟩ = rk) (hc : c) (ha : ∃ a,f a = m /\ ds = enc a) (hgr : ∀ b,isGround (encR b) = true)
  (h : ∀ b,m = some b -> TrO Γ r (nv + 1) ⟨(dst,encR b) :: e,o,n⟩ d (acc ++ [(gK g ++ (rdK fa ++ (Bo args ++ rk)),[.e dst],af)]) K (kt b)) (hkb : Nat.blt k 4096 = true:=by rfl) :
  TrO Γ (⟨some dst,.call fa args,g,af⟩ :: r) nv ⟨e,o,n⟩ d acc K (m.bind kt) :=
 Sf λb hb=>ha.elim λa ha=>Vi a hg hf hΓ hde.ok hr hk hc ha.2 (ha.1.trans hb) (hgr b) (h b hb) hkb
theorem Hm {lf : B -> List α} {en : α -> D} (hg : gOn e g = true) (hf : Aa e fa = some (.clo k caps)) (hΓ : Γ (k + 4096 * AM (Aj e args)) = some (QW ptr (.row s ty) enc dec f encR encE)) [hde : RP enc dec] (hr : (Ae ptr 0 (Aj e args ++ caps)).run ⟨e,o,n⟩ = (c,ds,w,ps))
  (hk : (Ae ptr 0 (Aj e args ++ caps)).rd ⟨e,o,n⟩ = rk) (hc : c) (ha : ∃ a,f a = m /\ ds = enc a) (hl : ∀ b,encR b = .sl ((lf b).map en))
  (h : ∀ b,m = some b -> TrO Γ r (nv + 1) ⟨(dst,.osl dst nv 0 (lf b).length) :: e,((dst,some (nv,⟨false,false,s,ty,(lf b).map en⟩)) :: (Ah ps (encE b) ++ w)) ++ o,n⟩ d (acc ++ [(gK g ++ (rdK fa ++ (Bo args ++ rk)),.e dst :: .o dst :: (Ah ps (encE b) ++ w).map (λx=>.o x.1),af)]) K (kt b)) (hkb : Nat.blt k 4096 = true:=by rfl) :
  TrO Γ (⟨some dst,.call fa args,g,af⟩ :: r) nv ⟨e,o,n⟩ d acc K (m.bind kt) :=
 Sf λb hb=>ha.elim λa ha=>Gc a hg hf hΓ hde.ok hr hk hc ha.2 (ha.1.trans hb) (hl b) (h b hb) hkb
theorem Hl (hg : gOn e g = true) (hf : Aa e fa = some (.clo k caps)) (hΓ : Γ (k + 4096 * AM (Aj e args)) = some (QW ptr (.ptr s ty) enc dec f encR encE)) [hde : RP enc dec] (hr : (Ae ptr 0 (Aj e args ++ caps)).run ⟨e,o,n⟩ = (c,ds,w,ps))
  (hk : (Ae ptr 0 (Aj e args ++ caps)).rd ⟨e,o,n⟩ = rk) (hc : c) (ha : ∃ a,f a = m /\ ds = enc a)
  (h : ∀ b,m = some b -> TrO Γ r (nv + 1) ⟨(dst,.optr dst nv 0 0) :: e,((dst,some (nv,⟨false,true,s,ty,[encR b]⟩)) :: (Ah ps (encE b) ++ w)) ++ o,n⟩ d (acc ++ [(gK g ++ (rdK fa ++ (Bo args ++ rk)),.e dst :: .o dst :: (Ah ps (encE b) ++ w).map (λx=>.o x.1),af)]) K (kt b)) (hkb : Nat.blt k 4096 = true:=by rfl) :
  TrO Γ (⟨some dst,.call fa args,g,af⟩ :: r) nv ⟨e,o,n⟩ d acc K (m.bind kt) :=
 Sf λb hb=>ha.elim λa ha=>Gb a hg hf hΓ hde.ok hr hk hc ha.2 (ha.1.trans hb) (h b hb) hkb
variable {b : B} {t : Option X}
theorem Hq (hg : gOn e g = true) (hf : Aa e fa = some (.clo k caps)) (hΓ : Γ (k + 4096 * AM (Aj e args)) = some (QW ptr .val enc dec f encR encE)) [hde : RP enc dec] (hr : (Ae ptr 0 (Aj e args ++ caps)).run ⟨e,o,n⟩ = (c,ds,w,ps))
  (hk : (Ae ptr 0 (Aj e args ++ caps)).rd ⟨e,o,n⟩ = rk) (hm : m = some b) (hc : c) (ha : ∃ a,f a = m /\ ds = enc a)
  (h : TrO Γ r (nv + 1) ⟨(dst,encR b) :: e,(Ah ps (encE b) ++ w) ++ o,n⟩ d (acc ++ [(gK g ++ (rdK fa ++ (Bo args ++ rk)),.e dst :: (Ah ps (encE b) ++ w).map (λx=>.o x.1),af)]) K t) (hkb : Nat.blt k 4096 = true:=by rfl) :
  TrO Γ (⟨some dst,.call fa args,g,af⟩ :: r) nv ⟨e,o,n⟩ d acc K t :=
 ha.elim λa ha=>Gd a hg hf hΓ hde.ok hr hk hc ha.2 (ha.1.trans hm) h hkb
theorem Gt (hg : gOn e g = true) (hf : Aa e fa = some (.clo k caps)) (hΓ : Γ (k + 4096 * AM (Aj e args)) = some (QW ptr .val enc dec f encR encE)) [hde : RP enc dec] (hr : (Ae ptr 0 (Aj e args ++ caps)).run ⟨e,o,n⟩ = (c,ds,w,ps))
  (hk : (Ae ptr 0 (Aj e args ++ caps)).rd ⟨e,o,n⟩ = rk) (hm : m = some b) (hc : c) (ha : ∃ a,f a = m /\ ds = enc a)
  (h : TrO Γ r (nv + 1) ⟨e,(Ah ps (encE b) ++ w) ++ o,n⟩ d (acc ++ [(gK g ++ (rdK fa ++ (Bo args ++ rk)),(Ah ps (encE b) ++ w).map (λx=>.o x.1),af)]) K t) (hkb : Nat.blt k 4096 = true:=by rfl) :
  TrO Γ (⟨none,.call fa args,g,af⟩ :: r) nv ⟨e,o,n⟩ d acc K t :=
 ha.elim λa ha=>Fx a hg hf hΓ hde.ok hr hk hc ha.2 (ha.1.trans hm) h hkb
theorem Fs (hg : gOn e g = true) (hf : Aa e fa = some (.clo k caps)) (hΓ : Γ (k + 4096 * AM (Aj e args)) = some (QW [] .ground enc dec f encR encE)) [hde : RP enc dec] (hr : (Ae [] 0 (Aj e args ++ caps)).run ⟨e,o,n⟩ = (c,ds,w,ps))
  (hk : (Ae [] 0 (Aj e args ++ caps)).rd ⟨e,o,n⟩ = rk) (hm : m = some b) (hc : c) (ha : ∃ a,f a = m /\ ds = enc a) (hgr : isGround (encR b) = true)
  (h : TrO Γ r (nv + 1) ⟨(dst,encR b) :: e,o,n⟩ d (acc ++ [(gK g ++ (rdK fa ++ (Bo args ++ rk)),[.e dst],af)]) K t) (hkb : Nat.blt k 4096 = true:=by rfl) :
  TrO Γ (⟨some dst,.call fa args,g,af⟩ :: r) nv ⟨e,o,n⟩ d acc K t :=
 ha.elim λa ha=>Vi a hg hf hΓ hde.ok hr hk hc ha.2 (ha.1.trans hm) hgr h hkb
theorem Hp {l : List α} {en : α -> D} (hg : gOn e g = true) (hf : Aa e fa = some (.clo k caps)) (hΓ : Γ (k + 4096 * AM (Aj e args)) = some (QW ptr (.row s ty) enc dec f encR encE)) [hde : RP enc dec] (hr : (Ae ptr 0 (Aj e args ++ caps)).run ⟨e,o,n⟩ = (c,ds,w,ps))
  (hk : (Ae ptr 0 (Aj e args ++ caps)).rd ⟨e,o,n⟩ = rk) (hm : m = some b) (hc : c) (ha : ∃ a,f a = m /\ ds = enc a) (hl : encR b = .sl (l.map en))
  (h : TrO Γ r (nv + 1) ⟨(dst,.osl dst nv 0 l.length) :: e,((dst,some (nv,⟨false,false,s,ty,l.map en⟩)) :: (Ah ps (encE b) ++ w)) ++ o,n⟩ d (acc ++ [(gK g ++ (rdK fa ++ (Bo args ++ rk)),.e dst :: .o dst :: (Ah ps (encE b) ++ w).map (λx=>.o x.1),af)]) K t) (hkb : Nat.blt k 4096 = true:=by rfl) :
  TrO Γ (⟨some dst,.call fa args,g,af⟩ :: r) nv ⟨e,o,n⟩ d acc K t :=
 ha.elim λa ha=>Gc a hg hf hΓ hde.ok hr hk hc ha.2 (ha.1.trans hm) hl h hkb
theorem Ho (hg : gOn e g = true) (hf : Aa e fa = some (.clo k caps)) (hΓ : Γ (k + 4096 * AM (Aj e args)) = some (QW ptr (.ptr s ty) enc dec f encR encE)) [hde : RP enc dec] (hr : (Ae ptr 0 (Aj e args ++ caps)).run ⟨e,o,n⟩ = (c,ds,w,ps))
  (hk : (Ae ptr 0 (Aj e args ++ caps)).rd ⟨e,o,n⟩ = rk) (hm : m = some b) (hc : c) (ha : ∃ a,f a = m /\ ds = enc a)
  (h : TrO Γ r (nv + 1) ⟨(dst,.optr dst nv 0 0) :: e,((dst,some (nv,⟨false,true,s,ty,[encR b]⟩)) :: (Ah ps (encE b) ++ w)) ++ o,n⟩ d (acc ++ [(gK g ++ (rdK fa ++ (Bo args ++ rk)),.e dst :: .o dst :: (Ah ps (encE b) ++ w).map (λx=>.o x.1),af)]) K t) (hkb : Nat.blt k 4096 = true:=by rfl) :
  TrO Γ (⟨some dst,.call fa args,g,af⟩ :: r) nv ⟨e,o,n⟩ d acc K t :=
 ha.elim λa ha=>Gb a hg hf hΓ hde.ok hr hk hc ha.2 (ha.1.trans hm) h hkb
end
def Ie (o : List (Nat × Ac)) : List Nat -> List (Nat × Ac)
 | []=>[]
 | g :: r=>(g,(lkO o g).map λx=>(x.1,{ x.2 with fz:=true })) :: Ie o r
theorem LV {o : List (Nat × Ac)} : ∀ {gs : List Nat},(gs.all λg=>match lkO o g with | some (_,p)=>!p.var | none=>false) = true -> FzB o (Ie o gs)
 | [],_=>trivial
 | g :: r,h=>by
  simp only [List.all_cons,Bool.and_eq_true] at h
  refine ⟨?_,LV h.2⟩
  cases hg : lkO o g with
  | none=>rw [hg] at h; cases h.1
  | some x =>
   rw [hg] at h
   exact ⟨x.1,x.2,rfl,by simpa using h.1,rfl⟩
theorem OQ {e E : List (Nat × D)} {o O : List (Nat × Ac)} {n : Nat} (gs : List Nat) (hw : (gs.all λg=>match lkO o g with | some (_,p)=>!p.var | none=>false) = true) (hE : IW e o n (Ie o gs) E) (hO : IX e o n (Ie o gs) O) : Has ⟨e,o,n⟩ E O:=Yb _ (LV hw) hE hO
section
variable {Γ : Ar} {R ι γ : Type} {K : R -> Ax -> S -> Prop} {τ : S} {t : Option R} {E : ι -> γ -> List (Nat × D)} {O : ι -> γ -> List (Nat × Ac)} {j : ι -> Option R}
theorem PM (h : ∃ s g,j s = t /\ Has τ (E s g) (O s g)) : TrX .normal (Jv E O j K) τ t:=by
 obtain ⟨s,g,rfl,h⟩:=h; exact Aal g h
theorem IK {id : Nat} (h : ∃ s g,j s = t /\ Has τ (E s g) (O s g)) : TrX .normal (DC id E O j K) τ t:=by
 obtain ⟨s,g,rfl,h⟩:=h; exact HR g h
theorem JU {id : Nat} (h : ∃ s g,j s = t /\ Has τ (E s g) (O s g)) : TrX (.exit id) (DC id E O j K) τ t:=by
 obtain ⟨s,g,rfl,h⟩:=h; exact IQ g h
theorem OR {s : ι} (h : ∃ g,Has τ (E s g) (O s g)) : TrX .normal (HA E O K) τ (cnt s):=by
 obtain ⟨g,h⟩:=h; exact Nm g h
theorem exU {p : Unit -> Prop} (h : p ()) : ∃ s,p s:=⟨_,h⟩
theorem exP {α β : Type} {p : α × β -> Prop} (h : ∃ a b,p (a,b)) : ∃ s,p s:=h.elim λa h=>h.elim λb h=>⟨(a,b),h⟩
end
section
variable {A B : Type} {ptr : List (Nat × (Nat × Nat))} {kind : Kind} {enc : A -> List D} {dec : List D -> A} {f : A -> Option B} {encR : B -> D} {encE : B -> List D}
theorem fn2 {P : Program} {Γ : Ar} {k : Nat} {fn : Func} {dc : AU} {rs : List AY} [hde : RP enc dec] (np : Nat) (hΓ : ∀ k sp,Γ k = some sp -> QU P (k % 4096) sp) (hf : P.funcs[k]? = some fn)
  (hT : ∀ a,Tr Γ dc (BF ptr kind rs encR encE) ⟨DA ptr 0 (enc a),CG ptr 0 (enc a),262144⟩ (f a))
  (hc : (fn.body.bind (BA P fn.ntmps)) = some dc:=by conv=>lhs; cbv) (hr : fn.results.toList.mapM (Eg P) = some rs:=by conv=>lhs; cbv)
  (hname : (fn.name == "runtime.NumGoroutine") = false:=by decide) (hnp : np <= fn.ntmps:=by decide) (hlen : ∀ a,(enc a).length = np:=by exact λ_=>rfl) (hkeys : ∀ a,BO ptr 0 (enc a) = ptr.map Prod.fst:=by exact λ_=>rfl) (hptr : Ff ptr = true:=by decide)
  (hni : Cg kind = none:=by rfl) (hno : Es kind = none:=by rfl) : QU P k (QW ptr kind enc dec f encR encE) :=
 PN hΓ hf hname hc hr hnp hde.ok hlen hkeys hptr (λa=>PA (hT a)) hni hno
end
structure Ct (n : Nat) : Prop
theorem Ct.dec {n : Nat} (_ : Ct (n + 1)) : Ct n:=⟨⟩
end Go.Dw
namespace Go.Dw
structure Fz' (gs : List Nat) : Prop
theorem wf (gs : List Nat) {p : Prop} (h : Fz' gs -> p) : p:=h ⟨⟩
theorem NX {e E : List (Nat × D)} {o O : List (Nat × Ac)} {n : Nat} {gs : List Nat} (_ : Fz' gs) (hw : (gs.all λg=>match lkO o g with | some (_,p)=>!p.var | none=>false) = true) (hE : IW e o n (Ie o gs) E) (hO : IX e o n (Ie o gs) O) : Has ⟨e,o,n⟩ E O:=OQ gs hw hE hO
section
variable {Γ : Ar} {X Y : Type} {K : KR X} {KK : X -> Ax -> S -> Prop} {t t1 t2 : Option X} {m0 : Option Y} {kt : Y -> Option X} {pp : Prop} [Decidable pp] {bb wt : Bool} {σ : S} {nv tt m m2 m3 : Nat} {d : Bool} {acc : List Cs}
 {r : List As} {dst : Option Nat} {g : Option (Nat × Bool)} {af : List Nat} {op : DOp} {x y z : Arg} {xs : List Arg} {bo : BinOp} {uo : UnOp} {k : IntKind} {sl : Option (Nat × Nat)} {dd : D} {ds : List D} {ps : List (Nat × Arg)} {ps2 : List (Nat × Nat × Arg)} {lo hi : Option Arg} {c1 c2 : AU} {ex : Ax} {ptr : List (Nat × (Nat × Nat))} {encR : Y -> D} {encE : Y -> List D} {r0 : AY} {rs : List AY} {tB : Option Y} {ι γ : Type} {E : ι -> γ -> List (Nat × D)} {O : ι -> γ -> List (Nat × Ac)} {j : ι -> Option X}
theorem NI (h : TrO Γ (⟨dst,op,some (tt,wt),af⟩ :: r) nv σ d acc K t) : TrO Γ (⟨dst,op,some (tt,wt),af⟩ :: r) nv σ d acc K t:=h
theorem Dz (h : TrO Γ r nv σ d acc K (Option.bind m0 kt)) : TrO Γ r nv σ d acc K (Option.bind m0 kt):=h
theorem Cq (h : TrO Γ r nv σ d acc K (chk pp t)) : TrO Γ r nv σ d acc K (chk pp t):=h
theorem PO (h : TrO Γ r nv σ d acc K (bif bb then t1 else t2)) : TrO Γ r nv σ d acc K (bif bb then t1 else t2):=h
theorem OX (h : Tr Γ (.cond x c1 c2) KK σ t) : Tr Γ (.cond x c1 c2) KK σ t:=h
theorem Pc (h : TrX ex (BF ptr .val [r0] encR encE) σ tB) : TrX ex (BF ptr .val [r0] encR encE) σ tB:=h
theorem Me (h : TrX ex (BF ptr .ground [r0] encR encE) σ tB) : TrX ex (BF ptr .ground [r0] encR encE) σ tB:=h
theorem Oo (h : TrX ex (BF ptr .val rs encR encE) σ tB) : TrX ex (BF ptr .val rs encR encE) σ tB:=h
theorem Lm (h : TrX ex (BF ptr .ground rs encR encE) σ tB) : TrX ex (BF ptr .ground rs encR encE) σ tB:=h
theorem Pa (h : TrX ex (BF ptr (.row m m2) rs encR encE) σ tB) : TrX ex (BF ptr (.row m m2) rs encR encE) σ tB:=h
theorem OZ (h : TrX ex (BF ptr (.ptr m m2) rs encR encE) σ tB) : TrX ex (BF ptr (.ptr m m2) rs encR encE) σ tB:=h
theorem Pb (h : TrX ex (BF ptr (.tupPtr m m2 m3) rs encR encE) σ tB) : TrX ex (BF ptr (.tupPtr m m2 m3) rs encR encE) σ tB:=h
theorem Pf (h : TrX (.exit m) (GY m2 KK) σ t) : TrX (.exit m) (GY m2 KK) σ t:=h
theorem Pg (h : TrX (.exit m) (DC m2 E O j KK) σ t) : TrX (.exit m) (DC m2 E O j KK) σ t:=h
theorem Mc (h : TrO Γ [] nv σ true acc K t) : TrO Γ [] nv σ true acc K t:=h
theorem OY (h : TrO Γ (⟨dst,.mv x,g,af⟩ :: r) nv σ d acc K t) : TrO Γ (⟨dst,.mv x,g,af⟩ :: r) nv σ d acc K t:=h
theorem LZ (h : TrO Γ (⟨dst,.fldA m x,g,af⟩ :: r) nv σ d acc K t) : TrO Γ (⟨dst,.fldA m x,g,af⟩ :: r) nv σ d acc K t:=h
theorem NK (h : TrO Γ (⟨dst,.ld m false x,g,af⟩ :: r) nv σ d acc K t) : TrO Γ (⟨dst,.ld m false x,g,af⟩ :: r) nv σ d acc K t:=h
theorem NL (h : TrO Γ (⟨dst,.ld m true x,g,af⟩ :: r) nv σ d acc K t) : TrO Γ (⟨dst,.ld m true x,g,af⟩ :: r) nv σ d acc K t:=h
theorem NA (h : TrO Γ (⟨dst,.bin bo x y,g,af⟩ :: r) nv σ d acc K t) : TrO Γ (⟨dst,.bin bo x y,g,af⟩ :: r) nv σ d acc K t:=h
theorem Nz (h : TrO Γ (⟨dst,.asg x sl,g,af⟩ :: r) nv σ d acc K t) : TrO Γ (⟨dst,.asg x sl,g,af⟩ :: r) nv σ d acc K t:=h
theorem Md (h : TrO Γ (⟨dst,.pick x y z,g,af⟩ :: r) nv σ d acc K t) : TrO Γ (⟨dst,.pick x y z,g,af⟩ :: r) nv σ d acc K t:=h
theorem LX (h : TrO Γ (⟨dst,.call x xs,g,af⟩ :: r) nv σ d acc K t) : TrO Γ (⟨dst,.call x xs,g,af⟩ :: r) nv σ d acc K t:=h
theorem NH (h : TrO Γ (⟨dst,.ext x m,g,af⟩ :: r) nv σ d acc K t) : TrO Γ (⟨dst,.ext x m,g,af⟩ :: r) nv σ d acc K t:=h
theorem NM (h : TrO Γ (⟨dst,.len bb x,g,af⟩ :: r) nv σ d acc K t) : TrO Γ (⟨dst,.len bb x,g,af⟩ :: r) nv σ d acc K t:=h
theorem NJ (h : TrO Γ (⟨dst,.ixA m x y,g,af⟩ :: r) nv σ d acc K t) : TrO Γ (⟨dst,.ixA m x y,g,af⟩ :: r) nv σ d acc K t:=h
theorem Pe (h : TrO Γ (⟨dst,.un uo x,g,af⟩ :: r) nv σ d acc K t) : TrO Γ (⟨dst,.un uo x,g,af⟩ :: r) nv σ d acc K t:=h
theorem NC (h : TrO Γ (⟨dst,.box x m m2,g,af⟩ :: r) nv σ d acc K t) : TrO Γ (⟨dst,.box x m m2,g,af⟩ :: r) nv σ d acc K t:=h
theorem NQ (h : TrO Γ (⟨dst,.new dd m m2,g,af⟩ :: r) nv σ d acc K t) : TrO Γ (⟨dst,.new dd m m2,g,af⟩ :: r) nv σ d acc K t:=h
theorem Pd (h : TrO Γ (⟨dst,.st m x y,g,af⟩ :: r) nv σ d acc K t) : TrO Γ (⟨dst,.st m x y,g,af⟩ :: r) nv σ d acc K t:=h
theorem LW (h : TrO Γ (⟨dst,.bldS m m2 dd m3 ps,g,af⟩ :: r) nv σ d acc K t) : TrO Γ (⟨dst,.bldS m m2 dd m3 ps,g,af⟩ :: r) nv σ d acc K t:=h
theorem Ny (h : TrO Γ (⟨dst,.app m m2 m3 x y,g,af⟩ :: r) nv σ d acc K t) : TrO Γ (⟨dst,.app m m2 m3 x y,g,af⟩ :: r) nv σ d acc K t:=h
theorem NB (h : TrO Γ (⟨dst,.bld ds ps2,g,af⟩ :: r) nv σ d acc K t) : TrO Γ (⟨dst,.bld ds ps2,g,af⟩ :: r) nv σ d acc K t:=h
theorem ND (h : TrO Γ (⟨dst,.cvt k x,g,af⟩ :: r) nv σ d acc K t) : TrO Γ (⟨dst,.cvt k x,g,af⟩ :: r) nv σ d acc K t:=h
theorem NP (h : TrO Γ (⟨dst,.mkS m m2 m3 dd x y,g,af⟩ :: r) nv σ d acc K t) : TrO Γ (⟨dst,.mkS m m2 m3 dd x y,g,af⟩ :: r) nv σ d acc K t:=h
theorem Kq (h : TrO Γ (⟨dst,.nilck x,g,af⟩ :: r) nv σ d acc K t) : TrO Γ (⟨dst,.nilck x,g,af⟩ :: r) nv σ d acc K t:=h
theorem LY (h : TrO Γ (⟨dst,.fld m m2 false x,g,af⟩ :: r) nv σ d acc K t) : TrO Γ (⟨dst,.fld m m2 false x,g,af⟩ :: r) nv σ d acc K t:=h
theorem Ma (h : TrO Γ (⟨dst,.fld m m2 true x,g,af⟩ :: r) nv σ d acc K t) : TrO Γ (⟨dst,.fld m m2 true x,g,af⟩ :: r) nv σ d acc K t:=h
theorem NG (h : TrO Γ (⟨dst,.eqB bb x y,g,af⟩ :: r) nv σ d acc K t) : TrO Γ (⟨dst,.eqB bb x y,g,af⟩ :: r) nv σ d acc K t:=h
theorem NF (h : TrO Γ (⟨dst,.eqA m bb x y,g,af⟩ :: r) nv σ d acc K t) : TrO Γ (⟨dst,.eqA m bb x y,g,af⟩ :: r) nv σ d acc K t:=h
theorem NN (h : TrO Γ (⟨dst,.max xs,g,af⟩ :: r) nv σ d acc K t) : TrO Γ (⟨dst,.max xs,g,af⟩ :: r) nv σ d acc K t:=h
theorem NO (h : TrO Γ (⟨dst,.min xs,g,af⟩ :: r) nv σ d acc K t) : TrO Γ (⟨dst,.min xs,g,af⟩ :: r) nv σ d acc K t:=h
theorem NR (h : TrO Γ (⟨dst,.slc m x lo hi,g,af⟩ :: r) nv σ d acc K t) : TrO Γ (⟨dst,.slc m x lo hi,g,af⟩ :: r) nv σ d acc K t:=h
end
structure Hid (p : Prop) : Prop where
 h : p
theorem A (n : Nat) {p q : Prop} (hq : q) (f : Ct n -> Hid q -> p:=by
 intro c h
 repeat (
  replace c:=Ct.dec c
  first
  | ((with_reducible refine NI ?_); refine KW rfl ?_)
  | ((with_reducible refine OY ?_); refine MB rfl rfl ?_)
  | with_reducible refine KV ?_
  | ((with_reducible refine LZ ?_); first | refine JP rfl rfl ?_ | refine HN rfl rfl ?_)
  | ((with_reducible refine NK ?_); first | ((with_reducible refine Dz ?_); refine Sf λq hq=>Gn rfl rfl rfl (CZ hq) rfl ?_) | refine Gn rfl rfl rfl rfl rfl ?_ | refine Kg rfl rfl rfl ?_ | refine Gn rfl rfl rfl (CZ (by assumption)) rfl ?_)
  | ((with_reducible refine NA ?_); first | ((with_reducible refine Cq ?_); first | refine Rr λhq=>Gr rfl rfl rfl rfl (by first | exact hq | exact ⟨rfl,hq⟩) ?_ | refine Rr λhq=>DG rfl rfl rfl rfl hq ?_) | refine Gr rfl rfl rfl rfl (by first | exact rfl | exact trivial | assumption | decide | exact ⟨rfl,by assumption⟩ | exact ⟨rfl,by decide⟩) ?_ | refine DG rfl rfl rfl rfl trivial ?_)
  | with_reducible refine MG ?_
  | with_reducible refine ME ?_
  | with_reducible refine KX ?_
  | ((with_reducible refine Nz ?_); first | refine KI rfl rfl ?_ | ((with_reducible refine Cq ?_); refine Rr λhq=>GI rfl rfl rfl hq ?_) | refine Ir inferInstance rfl rfl ?_ | refine HM rfl rfl ?_ | refine GJ (by first | rfl | simp) rfl rfl rfl ?_ | refine HJ (by first | rfl | simp) rfl rfl rfl ?_ | refine Ga rfl rfl rfl ?_)
  | with_reducible refine EU ?_
  | with_reducible refine GP ?_
  | with_reducible refine Gl ?_
  | with_reducible refine JR ?_
  | with_reducible refine KZ ?_
  | with_reducible refine MF ?_
  | with_reducible refine KY ?_
  | with_reducible refine GN ?_
  | with_reducible refine GO ?_
  | with_reducible refine Gj ?_
  | with_reducible refine Gg ?_
  | with_reducible refine Gk ?_
  | with_reducible refine FD ?_
  | with_reducible refine Gi ?_
  | ((with_reducible refine Pf ?_); refine Gh rfl ?_)
  | ((with_reducible refine Pg ?_); refine FC rfl ?_)
  | ((with_reducible refine OX ?_); first | refine Gm rfl ?_ | refine FE rfl ?_)
  | ((with_reducible refine Md ?_); first | refine Fy rfl rfl rfl rfl ?_ | refine ER rfl rfl rfl rfl ?_)
  | ((with_reducible refine LX ?_); first | ((with_reducible refine Dz ?_); first | (refine Fq rfl rfl rfl rfl rfl ?_ ?_ (λ_=>rfl) λ_ _=>?_; (· simp); (· (repeat' first | exact ⟨rfl,(by first | rfl | (simp only [BS]; rfl) | (simp only [Le]; rfl) | (simp only [BS,Le]; rfl))⟩ | refine exP ?_ | refine exU ?_ | apply Exists.intro | (dsimp only; exact ⟨rfl,(by first | rfl | (simp only [BS]; rfl) | (simp only [Le]; rfl) | (simp only [BS,Le]; rfl))⟩)))) | (refine Hn rfl rfl rfl rfl rfl ?_ ?_ λ_ _=>?_; (· simp); (· (repeat' first | exact ⟨rfl,(by first | rfl | (simp only [BS]; rfl) | (simp only [Le]; rfl) | (simp only [BS,Le]; rfl))⟩ | refine exP ?_ | refine exU ?_ | apply Exists.intro | (dsimp only; exact ⟨rfl,(by first | rfl | (simp only [BS]; rfl) | (simp only [Le]; rfl) | (simp only [BS,Le]; rfl))⟩)))) | (refine Hm rfl rfl rfl rfl rfl ?_ ?_ (λ_=>rfl) λ_ _=>?_; (· simp); (· (repeat' first | exact ⟨rfl,(by first | rfl | (simp only [BS]; rfl) | (simp only [Le]; rfl) | (simp only [BS,Le]; rfl))⟩ | refine exP ?_ | refine exU ?_ | apply Exists.intro | (dsimp only; exact ⟨rfl,(by first | rfl | (simp only [BS]; rfl) | (simp only [Le]; rfl) | (simp only [BS,Le]; rfl))⟩)))) | (refine Gs rfl rfl rfl rfl rfl ?_ ?_ λ_ _=>?_; (· simp); (· (repeat' first | exact ⟨rfl,(by first | rfl | (simp only [BS]; rfl) | (simp only [Le]; rfl) | (simp only [BS,Le]; rfl))⟩ | refine exP ?_ | refine exU ?_ | apply Exists.intro | (dsimp only; exact ⟨rfl,(by first | rfl | (simp only [BS]; rfl) | (simp only [Le]; rfl) | (simp only [BS,Le]; rfl))⟩)))) | (refine Hl rfl rfl rfl rfl rfl ?_ ?_ λ_ _=>?_; (· simp); (· (repeat' first | exact ⟨rfl,(by first | rfl | (simp only [BS]; rfl) | (simp only [Le]; rfl) | (simp only [BS,Le]; rfl))⟩ | refine exP ?_ | refine exU ?_ | apply Exists.intro | (dsimp only; exact ⟨rfl,(by first | rfl | (simp only [BS]; rfl) | (simp only [Le]; rfl) | (simp only [BS,Le]; rfl))⟩))))) | (refine Fs rfl rfl rfl rfl rfl (by assumption) ?_ ?_ rfl ?_; (· simp); (· (repeat' first | exact ⟨rfl,(by first | rfl | (simp only [BS]; rfl) | (simp only [Le]; rfl) | (simp only [BS,Le]; rfl))⟩ | refine exP ?_ | refine exU ?_ | apply Exists.intro | (dsimp only; exact ⟨rfl,(by first | rfl | (simp only [BS]; rfl) | (simp only [Le]; rfl) | (simp only [BS,Le]; rfl))⟩)))) | (refine Hq rfl rfl rfl rfl rfl (by assumption) ?_ ?_ ?_; (· simp); (· (repeat' first | exact ⟨rfl,(by first | rfl | (simp only [BS]; rfl) | (simp only [Le]; rfl) | (simp only [BS,Le]; rfl))⟩ | refine exP ?_ | refine exU ?_ | apply Exists.intro | (dsimp only; exact ⟨rfl,(by first | rfl | (simp only [BS]; rfl) | (simp only [Le]; rfl) | (simp only [BS,Le]; rfl))⟩)))) | (refine Hp rfl rfl rfl rfl rfl (by assumption) ?_ ?_ rfl ?_; (· simp); (· (repeat' first | exact ⟨rfl,(by first | rfl | (simp only [BS]; rfl) | (simp only [Le]; rfl) | (simp only [BS,Le]; rfl))⟩ | refine exP ?_ | refine exU ?_ | apply Exists.intro | (dsimp only; exact ⟨rfl,(by first | rfl | (simp only [BS]; rfl) | (simp only [Le]; rfl) | (simp only [BS,Le]; rfl))⟩)))) | (refine Gt rfl rfl rfl rfl rfl (by assumption) ?_ ?_ ?_; (· simp); (· (repeat' first | exact ⟨rfl,(by first | rfl | (simp only [BS]; rfl) | (simp only [Le]; rfl) | (simp only [BS,Le]; rfl))⟩ | refine exP ?_ | refine exU ?_ | apply Exists.intro | (dsimp only; exact ⟨rfl,(by first | rfl | (simp only [BS]; rfl) | (simp only [Le]; rfl) | (simp only [BS,Le]; rfl))⟩)))) | (refine Ho rfl rfl rfl rfl rfl (by assumption) ?_ ?_ ?_; (· simp); (· (repeat' first | exact ⟨rfl,(by first | rfl | (simp only [BS]; rfl) | (simp only [Le]; rfl) | (simp only [BS,Le]; rfl))⟩ | refine exP ?_ | refine exU ?_ | apply Exists.intro | (dsimp only; exact ⟨rfl,(by first | rfl | (simp only [BS]; rfl) | (simp only [Le]; rfl) | (simp only [BS,Le]; rfl))⟩)))) | ((with_reducible refine Cq ?_); first | refine Rr λhq=>HO rfl rfl rfl rfl rfl (by first | rfl | simp) rfl hq rfl ?_ | refine Rr λhq=>JQ rfl rfl rfl rfl rfl (by first | rfl | simp) rfl hq rfl ?_ | refine Rr λhq=>Ge rfl rfl rfl rfl rfl (by first | rfl | simp) rfl hq (by exact ED _) rfl ?_))
  | ((with_reducible refine NH ?_); refine KO rfl rfl rfl ?_)
  | ((with_reducible refine NM ?_); first | refine HP rfl rfl ?_ | refine GL rfl rfl ?_ | refine GK rfl rfl ?_ | refine GM rfl rfl ?_)
  | ((with_reducible refine NJ ?_); first | ((with_reducible refine Dz ?_); refine Sf λq hq=>DZ rfl rfl rfl hq rfl ?_) | ((with_reducible refine Cq ?_); refine Rr λhq=>Wh (by first | rfl | simp) rfl rfl rfl rfl hq ?_) | refine DZ rfl rfl rfl (by assumption) rfl ?_)
  | ((with_reducible refine Pe ?_); refine MD rfl rfl rfl rfl trivial ?_)
  | ((with_reducible refine NC ?_); refine KJ rfl rfl rfl rfl rfl ?_)
  | ((with_reducible refine NQ ?_); refine KU rfl ?_)
  | ((with_reducible refine Pd ?_); first | ((with_reducible refine Dz ?_); refine Sf λq hq=>UQ rfl rfl rfl rfl rfl rfl rfl (by simp) hq rfl rfl rfl rfl rfl ?_) | refine Nv rfl rfl rfl rfl rfl rfl rfl rfl rfl ?_ | refine Nw rfl rfl rfl rfl rfl rfl rfl rfl rfl (by repeat' first | exact EvL.nil rfl | apply EvL.cons rfl) ?_ | refine UQ rfl rfl rfl rfl rfl rfl rfl (by simp) (by assumption) rfl rfl rfl rfl rfl ?_)
  | ((with_reducible refine NL ?_); first | ((with_reducible refine Dz ?_); refine Sf λq hq=>Gp rfl rfl rfl (CZ hq) rfl (by repeat' first | exact EvL.nil rfl | apply EvL.cons rfl) ?_) | refine Gp rfl rfl rfl rfl rfl (by repeat' first | exact EvL.nil rfl | apply EvL.cons rfl) ?_ | refine Kh rfl rfl rfl (by repeat' first | exact EvL.nil rfl | apply EvL.cons rfl) ?_ | refine Gp rfl rfl rfl (CZ (by assumption)) rfl (by repeat' first | exact EvL.nil rfl | apply EvL.cons rfl) ?_)
  | ((with_reducible refine LW ?_); refine Kd inferInstance rfl rfl rfl (by simp) rfl rfl rfl ?_)
  | ((with_reducible refine Ny ?_); ((with_reducible refine Cq ?_); refine Rr λhq=>YS _ _ _ rfl rfl rfl rfl rfl rfl rfl (by first | (simp; done) | (simp; omega)) (by first | rfl | exact TP _ _ rfl | exact TP _ _ (by simp) | exact FZ _ _ _ | simp [List.map_take]) rfl rfl (by simp) (by first | rfl | exact Tx _ _ rfl | exact Tx _ _ (by simp)) (λ_=>rfl) rfl hq ?_))
  | ((with_reducible refine NB ?_); refine Nt rfl (by repeat' first | apply EvP.cons rfl | exact EvP.nil rfl) rfl (by repeat' first | exact EvL.nil rfl | apply EvL.cons rfl) ?_)
  | ((with_reducible refine ND ?_); refine KL rfl rfl ?_)
  | ((with_reducible refine NP ?_); ((with_reducible refine Cq ?_); refine Rr λhq=>Nu inferInstance rfl rfl rfl rfl hq rfl ?_))
  | ((with_reducible refine Kq ?_); refine II rfl rfl rfl ?_)
  | ((with_reducible refine LY ?_); refine LL rfl rfl rfl ?_)
  | ((with_reducible refine Ma ?_); refine LM rfl rfl rfl (by repeat' first | exact EvL.nil rfl | apply EvL.cons rfl) ?_)
  | ((with_reducible refine NG ?_); first | refine Ke rfl rfl rfl ?_ | refine Kf rfl rfl rfl ?_)
  | ((with_reducible refine NF ?_); refine KM rfl rfl rfl rfl (by repeat' first | exact trivial | refine ⟨rfl,?_⟩) rfl ?_)
  | ((with_reducible refine NN ?_); refine KQ rfl rfl rfl ?_)
  | ((with_reducible refine NO ?_); refine KT rfl rfl rfl ?_)
  | ((with_reducible refine NR ?_); ((with_reducible refine Cq ?_); first | refine Rr λhq=>FA rfl rfl rfl (λ_=>rfl) rfl hq ?_ | refine Rr λhq=>FB rfl rfl rfl (λ_=>rfl) rfl hq ?_ | refine Rr λhq=>Vl (by first | rfl | simp) rfl rfl rfl rfl rfl hq ?_ | refine Rr λhq=>ET (by first | rfl | simp) rfl rfl rfl rfl rfl hq ?_ | refine Rr λhq=>HQ rfl rfl rfl rfl (λ_=>rfl) rfl hq ?_))
  | ((with_reducible refine Mc ?_); refine Gf (by kernel_rfl) ?_)
  )
 exact h.h) : p:=f ⟨⟩ ⟨hq⟩
theorem B {p : Prop} (h : p:=by
 repeat' first
 | ((with_reducible refine NI ?_); first | ((with_reducible refine PO ?_); refine YD rfl ?_ ?_) | refine KW rfl ?_)
 | ((with_reducible refine OY ?_); refine MB rfl rfl ?_)
 | with_reducible refine KV ?_
 | ((with_reducible refine LZ ?_); first | refine JP rfl rfl ?_ | refine HN rfl rfl ?_)
 | ((with_reducible refine NK ?_); first | ((with_reducible refine Dz ?_); refine Sf λq hq=>Gn rfl rfl rfl (CZ hq) rfl ?_) | refine Gn rfl rfl rfl rfl rfl ?_ | refine Kg rfl rfl rfl ?_ | refine Gn rfl rfl rfl (CZ (by assumption)) rfl ?_)
 | ((with_reducible refine NA ?_); first | ((with_reducible refine Cq ?_); first | refine Rr λhq=>Gr rfl rfl rfl rfl (by first | exact hq | exact ⟨rfl,hq⟩) ?_ | refine Rr λhq=>DG rfl rfl rfl rfl hq ?_) | refine Gr rfl rfl rfl rfl (by first | exact rfl | exact trivial | assumption | decide | exact ⟨rfl,by assumption⟩ | exact ⟨rfl,by decide⟩) ?_ | refine DG rfl rfl rfl rfl trivial ?_)
 | with_reducible refine MG ?_
 | with_reducible refine ME ?_
 | with_reducible refine KX ?_
 | ((with_reducible refine Nz ?_); first | refine KI rfl rfl ?_ | ((with_reducible refine Cq ?_); refine Rr λhq=>GI rfl rfl rfl hq ?_) | refine Ir inferInstance rfl rfl ?_ | refine HM rfl rfl ?_ | refine GJ (by first | rfl | simp) rfl rfl rfl ?_ | refine HJ (by first | rfl | simp) rfl rfl rfl ?_ | refine Ga rfl rfl rfl ?_)
 | with_reducible refine EU ?_
 | with_reducible refine GP ?_
 | with_reducible refine Gl ?_
 | with_reducible refine JR ?_
 | with_reducible refine KZ ?_
 | with_reducible refine MF ?_
 | with_reducible refine KY ?_
 | with_reducible refine GN ?_
 | with_reducible refine GO ?_
 | with_reducible refine Gj ?_
 | with_reducible refine Gg ?_
 | with_reducible refine Gk ?_
 | with_reducible refine FD ?_
 | with_reducible refine Gi ?_
 | ((with_reducible refine Pf ?_); refine Gh rfl ?_)
 | ((with_reducible refine Pg ?_); refine FC rfl ?_)
 | ((with_reducible refine OX ?_); first | refine YU rfl ?_ ?_ | refine Gm rfl ?_ | refine FE rfl ?_)
 | ((with_reducible refine Md ?_); first | refine Fy rfl rfl rfl rfl ?_ | refine ER rfl rfl rfl rfl ?_)
 | ((with_reducible refine LX ?_); first | ((with_reducible refine Dz ?_); first | (refine Fq rfl rfl rfl rfl rfl ?_ ?_ (λ_=>rfl) λ_ _=>?_; (· simp); (· (repeat' first | exact ⟨rfl,(by first | rfl | (simp only [BS]; rfl) | (simp only [Le]; rfl) | (simp only [BS,Le]; rfl))⟩ | refine exP ?_ | refine exU ?_ | apply Exists.intro | (dsimp only; exact ⟨rfl,(by first | rfl | (simp only [BS]; rfl) | (simp only [Le]; rfl) | (simp only [BS,Le]; rfl))⟩)))) | (refine Hn rfl rfl rfl rfl rfl ?_ ?_ λ_ _=>?_; (· simp); (· (repeat' first | exact ⟨rfl,(by first | rfl | (simp only [BS]; rfl) | (simp only [Le]; rfl) | (simp only [BS,Le]; rfl))⟩ | refine exP ?_ | refine exU ?_ | apply Exists.intro | (dsimp only; exact ⟨rfl,(by first | rfl | (simp only [BS]; rfl) | (simp only [Le]; rfl) | (simp only [BS,Le]; rfl))⟩)))) | (refine Hm rfl rfl rfl rfl rfl ?_ ?_ (λ_=>rfl) λ_ _=>?_; (· simp); (· (repeat' first | exact ⟨rfl,(by first | rfl | (simp only [BS]; rfl) | (simp only [Le]; rfl) | (simp only [BS,Le]; rfl))⟩ | refine exP ?_ | refine exU ?_ | apply Exists.intro | (dsimp only; exact ⟨rfl,(by first | rfl | (simp only [BS]; rfl) | (simp only [Le]; rfl) | (simp only [BS,Le]; rfl))⟩)))) | (refine Gs rfl rfl rfl rfl rfl ?_ ?_ λ_ _=>?_; (· simp); (· (repeat' first | exact ⟨rfl,(by first | rfl | (simp only [BS]; rfl) | (simp only [Le]; rfl) | (simp only [BS,Le]; rfl))⟩ | refine exP ?_ | refine exU ?_ | apply Exists.intro | (dsimp only; exact ⟨rfl,(by first | rfl | (simp only [BS]; rfl) | (simp only [Le]; rfl) | (simp only [BS,Le]; rfl))⟩)))) | (refine Hl rfl rfl rfl rfl rfl ?_ ?_ λ_ _=>?_; (· simp); (· (repeat' first | exact ⟨rfl,(by first | rfl | (simp only [BS]; rfl) | (simp only [Le]; rfl) | (simp only [BS,Le]; rfl))⟩ | refine exP ?_ | refine exU ?_ | apply Exists.intro | (dsimp only; exact ⟨rfl,(by first | rfl | (simp only [BS]; rfl) | (simp only [Le]; rfl) | (simp only [BS,Le]; rfl))⟩))))) | (refine Fs rfl rfl rfl rfl rfl (by assumption) ?_ ?_ rfl ?_; (· simp); (· (repeat' first | exact ⟨rfl,(by first | rfl | (simp only [BS]; rfl) | (simp only [Le]; rfl) | (simp only [BS,Le]; rfl))⟩ | refine exP ?_ | refine exU ?_ | apply Exists.intro | (dsimp only; exact ⟨rfl,(by first | rfl | (simp only [BS]; rfl) | (simp only [Le]; rfl) | (simp only [BS,Le]; rfl))⟩)))) | (refine Hq rfl rfl rfl rfl rfl (by assumption) ?_ ?_ ?_; (· simp); (· (repeat' first | exact ⟨rfl,(by first | rfl | (simp only [BS]; rfl) | (simp only [Le]; rfl) | (simp only [BS,Le]; rfl))⟩ | refine exP ?_ | refine exU ?_ | apply Exists.intro | (dsimp only; exact ⟨rfl,(by first | rfl | (simp only [BS]; rfl) | (simp only [Le]; rfl) | (simp only [BS,Le]; rfl))⟩)))) | (refine Hp rfl rfl rfl rfl rfl (by assumption) ?_ ?_ rfl ?_; (· simp); (· (repeat' first | exact ⟨rfl,(by first | rfl | (simp only [BS]; rfl) | (simp only [Le]; rfl) | (simp only [BS,Le]; rfl))⟩ | refine exP ?_ | refine exU ?_ | apply Exists.intro | (dsimp only; exact ⟨rfl,(by first | rfl | (simp only [BS]; rfl) | (simp only [Le]; rfl) | (simp only [BS,Le]; rfl))⟩)))) | (refine Gt rfl rfl rfl rfl rfl (by assumption) ?_ ?_ ?_; (· simp); (· (repeat' first | exact ⟨rfl,(by first | rfl | (simp only [BS]; rfl) | (simp only [Le]; rfl) | (simp only [BS,Le]; rfl))⟩ | refine exP ?_ | refine exU ?_ | apply Exists.intro | (dsimp only; exact ⟨rfl,(by first | rfl | (simp only [BS]; rfl) | (simp only [Le]; rfl) | (simp only [BS,Le]; rfl))⟩)))) | (refine Ho rfl rfl rfl rfl rfl (by assumption) ?_ ?_ ?_; (· simp); (· (repeat' first | exact ⟨rfl,(by first | rfl | (simp only [BS]; rfl) | (simp only [Le]; rfl) | (simp only [BS,Le]; rfl))⟩ | refine exP ?_ | refine exU ?_ | apply Exists.intro | (dsimp only; exact ⟨rfl,(by first | rfl | (simp only [BS]; rfl) | (simp only [Le]; rfl) | (simp only [BS,Le]; rfl))⟩)))) | ((with_reducible refine Cq ?_); first | refine Rr λhq=>HO rfl rfl rfl rfl rfl (by first | rfl | simp) rfl hq rfl ?_ | refine Rr λhq=>JQ rfl rfl rfl rfl rfl (by first | rfl | simp) rfl hq rfl ?_ | refine Rr λhq=>Ge rfl rfl rfl rfl rfl (by first | rfl | simp) rfl hq (by exact ED _) rfl ?_))
 | ((with_reducible refine NH ?_); refine KO rfl rfl rfl ?_)
 | ((with_reducible refine NM ?_); first | refine HP rfl rfl ?_ | refine GL rfl rfl ?_ | refine GK rfl rfl ?_ | refine GM rfl rfl ?_)
 | ((with_reducible refine NJ ?_); first | ((with_reducible refine Dz ?_); refine Sf λq hq=>DZ rfl rfl rfl hq rfl ?_) | ((with_reducible refine Cq ?_); refine Rr λhq=>Wh (by first | rfl | simp) rfl rfl rfl rfl hq ?_) | refine DZ rfl rfl rfl (by assumption) rfl ?_)
 | ((with_reducible refine Pe ?_); refine MD rfl rfl rfl rfl trivial ?_)
 | ((with_reducible refine NC ?_); refine KJ rfl rfl rfl rfl rfl ?_)
 | ((with_reducible refine NQ ?_); refine KU rfl ?_)
 | ((with_reducible refine Pd ?_); first | ((with_reducible refine Dz ?_); refine Sf λq hq=>UQ rfl rfl rfl rfl rfl rfl rfl (by simp) hq rfl rfl rfl rfl rfl ?_) | refine Nv rfl rfl rfl rfl rfl rfl rfl rfl rfl ?_ | refine Nw rfl rfl rfl rfl rfl rfl rfl rfl rfl (by repeat' first | exact EvL.nil rfl | apply EvL.cons rfl) ?_ | refine UQ rfl rfl rfl rfl rfl rfl rfl (by simp) (by assumption) rfl rfl rfl rfl rfl ?_)
 | ((with_reducible refine NL ?_); first | ((with_reducible refine Dz ?_); refine Sf λq hq=>Gp rfl rfl rfl (CZ hq) rfl (by repeat' first | exact EvL.nil rfl | apply EvL.cons rfl) ?_) | refine Gp rfl rfl rfl rfl rfl (by repeat' first | exact EvL.nil rfl | apply EvL.cons rfl) ?_ | refine Kh rfl rfl rfl (by repeat' first | exact EvL.nil rfl | apply EvL.cons rfl) ?_ | refine Gp rfl rfl rfl (CZ (by assumption)) rfl (by repeat' first | exact EvL.nil rfl | apply EvL.cons rfl) ?_)
 | ((with_reducible refine LW ?_); refine Kd inferInstance rfl rfl rfl (by simp) rfl rfl rfl ?_)
 | ((with_reducible refine Ny ?_); ((with_reducible refine Cq ?_); refine Rr λhq=>YS _ _ _ rfl rfl rfl rfl rfl rfl rfl (by first | (simp; done) | (simp; omega)) (by first | rfl | exact TP _ _ rfl | exact TP _ _ (by simp) | exact FZ _ _ _ | simp [List.map_take]) rfl rfl (by simp) (by first | rfl | exact Tx _ _ rfl | exact Tx _ _ (by simp)) (λ_=>rfl) rfl hq ?_))
 | ((with_reducible refine NB ?_); refine Nt rfl (by repeat' first | apply EvP.cons rfl | exact EvP.nil rfl) rfl (by repeat' first | exact EvL.nil rfl | apply EvL.cons rfl) ?_)
 | ((with_reducible refine ND ?_); refine KL rfl rfl ?_)
 | ((with_reducible refine NP ?_); ((with_reducible refine Cq ?_); refine Rr λhq=>Nu inferInstance rfl rfl rfl rfl hq rfl ?_))
 | ((with_reducible refine Kq ?_); refine II rfl rfl rfl ?_)
 | ((with_reducible refine LY ?_); refine LL rfl rfl rfl ?_)
 | ((with_reducible refine Ma ?_); refine LM rfl rfl rfl (by repeat' first | exact EvL.nil rfl | apply EvL.cons rfl) ?_)
 | ((with_reducible refine NG ?_); first | refine Ke rfl rfl rfl ?_ | refine Kf rfl rfl rfl ?_)
 | ((with_reducible refine NF ?_); refine KM rfl rfl rfl rfl (by repeat' first | exact trivial | refine ⟨rfl,?_⟩) rfl ?_)
 | ((with_reducible refine NN ?_); refine KQ rfl rfl rfl ?_)
 | ((with_reducible refine NO ?_); refine KT rfl rfl rfl ?_)
 | ((with_reducible refine NR ?_); ((with_reducible refine Cq ?_); first | refine Rr λhq=>FA rfl rfl rfl (λ_=>rfl) rfl hq ?_ | refine Rr λhq=>FB rfl rfl rfl (λ_=>rfl) rfl hq ?_ | refine Rr λhq=>Vl (by first | rfl | simp) rfl rfl rfl rfl rfl hq ?_ | refine Rr λhq=>ET (by first | rfl | simp) rfl rfl rfl rfl rfl hq ?_ | refine Rr λhq=>HQ rfl rfl rfl rfl (λ_=>rfl) rfl hq ?_))
 | ((with_reducible refine Mc ?_); refine Gf (by kernel_rfl) ?_)
 | ((with_reducible refine Pc ?_); exact YR rfl (by first | (simp; done) | (simp; omega) | rfl | (simp [RW,RS]; done)) (by first | rfl | (simp only [BS]; rfl) | (simp only [Le]; rfl) | (simp only [BS,Le]; rfl)) rfl (by first | (simp; done) | (simp; omega) | rfl | (simp [RW,RS]; done)) (by first | rfl | (simp only [BS]; rfl) | (simp only [Le]; rfl) | (simp only [BS,Le]; rfl)))
 | ((with_reducible refine Oo ?_); exact JX rfl (by first | (simp; done) | (simp; omega) | rfl | (simp [RW,RS]; done)) (by first | rfl | (simp only [BS]; rfl) | (simp only [Le]; rfl) | (simp only [BS,Le]; rfl)) rfl (by first | (simp; done) | (simp; omega) | rfl | (simp [RW,RS]; done)) (by first | rfl | (simp only [BS]; rfl) | (simp only [Le]; rfl) | (simp only [BS,Le]; rfl)) (by decide))
 | ((with_reducible refine Me ?_); exact Lz rfl (by first | (simp; done) | (simp; omega) | rfl | (simp [RW,RS]; done)) (by first | rfl | (simp only [BS]; rfl) | (simp only [Le]; rfl) | (simp only [BS,Le]; rfl)) rfl (by first | (simp; done) | (simp; omega) | rfl | (simp [RW,RS]; done)) (by first | rfl | (simp only [BS]; rfl) | (simp only [Le]; rfl) | (simp only [BS,Le]; rfl)))
 | ((with_reducible refine Lm ?_); exact Ik rfl (by first | (simp; done) | (simp; omega) | rfl | (simp [RW,RS]; done)) (by first | rfl | (simp only [BS]; rfl) | (simp only [Le]; rfl) | (simp only [BS,Le]; rfl)) rfl (by first | (simp; done) | (simp; omega) | rfl | (simp [RW,RS]; done)) (by first | rfl | (simp only [BS]; rfl) | (simp only [Le]; rfl) | (simp only [BS,Le]; rfl)) (by decide))
 | ((with_reducible refine Pa ?_); exact OB rfl (by first | (simp; done) | (simp; omega) | rfl | (simp [RW,RS]; done)) (by first | rfl | (simp only [BS]; rfl) | (simp only [Le]; rfl) | (simp only [BS,Le]; rfl)) rfl (by first | (simp; done) | (simp; omega) | rfl | (simp [RW,RS]; done)) rfl (by first | (simp; done) | (simp; omega) | rfl | (simp [RW,RS]; done)) (congrArg D.sl (Tx _ _ (by first | rfl | simp))) rfl)
 | ((with_reducible refine OZ ?_); exact OA rfl (by first | (simp; done) | (simp; omega) | rfl | (simp [RW,RS]; done)) rfl (by first | (simp; done) | (simp; omega) | rfl | (simp [RW,RS]; done)) (by first | rfl | (simp only [BS]; rfl) | (simp only [Le]; rfl) | (simp only [BS,Le]; rfl)) rfl (by first | (simp; done) | (simp; omega) | rfl | (simp [RW,RS]; done)) (by first | rfl | (simp only [BS]; rfl) | (simp only [Le]; rfl) | (simp only [BS,Le]; rfl)))
 | ((with_reducible refine Pb ?_); exact LA (by decide) (by decide) rfl (by first | (simp; done) | (simp; omega) | rfl | (simp [RW,RS]; done)) rfl (by first | (simp; done) | (simp; omega) | rfl | (simp [RW,RS]; done)) rfl (by first | (simp; done) | (simp; omega) | rfl | (simp [RW,RS]; done)) rfl (by first | (simp; done) | (simp; omega) | rfl | (simp [RW,RS]; done)) (by first | rfl | (simp only [BS]; rfl) | (simp only [Le]; rfl) | (simp only [BS,Le]; rfl)) rfl (by first | (simp; done) | (simp; omega) | rfl | (simp [RW,RS]; done)) rfl)
 | with_reducible refine PM ?_
 | with_reducible refine IK ?_
 | with_reducible refine JU ?_
 | with_reducible refine OR ?_
 | refine NX (by assumption) rfl ?_ ?_
 | refine Xe ?_ ?_
 | exact trivial
 | refine ⟨rfl,?_⟩
 | refine ⟨Ox rfl (by simp),?_⟩
 | refine ⟨Sg rfl,?_⟩
 | refine ⟨UW (Vq _ rfl),?_⟩
 | refine ⟨UW (UU rfl (by first | rfl | simp) rfl (by first | exact .head _ | exact .tail _ (.head _) | exact .tail _ (.tail _ (.head _)) | exact .tail _ (.tail _ (.tail _ (.head _))))),?_⟩
 | refine ⟨UW (FJ rfl (by omega) rfl (by first | exact .head _ | exact .tail _ (.head _) | exact .tail _ (.tail _ (.head _)) | exact .tail _ (.tail _ (.tail _ (.head _))))),?_⟩
 | refine ⟨Wz rfl (by repeat' first | exact trivial | refine ⟨VC rfl,?_⟩ | refine ⟨Vq _ rfl,?_⟩ | refine ⟨UU rfl (by first | rfl | simp) rfl (by first | exact .head _ | exact .tail _ (.head _) | exact .tail _ (.tail _ (.head _)) | exact .tail _ (.tail _ (.tail _ (.head _)))),?_⟩ | refine ⟨FJ rfl (by omega) rfl (by first | exact .head _ | exact .tail _ (.head _) | exact .tail _ (.tail _ (.head _)) | exact .tail _ (.tail _ (.tail _ (.head _)))),?_⟩),?_⟩
 | refine ⟨.inl rfl,?_⟩
 | refine ⟨.inr ⟨_,_,_,_,rfl,rfl,rfl,rfl,Wz rfl (by repeat' first | exact trivial | refine ⟨VC rfl,?_⟩ | refine ⟨Vq _ rfl,?_⟩ | refine ⟨UU rfl (by first | rfl | simp) rfl (by first | exact .head _ | exact .tail _ (.head _) | exact .tail _ (.tail _ (.head _)) | exact .tail _ (.tail _ (.tail _ (.head _)))),?_⟩ | refine ⟨FJ rfl (by omega) rfl (by first | exact .head _ | exact .tail _ (.head _) | exact .tail _ (.tail _ (.head _)) | exact .tail _ (.tail _ (.tail _ (.head _)))),?_⟩)⟩,?_⟩
 | refine ⟨.inr ⟨_,_,_,_,rfl,rfl,rfl,rfl,UW (Vq _ rfl)⟩,?_⟩
 | refine ⟨.inr ⟨_,_,_,_,rfl,rfl,rfl,rfl,UW (UU rfl (by first | rfl | simp) rfl (by first | exact .head _ | exact .tail _ (.head _) | exact .tail _ (.tail _ (.head _)) | exact .tail _ (.tail _ (.tail _ (.head _)))))⟩,?_⟩
 | refine exP ?_
 | refine exU ?_
 | apply Exists.intro
 ) : p:=h
end Go.Dw
namespace Go.Dw
inductive FrL : List D -> List D -> Prop
 | nil : FrL [] []
 | same (c : D) {l l' : List D} (h : FrL l l') : FrL (c :: l) (c :: l')
 | row {s ty : Nat} {es l l' : List D} (hp : ∀ q ∈ es,AB q = true) (h : FrL l l') : FrL (.row s ty es :: l) (.sl es :: l')
inductive Ja : List D -> List D -> Prop
 | nil : Ja [] []
 | same {c : D} (hc : plain c = true) {l l' : List D} (h : Ja l l') : Ja (c :: l) (c :: l')
 | row {s ty : Nat} {l l' : List D} (hs : 0 < s) (h : Ja l l') : Ja (.nils :: l) (.row s ty [] :: l')
section
variable {Γ : Ar} {X : Type} {K : KR X} {t : Option X} {e : List (Nat × D)} {o : List (Nat × Ac)} {n nv : Nat} {d : Bool} {acc : List Cs}
 {r : List As} {g : Option (Nat × Bool)} {af : List Nat} {α : Type} {x y : Arg} {s ty gi vi off : Nat} {z z' : D} {l : List α} {en : α -> D}
end
end Go.Dw
namespace Go.Dw
section
variable {α : Type} {c : α -> List D} {w : Nat}
theorem LR {l : List α} {j : Nat} {q : α} (hq : l[j]? = some q) : l.flatMap c = (l.take j).flatMap c ++ (c q ++ (l.drop (j + 1)).flatMap c):=by
 obtain ⟨hj,rfl⟩:=List.getElem?_eq_some_iff.1 hq
 have e : l = l.take j ++ l[j] :: l.drop (j + 1):=by rw [List.getElem_cons_drop hj,List.take_append_drop]
 conv=>lhs; rw [e]
 simp only [List.flatMap_append,List.flatMap_cons]
variable (hw : ∀ q,(c q).length = w)
include hw
theorem Kl : ∀ l : List α,(l.flatMap c).length = l.length * w
 | []=>by simp
 | q :: l=>by simp [hw,Kl l,Nat.add_mul,Nat.add_comm]
theorem Oe {l : List α} {j : Nat} (hj : j <= l.length) : ((l.take j).flatMap c).length = j * w:=by
 rw [Kl hw,List.length_take,Nat.min_eq_left hj]
theorem Od {pre post : List D} {l : List α} {j : Nat} {q : α} (hq : l[j]? = some q) : ((pre ++ (l.flatMap c ++ post)).drop (pre.length + j * w)).take w = c q:=by
 have hj:=(List.getElem?_eq_some_iff.1 hq).1
 have hp:=Oe hw (Nat.le_of_lt hj)
 rw [LR (c:=c) hq,List.append_assoc,List.append_assoc,<- List.append_assoc pre,List.drop_append_of_le_length (by simp [hp]),List.drop_of_length_le (by simp [hp]),List.nil_append,List.take_append_of_le_length (by simp [hw]),List.take_of_length_le (by simp [hw])]
end
section
variable {Γ : Ar} {X : Type} {K : KR X} {t : Option X} {e : List (Nat × D)} {o : List (Nat × Ac)} {n nv : Nat} {d : Bool} {acc : List Cs}
 {r : List As} {dst : Nat} {g : Option (Nat × Bool)} {af : List Nat} {α : Type}
variable {x y : Arg} {v z z' : D} {s ty gi vi off w j : Nat} {fz var : Bool} {l : List α} {c : α -> List D} {q q' : α}
theorem ZM (b b' : Nat) (hw : ∀ q,(c q).length = w) (hj : off = b + j * w) (hg : gOn e g = true) (hx : Aa e x = some (.fptr z off))
  (hc : cells z = (cells z).take b ++ (l.flatMap c ++ (cells z).drop b')) (hb : ((cells z).take b).length = b) (hbl : Nat.ble (b + l.length * w) (cells z).length = true) (hq : l[j]? = some q) (hv : D.agg (c q) = v)
  (h : TrO Γ r (nv + 1) ⟨(dst,v) :: e,o,n⟩ d (acc ++ [(gK g ++ rdK x,[.e dst],af)]) K t) :
  TrO Γ (⟨some dst,.ld w true x,g,af⟩ :: r) nv ⟨e,o,n⟩ d acc K t:=by
 subst hj
 have hl:=(List.getElem?_eq_some_iff.1 hq).1
 have hm:=Nat.mul_le_mul_right w (show j + 1 <= l.length by omega)
 rw [Nat.add_mul,Nat.one_mul] at hm
 have hbl:=Nat.le_of_ble_eq_true hbl
 refine Fi (m:=w) (agg:=true) (z:=z) (v:=v) hg hx (Nat.ble_eq_true_of_le (by omega)) ?_ h
 subst hv
 simp only [AV,if_true]
 congr 1
 conv=>lhs; rw [hc]
 have:=Od hw (pre:=(cells z).take b) (post:=(cells z).drop b') hq
 rw [hb] at this
 exact this
end
end Go.Dw
namespace Go.Dw
open Go
section
variable {Γ : Ar} {R : Type} {K : R -> Ax -> S -> Prop} {t : Option R} {σ τ : S} {b : AU}
def Lb (Γ : Ar) (b : AU) (Q : Ax -> S -> Prop) : Nat -> S -> Prop
 | 0,_=>False
 | m + 1,σ=>DWp Γ b (Ax.then (λτ=>∃ τ',Chg τ τ' /\ Lb Γ b Q m τ') Q) σ
theorem Lb.loop {Q : Ax -> S -> Prop} {m : Nat} (h : Lb Γ b Q m σ) : DWp Γ (.loop b) Q σ:=by
 refine ⟨{ p : Nat × S // Lb Γ b Q p.1 p.2 },λp=>p.1.2,λp=>p.1.1,⟨(m,σ),h⟩,.refl _,?_⟩
 rintro ⟨⟨k,σ⟩,h⟩
 simp only at h
 cases k with
 | zero=>exact h.elim
 | succ k =>
  refine BC b _ _ _ (λe τ hq=>?_) h
  cases e with
  | normal =>
   obtain ⟨τ',h1,h2⟩:=hq
   exact ⟨⟨(k,τ'),h2⟩,Nat.lt_succ_self k,h1⟩
  | exit id=>exact hq
  | ret=>exact hq
end
section
variable {α : Type} {Γ : Ar} {X : Type} {K : KR X} {t : Option X} {r : List As} {nv n : Nat} {e : List (Nat × D)} {o : List (Nat × Ac)} {d : Bool} {acc : List Cs} {g : Option (Nat × Bool)} {af : List Nat} {dst : Nat} {x y : Arg} {w : D} {gi vi ty : Nat}
def Xo (l : List Int) : List UInt8:=l.map λn=>UInt8.ofNat n.toNat
theorem AbR {k : IntKind} {m : Int} (hg : gOn e g = true) (hx : Aa e x = some (.int k m)) (h : TrO Γ r (nv + 1) ⟨(dst,.str (Xd m)) :: e,o,n⟩ d (acc ++ [(gK g ++ rdK x,[.e dst],af)]) K t) :
  TrO Γ (⟨some dst,.i2s x,g,af⟩ :: r) nv ⟨e,o,n⟩ d acc K t :=
 An hg (c:=True) (we:=[(dst,.str (Xd m))]) (wo:=[]) (rd:=rdK x) (by simp only [evalOp,R.run_bind,Ao,Option.getD_some,hx,CJ,R.run_pure,Ad]) (by simp only [evalOp,R.AO,Ao,Bj,Option.getD_some,hx,CJ,R.BB,List.append_nil]) trivial h
theorem AbO {c : Prop} {new : List D} {rk : List Key} (l : List Int) (hg : gOn e g = true) (hx : Aa e x = some w) (hww : strip w = (true,w))
  (hv : (view w).run ⟨e,o,n⟩ = (c,new)) (hvr : (view w).rd ⟨e,o,n⟩ = rk) (hc : c) (hn : new = l.map (.int .u8))
  (h : TrO Γ r (nv + 1) ⟨(dst,.str (Xo l)) :: e,o,n⟩ d (acc ++ [(gK g ++ (rdK x ++ rk),[.e dst],af)]) K t) :
  TrO Γ (⟨some dst,.b2s x,g,af⟩ :: r) nv ⟨e,o,n⟩ d acc K t:=by
 subst hn
 have hb : (l.map (D.int .u8)).map EX = Xo l:=by simp [EX,Xo]
 refine An hg (c:=True /\ c /\ ∀ e ∈ l.map (D.int .u8),∃ n,e = .int .u8 n) (we:=[(dst,.str (Xo l))]) (wo:=[]) (rd:=rdK x ++ rk) ?_ ?_ ⟨trivial,hc,λz hz=>by obtain ⟨u,_,rfl⟩:=List.mem_map.1 hz; exact ⟨u,rfl⟩⟩ h
 ·simp only [evalOp,R.run_bind,Ao,Option.getD_some,hx,hww,hv,R.run_pure,Ad,hb]
 ·simp only [evalOp,R.AO,Ao,Bj,Option.getD_some,hx,hww,hv,hvr,R.BB,List.append_nil]
theorem Aak {k : IntKind} {m : Int} {kt kk len : Nat} {sp : Spec} (l : List α) (en : α -> D) (hds : Hz kt = l.map en) (hg : gOn e g = true) (hy : Aa e y = some (.int k m)) (hi : 0 <= m /\ m < len) (hΓ : Γ kk = some sp)
  (h : TrO Γ r (nv + 1) ⟨(dst,.fptr (.agg (l.map en)) m.toNat) :: e,o,n⟩ d (acc ++ [(gK g ++ rdK y,[.e dst],af)]) K t) :
  TrO Γ (⟨some dst,.ixG kt len 1 y,g,af⟩ :: r) nv ⟨e,o,n⟩ d acc K t:=by
 refine An hg (c:=True /\ 0 <= m /\ m < len /\ ∃ k sp,Γ k = some sp) (we:=[(dst,.fptr (.agg (l.map en)) m.toNat)]) (wo:=[]) (rd:=rdK y) ?_ ?_ ⟨trivial,hi.1,hi.2,kk,sp,hΓ⟩ h
 ·simp only [evalOp,R.run_bind,Ao,Option.getD_some,hy,CJ,R.run_pure,Ad,hds,Nat.mul_one]
 ·simp only [evalOp,R.AO,Ao,Bj,Option.getD_some,hy,CJ,R.BB,List.append_nil]
theorem Abq {k : IntKind} {m : Int} {kt kk len w : Nat} {sp : Spec} (l : List α) (c : α -> List D) (hds : Hz kt = l.flatMap c) (hg : gOn e g = true) (hy : Aa e y = some (.int k m)) (hi : 0 <= m /\ m < len) (hΓ : Γ kk = some sp)
  (h : TrO Γ r (nv + 1) ⟨(dst,.fptr (.agg (l.flatMap c)) (0 + m.toNat * w)) :: e,o,n⟩ d (acc ++ [(gK g ++ rdK y,[.e dst],af)]) K t) :
  TrO Γ (⟨some dst,.ixG kt len w y,g,af⟩ :: r) nv ⟨e,o,n⟩ d acc K t:=by
 refine An hg (c:=True /\ 0 <= m /\ m < len /\ ∃ k sp,Γ k = some sp) (we:=[(dst,.fptr (.agg (l.flatMap c)) (0 + m.toNat * w))]) (wo:=[]) (rd:=rdK y) ?_ ?_ ⟨trivial,hi.1,hi.2,kk,sp,hΓ⟩ h
 ·simp only [evalOp,R.run_bind,Ao,Option.getD_some,hy,CJ,R.run_pure,Ad,hds,Nat.zero_add]
 ·simp only [evalOp,R.AO,Ao,Bj,Option.getD_some,hy,CJ,R.BB,List.append_nil]
end
section
variable {A B : Type} {Γ : Ar} {X : Type} {K : KR X} {t : Option X} {r : List As} {nv n : Nat} {e : List (Nat × D)} {o : List (Nat × Ac)} {d : Bool} {acc : List Cs} {g : Option (Nat × Bool)} {af : List Nat} {dst q : Nat} {x y fa : Arg} {gi vi ty len : Nat} {caps ds : List D} {c : Prop} {w : List (Nat × Ac)} {ps : List (Nat × Nat × Own)} {rk : List Key}
 {ptr : List (Nat × (Nat × Nat))} {enc : A -> List D} {dec : List D -> A} {f : A -> Option B} {encR : B -> D} {encE : B -> List D} {b : B}
section
attribute [local simp] evalOp Ad AG strip
end
end
end Go.Dw
namespace Go.Dw
open Go.Proofs
def YV (x : Int) : Option Int:=chk (0 <= x /\ x < 18446744073709551616) (some ((Lib.ctz 64 x.toNat : Nat) : Int))
def Ek (a : Int) : List D:=[.int .u64 a]
def Fl (ds : List D) : Int:=uI (ds.getD 0 .top)
theorem La (a : Int) : Fl (Ek a) = a:=rfl
instance : RP Ek Fl:=⟨La⟩
def MI (b : Int) : D:=.int .i64 b
def MH (_b : Int) : List D:=[]
def AaR : Dw.Spec:=QW [] .ground Ek Fl (λa=>YV a) MI MH
theorem Nn : Fm = Lib.deBruijn64tab:=by decide
theorem AaS {P : Program} {f g : Nat} (he : CB P f) (hg : P.globalNamed "math/bits.deBruijn64tab" = some g)
  (h : ∀ (x : Nat) (w : World),x < 18446744073709551616 -> (x ≠ 0 -> TabAt g Lib.deBruijn64tab w) -> Calls P f #[.int .u64 (x : Int)] w λe w'=>e = .returned (.int .i64 (Lib.ctz 64 x : Nat)) /\ w' = w) : QU P f AaR:=by
 intro F0 hG
 refine ⟨he,λq hq=>(by cases hq),λ_ _ w F ds vs M hsub hF hfin hA hp=>?_,λφ hφ=>(by cases hφ),hG⟩
 obtain ⟨a,b,rfl,hb⟩:=hp
 have hr : 0 <= a /\ a < 18446744073709551616:=by
  by_cases hr : 0 <= a /\ a < 18446744073709551616
  ·exact hr
  ·simp [YV,chk,hr] at hb
 have hfa : YV a = some ((Lib.ctz 64 a.toNat : Nat) : Int):=by simp [YV,chk,hr]
 have hb' : (λa=>YV a) a = some ((Lib.ctz 64 a.toNat : Nat) : Int):=hfa
 cases hA with
 | ptr j d ds xs M m hp=>cases hp
 | val j d ds x xs M hp hn hx hr' =>
  cases hx
  cases hr'
  have ht : a.toNat ≠ 0 -> TabAt g Lib.deBruijn64tab w:=λ_ j hj=>by
   have hj' : j < 64:=by
    have : Lib.deBruijn64tab.length = 64:=by decide
    omega
   rw [<- Nn]
   exact hF _ _ _ (hsub _ _ _ (hG.tz hg j hj'))
  have key:=h a.toNat w (by omega) ht
  have e1 : ((a.toNat : Nat) : Int) = a:=by omega
  rw [e1] at key
  refine key.mono ?_
  rintro e w' ⟨rfl,rfl⟩
  refine ⟨_,F,λ_ _ _=>False,λ_=>False,rfl,hF,hfin,Stp.refl _ _ _,?_,⟨λk m hm=>by simp at hm,λ_ _ _ h=>h.elim,λ_ _ _ h=>h.elim,λ_ _ _ _ _ h=>h.elim,λ_ _ _ _ h=>h.elim⟩,λ_ _ _ h=>h.elim⟩
  show Fro F ((QW [] .ground Ek Fl (λa=>YV a) MI MH).res (Ek a)) _
  rw [BL La hb']
  exact .int _ _
end Go.Dw
namespace Go.Dw
open Go.RowKit
def WD (n : Int) : Option (List UInt8):=chk (-9223372036854775808 <= n /\ n <= 9223372036854775807) (some (Lib.itoa n))
def Zq (u b : Int) : Option (List UInt8):=chk (0 <= u /\ u < 18446744073709551616)<|chk (b = 10) (some (Lib.decDigits u.toNat))
def Zr (l : List (List UInt8)) (s : List UInt8) : Option (List UInt8):=chk (l.length <= 140737488355328)<|chk ((Lib.join l s).length <= 140737488355328) (some (Lib.join l s))
def FP (a : Int) : List D:=[.int .i64 a]
def FO (ds : List D) : Int:=uI (ds.getD 0 .top)
theorem Jt (a : Int) : FO (FP a) = a:=rfl
instance : RP FP FO:=⟨Jt⟩
def EN (b : List UInt8) : D:=.str b
def EM (_b : List UInt8) : List D:=[]
def Xt : Dw.Spec:=QW [] .ground FP FO (λa=>WD a) EN EM
def FL (a : Int × Int) : List D:=[.int .u64 a.1,.int .i64 a.2]
def FK (ds : List D) : Int × Int:=(uI (ds.getD 0 .top),uI (ds.getD 1 .top))
theorem Jo (a : Int × Int) : FK (FL a) = a:=rfl
instance : RP FL FK:=⟨Jo⟩
def YG : Dw.Spec:=QW [] .ground FL FK (λa=>Zq a.1 a.2) EN EM
def Ep (a : List (List UInt8) × List UInt8) : List D:=[.sl (a.1.map D.str),.str a.2]
def Eo (ds : List D) : List (List UInt8) × List UInt8:=((uL uS) (ds.getD 0 .top),uS (ds.getD 1 .top))
theorem Ju (a : List (List UInt8) × List UInt8) : Eo (Ep a) = a:=by simp [Eo,Ep,uS,VX (u:=uS) (en:=D.str) (λ_=>rfl)]
instance : RP Ep Eo:=⟨Ju⟩
def YH : Dw.Spec:=QW [] .ground Ep Eo (λa=>Zr a.1 a.2) EN EM
theorem EW {P : Program} {k : Nat} {A : Type} {enc : A -> List D} {dec : List D -> A} {f : A -> Option (List UInt8)} (hde : ∀ a,dec (enc a) = a) (he : CB P k)
  (h : ∀ F0,UJ P F0 -> ∀ a b,f a = some b -> ∀ (w : World) (F : Fz) (vs : List Value) (M : List Hd),Af F0 F -> Fok F w -> (∀ b i x,F b i = some x -> b < w.heap.size) -> BZ F w [] 0 (enc a) vs M ->
   Calls P k vs.toArray w λe w'=>e = .returned (.string ⟨b.toArray⟩) /\ Below w.heap.size w w') : QU P k (QW [] .ground enc dec f EN EM):=by
 intro F0 hG
 refine ⟨he,λq hq=>(by cases hq),λ_ _ w F ds vs M hsub hF hfin hA hp=>?_,λφ hφ=>(by cases hφ),hG⟩
 obtain ⟨a,b,rfl,hb⟩:=hp
 have hM:=Dc rfl hA
 subst hM
 refine (h F0 hG a b hb w F vs [] hsub hF hfin hA).mono ?_
 rintro e w' ⟨rfl,hw⟩
 refine ⟨_,F,λ_ _ _=>False,λ_=>False,rfl,λb i x hx=>?_,λb i x hx=>Nat.lt_of_lt_of_le (hfin b i x hx) hw.size,⟨hw.os,hw.tape,hw.output,hw.size,λb hb _=>hw.block b hb,Af.refl _,λ_ _ _ _=>rfl⟩,?_,
  ⟨λk m hm=>by simp at hm,λ_ _ _ h=>h.elim,λ_ _ _ h=>h.elim,λ_ _ _ _ _ h=>h.elim,λ_ _ _ _ h=>h.elim⟩,λ_ _ _ h=>h.elim⟩
 ·rw [hw.cell (p:=⟨b,i,none⟩) (hfin b i x hx)]
  exact hF b i x hx
 ·show Fro F ((QW [] .ground enc dec f EN EM).res (enc a)) _
  rw [BL hde hb]
  exact .str _
theorem UJ.pow {P : Program} {F : Fz} (h : UJ P F) {g : Nat} (hg : P.globalNamed "internal/strconv.uint64pow10" = some g) (j : Nat) (hj : j < 20) : F g j = some (.int .u64 ((10 ^ j : Nat) : Int)):=by
 obtain ⟨x,h1,_,h3⟩:=h (CT.getD 1 ("",[])) (by simp [CT]) g hg j (.int .u64 ((10 ^ j : Nat) : Int)) (by simp [CT,hj])
 cases h3
 exact h1
def Nr (g : Nat) (w : World) : Prop:=∀ j : Nat,j < 20 -> w.cell? ⟨g,j,none⟩ = some (.int .u64 ((10 ^ j : Nat) : Int))
theorem DH {α : Type} {p : Prop} [Decidable p] {x : Option α} {b : α} (h : chk p x = some b) : p /\ x = some b:=by
 unfold chk at h
 split at h
 ·rename_i hp; exact ⟨hp,h⟩
 ·cases h
theorem Aay {P : Program} {f g : Nat} (he : CB P f) (hg : P.globalNamed "internal/strconv.uint64pow10" = some g)
  (h : ∀ (n : Int),-9223372036854775808 <= n -> n <= 9223372036854775807 -> ∀ w : World,Nr g w -> Calls P f #[.int .i64 n] w λe w'=>e = .returned (.string ⟨(Lib.itoa n).toArray⟩) /\ Below w.heap.size w w') : QU P f Xt:=by
 refine EW Jt he λF0 hG a b hb w F vs M hsub hF _ hA=>?_
 obtain ⟨hr,hb⟩:=DH hb
 cases hb
 cases hA with
 | ptr j d ds xs M m hp=>cases hp
 | val j d ds x xs M hp hn hx hr' =>
  cases hx
  cases hr'
  exact h a hr.1 hr.2 w λj hj=>hF _ _ _ (hsub _ _ _ (hG.pow hg j hj))
theorem Aat {P : Program} {f g : Nat} (he : CB P f) (hg : P.globalNamed "internal/strconv.uint64pow10" = some g)
  (h : ∀ (u : Nat),u < 18446744073709551616 -> ∀ w : World,Nr g w -> Calls P f #[.int .u64 u,.int .i64 10] w λe w'=>e = .returned (.string ⟨(Lib.decDigits u).toArray⟩) /\ Below w.heap.size w w') : QU P f YG:=by
 refine EW Jo he λF0 hG a b hb w F vs M hsub hF _ hA=>?_
 obtain ⟨x,y⟩:=a
 obtain ⟨hr,hb⟩:=DH hb
 obtain ⟨hq,hb'⟩:=DH hb
 cases hb'
 dsimp only at hr hq
 subst hq
 cases hA with
 | ptr j d ds xs M m hp=>cases hp
 | val j d ds x' xs M hp hn hx hr' =>
  cases hx
  cases hr' with
  | ptr j d ds xs M m hp=>cases hp
  | val j d ds x' xs M hp hn hx hr' =>
   cases hx
   cases hr'
   have key:=h x.toNat (by omega) w λj hj=>hF _ _ _ (hsub _ _ _ (hG.pow hg j hj))
   rw [show ((x.toNat : Nat) : Int) = x by omega] at key
   exact key
theorem Aaz {P : Program} {f : Nat} (he : CB P f)
  (h0 : ∀ (a : Option Addr) (c : Nat) (s : ByteArray) (w : World),Calls P f #[.slice a 0 c,.string s] w λe w'=>e = .returned (.string ⟨#[]⟩) /\ w' = w)
  (h : ∀ (b o c : Nat) (xs : List ByteArray) (s : ByteArray) (w : World),(∀ (j : Nat) x,xs[j]? = some x -> w.cell? ⟨b,o + j,none⟩ = some (.string x)) -> b < w.heap.size -> xs.length <= 140737488355328 -> xs.length <= c -> (Lib.join (xs.map (·.data.toList)) s.data.toList).length <= 140737488355328 ->
   Calls P f #[.slice (some ⟨b,o,none⟩) xs.length c,.string s] w λe w'=>e = .returned (.string ⟨(Lib.join (xs.map (·.data.toList)) s.data.toList).toArray⟩) /\ Below w.heap.size w w') : QU P f YH:=by
 refine EW Ju he λF0 hG a b hb w F vs M hsub hF hfin hA=>?_
 obtain ⟨l,s⟩:=a
 obtain ⟨hr,hb⟩:=DH hb
 obtain ⟨hq,hb'⟩:=DH hb
 cases hb'
 dsimp only at hr hq ⊢
 have none_ : ∀ a c,l = [] -> Calls P f #[.slice a 0 c,.string ⟨s.toArray⟩] w λe w'=>e = .returned (.string ⟨(Lib.join l s).toArray⟩) /\ Below w.heap.size w w':=λa c e=>by
  subst e
  exact (h0 a c _ w).mono λe w' ⟨h1,h2⟩=>⟨h1,h2 ▸ Below.refl _ _⟩
 cases hA with
 | ptr j d ds xs M m hp=>cases hp
 | val j d ds x' xs M hp hn hx hr' =>
  cases hr' with
  | ptr j d ds xs M m hp=>cases hp
  | val j d ds x'' xs M hp hn' hx' hr' =>
   cases hx'
   cases hr'
   dsimp only at hx
   generalize hes : l.map D.str = es at hx
   cases hx with
   | sl0 a c=>exact none_ a c (List.map_eq_nil_iff.1 hes)
   | sl es b o c k vf hc hs hcl h1 hv =>
    subst hes
    rw [List.length_map] at hc ⊢
    rcases Nat.eq_zero_or_pos l.length with h0' | h0'
    ·rw [h0']
     exact none_ _ c (List.length_eq_zero_iff.1 h0')
    have hk : k = 1:=by
     have:=hs (D.str (l[0]'h0')) (List.mem_map.2 ⟨_,List.getElem_mem h0',rfl⟩)
     exact this.symm
    subst hk
    have hce : ∀ (j : Nat) x,l[j]? = some x -> F b (o + j) = some (.string ⟨x.toArray⟩):=λj x hx=>by
     have a1 : (l.map D.str)[j]? = some (D.str x):=by rw [List.getElem?_map,hx]; rfl
     have a2:=hcl j 0 _ _ a1 rfl
     have a3:=hv j 0 _ _ a1 rfl
     rw [Nat.mul_one,Nat.add_zero] at a2
     rw [a2]
     generalize vf j 0 = z at a3
     cases a3
     rfl
    have key:=h b o c (l.map λs=>(⟨s.toArray⟩ : ByteArray)) ⟨s.toArray⟩ w (λj x hx=>by
     rw [List.getElem?_map,Option.map_eq_some_iff] at hx
     obtain ⟨y,hy,rfl⟩:=hx
     exact hF _ _ _ (hce j y hy)) (hfin _ _ _ (hce 0 _ (List.getElem?_eq_getElem h0'))) (by rw [List.length_map]; exact hr) (by rw [List.length_map]; exact hc)
    have e : (l.map λs=>(⟨s.toArray⟩ : ByteArray)).map (·.data.toList) = l:=by simp [Function.comp_def]
    rw [e,List.length_map] at key
    exact key hq
end Go.Dw
namespace Go.Proofs
open Go.Shelf Go.RowKit Go.Lib
open Go.Dw (AL)
structure CV (w : World) (b : Nat) (w' : World) : Prop where
 os : w'.os = w.os
 tape : w'.tape = w.tape
 output : w'.output = w.output
 size : w.heap.size <= w'.heap.size
 Rm : ∀ k,k < w.heap.size -> ¬ AL w b k -> w'.heap[k]? = w.heap[k]?
 new : ∀ k,AL w' b k -> AL w b k \/ (w.heap.size <= k /\ k < w'.heap.size)
theorem CV.refl (w : World) (b : Nat) : CV w b w:=⟨rfl,rfl,rfl,Nat.le_refl _,λ_ _ _=>rfl,λ_ h=>.inl h⟩
section
variable {P : Program} {w : World} {e t u : TypeId} {i : TypeInfo}
theorem JZ (ty : TypeId) (ht : P.underlying t = some (.slice e)) (hu : P.underlying u = some .string) (hi : P.info? e = some i) (hz : i.zero = some (.int .u8 0)) (hsize : i.size = 1) (hby : i.bytes = 1)
  (v : Value) (n : Nat) (xs : List Value) (hown : w.ownsRowF 0 e 1 v n xs) (s : ByteArray) (h63 : n + s.size <= maxLen) (hbytes : n + s.size <= 140737488355328) :
  ∃ v' w',(Builtin.append_ #[t,u] ty #[v,.string s]).run P w = .ok v' w' /\ w'.ownsRowF 0 e 1 v' (n + s.size) (xs ++ strCells s) /\ w.grownBy w' v.ownBlock /\ (v'.ownBlock = v.ownBlock \/ ∀ k,v'.ownBlock = some k -> w.heap.size <= k):=by
 rcases hown.2 with ⟨rfl,rfl⟩ | ⟨g,cap,cur,fz,rfl,hbg,hg,hfz,hnc,hcm,hcs,htake⟩
 ·obtain ⟨v',w',h1,h2,h3,_⟩:=run_append_own_string (P:=P) w w.heap.size t u ty e i ht hu hi hz hsize hby (.slice none 0 0) 0 xs ⟨hown.1,.inl ⟨rfl,rfl⟩⟩ s h63 hbytes (Nat.le_refl _)
  refine ⟨v',w',h1,⟨h2.1,(World.ownsRowF_of h2).2.imp id λ⟨g,cap,cur,fz,a,_,b⟩=>⟨g,cap,cur,fz,a,Nat.zero_le _,b⟩⟩,h3,.inr λk hk=>(h2.lt k hk).1⟩
 ·have hxl : xs.length = n:=by simpa using hown.1
  have hlen : (xs ++ strCells s).length = (n + s.size) * 1:=by rw [List.length_append,hxl,strCells_length,Nat.mul_one]
  by_cases hroom : n + s.size <= cap
  ·have hcs' : cur.size = cap:=by simpa using hcs
   have hr:=run_append_room_stringF (P:=P) w t u ty e i ht hu hi hsize g n cap cur fz hg (by simpa using hfz) s hroom (by omega)
   refine ⟨_,_,hr,⟨hlen,.inr ⟨g,cap,_,fz,rfl,hbg,setRow_heap w g cur _ e _ hg,by omega,hroom,hcm,?_,?_⟩⟩,⟨rfl,rfl,rfl,by simp,λk _ hk=>setRow_other w g k _ (λe=>hk (by simp [Value.ownBlock,e]))⟩,.inl rfl⟩
   ·simp only [List.size_toArray,List.length_append,List.length_take,List.length_drop,Array.length_toList,strCells_length]
    omega
   ·have ht' : cur.toList.take n = xs:=by simpa using htake
    rw [ht',<- hlen]
    exact List.take_left
  ·have hsmall : n + s.size <= 9223372036854775807:=by simp only [maxLen] at h63; omega
   have holds : ∀ j u,xs[j]? = some u -> w.cell? ((⟨g,0,none⟩ : Addr).add j) = some u:=hown.cells (g:=g) rfl
   have hr:=run_append_grow_string (P:=P) w t u ty e i (.int .u8 0) ht hu hi hz ⟨g,0,none⟩ n cap xs (by rw [hsize]; simpa using hxl) holds s (by omega) (by omega) (by rw [hby]; exact growslice_fits (by omega) (by omega))
   have hge:=grownCap_ge w (n + s.size) cap e
   have hcm2 : grownCap w (n + s.size) cap e <= maxLen:=grownCap_le_maxLen w (n + s.size) cap e h63
   refine ⟨_,_,hr,⟨hlen,.inr ⟨w.heap.size,_,_,(0,0),rfl,Nat.zero_le _,heap_alloc_new w.drew _,Nat.zero_le _,hge,hcm2,?_,?_⟩⟩,⟨rfl,rfl,rfl,by simp,λk hk _=>Below.heap_alloc w.drew _ k hk⟩,.inr λk hk=>by cases hk; exact Nat.le_refl _⟩
   ·have hz1 : (Value.int IntKind.u8 0).cells.size = 1:=rfl
    simp only [Array.size_append,List.size_toArray,size_zeroCells,hz1,hxl,strCells_length]
    omega
   ·simp only [Array.toList_append,List.append_assoc]
    rw [<- List.append_assoc,<- hlen]
    exact List.take_left
theorem Iq {ops : Array Oper} {rest : List Oper} {o : Oper} {a : Act} {Q : Exit -> Act -> World -> Prop} (hgd : o.guard = none) (sl x : Operand) (t u : TypeId)
  (ho : o.op = .call { callee:=.builtin .append,args:=#[sl,x],argTypes:=#[t,u] }) (e : TypeId) (i : TypeInfo) (ht : P.underlying t = some (.slice e)) (hu : P.underlying u = some .string) (hi : P.info? e = some i) (hz : i.zero = some (.int .u8 0))
  (hsize : i.size = 1) (hby : i.bytes = 1) (v : Value) (n : Nat) (xs : List Value) (hs : a.eval sl = v) (hown : w.ownsRowF 0 e 1 v n xs) (s : ByteArray) (hx : a.eval x = .string s) (h63 : n + s.size <= maxLen) (hbytes : n + s.size <= 140737488355328)
  (h : ∀ v' w',w'.ownsRowF 0 e 1 v' (n + s.size) (xs ++ strCells s) -> w.grownBy w' v.ownBlock -> (v'.ownBlock = v.ownBlock \/ ∀ k,v'.ownBlock = some k -> w.heap.size <= k) -> wpList P ops Q rest (a.put o.dst v') w') : wpList P ops Q (o :: rest) a w:=by
 refine wpList_plain hgd λK hK=>?_
 obtain ⟨v',w',hr,h2,h3,h4⟩:=JZ (P:=P) o.type ht hu hi hz hsize hby v n xs hown s h63 hbytes
 unfold Oper.wp execOp
 simp only [ho,resolve,invoke,builtin,Sem.run_bind,Sem.run_pure,Result.andThen_ok,List.map_toArray,List.map_cons,List.map_nil,hs,hx,hr]
 exact hK _ _ (h v' w' h2 h3 h4)
end
section
variable {P : Program} {ρ : Ren}
theorem LO (L : Lays.n240 P ρ) (X : Builder.X72 P ρ) (b : Nat) (bs : List Value) (w : World) (h : Lib.IsBuilderF (ρ.t 72) (ρ.t 5) 0 b bs w) :
  Calls P (ρ.f 240) #[.pointer (some ⟨b,0,none⟩)] w λe w'=>e = .returned (.tuple #[]) /\ Lib.BuilderAtF (ρ.t 72) (ρ.t 5) 0 b (.pointer (some ⟨b,0,none⟩)) bs w' /\ (w' = w \/ w' = w.setCell ⟨b,0,none⟩ (.pointer (some ⟨b,0,none⟩))):=by
 rcases h with h | h
 ·refine (Any.Builder_copyCheck_fresh L X b w h.cell0 h.shape h.frozen0).mono ?_
  rintro e w' ⟨rfl,rfl⟩
  exact ⟨rfl,h.used _,.inr rfl⟩
 ·refine (Any.Builder_copyCheck_used L X b w h.cell0).mono ?_
  rintro e w' ⟨rfl,rfl⟩
  exact ⟨rfl,h,.inl rfl⟩
set_option maxHeartbeats 2000000 in
set_option maxRecDepth 100000 in
theorem AaD (L : Lays.n166 P ρ) (X : Builder.Extra P ρ) (b : Nat) (l : List UInt8) (s : ByteArray) (w : World) (h : Lib.IsBuilderF (ρ.t 72) (ρ.t 5) 0 b (Lib.byteCells l) w) (hlen : l.length + s.size <= 140737488355328) :
  Calls P (ρ.f 166) #[.pointer (some ⟨b,0,none⟩),.string s] w λe w'=>e = .returned (.tuple #[.int .i64 s.size,.nilIface]) /\ Lib.IsBuilderF (ρ.t 72) (ρ.t 5) 0 b (Lib.byteCells l ++ Lib.strCells s) w' /\ CV w b w':=by
 obtain ⟨i0,hi,hz0,hz1,hz2⟩:=info_parts X.infoByte
 have mixed:=L.mixed
 have t72:=L.t72; have a72:=L.a72; have z72:=L.z72; have v72:=L.v72; have u72:=run_underlying L.t72
 have t70:=L.t70; have a70:=L.a70; have z70:=L.z70; have v70:=L.v70; have u70:=run_underlying L.t70
 have t37:=L.t37; have a37:=L.a37; have z37:=L.z37; have v37:=L.v37; have u37:=run_underlying L.t37
 have t3:=L.t3; have a3:=L.a3; have z3:=L.z3; have v3:=L.v3; have u3:=run_underlying L.t3
 have t9:=L.t9; have a9:=L.a9; have z9:=L.z9; have v9:=L.v9; have u9:=run_underlying L.t9
 have t4:=L.t4; have a4:=L.a4; have z4:=L.z4; have v4:=L.v4; have u4:=run_underlying L.t4
 have t164:=L.t164; have a164:=L.a164; have z164:=L.z164; have v164:=L.v164; have u164:=run_underlying L.t164
 have t5:=X.t5; have a5:=X.a5; have z5:=X.z5; have v5:=X.v5; have u5:=run_underlying X.t5
 have e240 : ∀ args w,(callFunc (ρ.f 240) args).run P w = .ok (.enter (ρ.f 240) args) w:=enters_of L.f240 (by kernel_rfl) rfl
 have hbl : (Lib.byteCells l).length = l.length:=Lib.byteCells_length l
 obtain ⟨p0,v0,hw0⟩ : ∃ p v,w.heap[b]? = some (.cells #[p,v] (ρ.t 72) (0,0)):=by
  rcases h with ⟨_,v,h,_⟩ | ⟨_,v,h,_⟩
  ·exact ⟨_,v,h⟩
  ·exact ⟨_,v,h⟩
 have HW0:=Lib.hid hw0
 clear hw0
 go_enter L.f166,Body.n166_ntmps ρ
 go_wp2_with (go_at_fn (ρ.f 240); refine (LO { L with } X.toX72 b (Lib.byteCells l) _ h).mono ?_)
 rintro e w1 ⟨rfl,h1,hw1⟩
 have HW1:=Lib.hid hw1
 clear hw1
 obtain ⟨hB,v,hbk,hown,hne⟩:=h1
 have c0 : w1.cell? ⟨b,0,none⟩ = some (.pointer (some ⟨b,0,none⟩)):=by rw [Lib.cell_of_heap hbk]; rfl
 have c1 : w1.cell? ⟨b,1,none⟩ = some v:=by rw [Lib.cell_of_heap hbk]; rfl
 go_wp2_with (at_builtin; refine Iq rfl _ _ (ρ.t 37) (ρ.t 9) rfl (ρ.t 5) i0 L.t37 L.t9 hi hz0 hz1 hz2 _ _ _ rfl hown s rfl ?c3 ?c4 ?_)
 case c3=>rw [hbl]; unfold maxLen; omega
 case c4=>rw [hbl]; omega
 intro v' w2 hown' hgrow hloc
 have hlt : b < w1.heap.size:=by
  rcases Nat.lt_or_ge b w1.heap.size with h' | h'
  ·exact h'
  ·simp [Array.getElem?_eq_none h'] at hbk
 have hb2 : w2.heap[b]? = some (.cells #[.pointer (some ⟨b,0,none⟩),v] (ρ.t 72) (0,0)):=by
  rw [hgrow.block b hlt (λe=>hne e.symm)]
  exact hbk
 have d0 : w2.cell? ⟨b,0,none⟩ = some (.pointer (some ⟨b,0,none⟩)):=by rw [Lib.cell_of_heap hb2]; rfl
 have d1 : w2.cell? ⟨b,1,none⟩ = some v:=by rw [Lib.cell_of_heap hb2]; rfl
 have f1 : w2.frozen? ⟨b,1,none⟩ = false:=Lib.frozen_of_heap hb2 1
 have HL:=Lib.hid hloc
 clear hloc
 obtain ⟨ao,n',cap,rfl⟩ : ∃ ao n' cap,v' = .slice ao n' cap:=by
  rcases hown'.2 with ⟨hv,_⟩ | ⟨g,cap,cur,fz,hv,_⟩
  ·exact ⟨_,_,_,hv⟩
  ·exact ⟨_,_,_,hv⟩
 go_wp2
 go_ret2
 have hfin:=Lib.BuilderAtF.put (T:=(ρ.t 72)) (e:=(ρ.t 5)) (Nat.zero_le b) hb2 (bs':=Lib.byteCells l ++ Lib.strCells s) (by rw [List.length_append,Lib.byteCells_length,Lib.strCells_length]; exact hown') X.neB5
 refine ⟨rfl,.inr hfin,?_⟩
 have hw1:=HW1.out
 have hw0:=HW0.out
 have s1 : w1.heap.size = w.heap.size:=by rcases hw1 with rfl | rfl <;> simp
 have b1 : ∀ k,k ≠ b -> w1.heap[k]? = w.heap[k]?:=by
  intro k hk
  rcases hw1 with rfl | rfl
  ·rfl
  ·exact Below.heap_setCell w _ _ k hk
 have vv : v0 = v:=by
  have e1 : w1.cell? ⟨b,1,none⟩ = some v0:=by
   rcases hw1 with rfl | rfl
   ·rw [Lib.cell_of_heap hw0]; rfl
   ·rw [World.cell?_setCell_other _ _ _ _ (by simp),Lib.cell_of_heap hw0]; rfl
  rw [c1] at e1
  exact (Option.some.inj e1).symm
 subst vv
 have old : ∀ k,v0.ownBlock = some k -> AL w b k:=by
  intro k hk
  rcases hown.2 with ⟨rfl,_⟩ | ⟨g,cap,cur,fz,rfl,_⟩
  ·cases hk
  ·cases hk
   exact .inr ⟨_,_,_,_,hw0⟩
 have e1 : w1.os = w.os /\ w1.tape = w.tape /\ w1.output = w.output:=by rcases hw1 with rfl | rfl <;> exact ⟨rfl,rfl,rfl⟩
 refine ⟨hgrow.os.trans e1.1,hgrow.tape.trans e1.2.1,hgrow.output.trans e1.2.2,by have:=hgrow.size; simp; omega,λk hk hn=>?_,λk hk=>?_⟩
 ·have hkb : k ≠ b:=λe=>hn (.inl e)
  rw [Below.heap_setCell w2 _ _ k hkb,hgrow.block k (by omega) (λe=>hn (old k e.symm)),b1 k hkb]
 ·rcases hk with rfl | ⟨p,n,c,T,hk⟩
  ·exact .inl (.inl rfl)
  ·obtain ⟨_,v3,hv3,hown3,_⟩:=hfin
   have e2 : v3 = .slice ao n' cap:=by
    have : (w2.setCell ⟨b,1,none⟩ (.slice ao n' cap)).cell? ⟨b,1,none⟩ = some (.slice ao n' cap):=World.cell?_setCell_same _ _ _ d1
    rw [Lib.cell_of_heap hv3] at this
    simpa using this
   subst e2
   rw [hv3] at hk
   cases hk
   rcases HL.out with e | e
   ·exact .inl (old k (e ▸ rfl))
   ·refine .inr ⟨by rw [<- s1]; exact e k rfl,?_⟩
    exact (hown3.lt k rfl).2
set_option maxHeartbeats 2000000 in
set_option maxRecDepth 100000 in
theorem AaW (L : Lays.n169 P ρ) (X : Builder.Extra P ρ) (b : Nat) (l : List UInt8) (w : World) (h : Lib.IsBuilderF (ρ.t 72) (ρ.t 5) 0 b (Lib.byteCells l) w) (h0 : l ≠ []) :
  Calls P (ρ.f 169) #[.pointer (some ⟨b,0,none⟩)] w λe w'=>e = .returned (.string ⟨l.toArray⟩) /\ Lib.IsBuilderF (ρ.t 72) (ρ.t 5) 0 b (Lib.byteCells l) w' /\ CV w b w':=by
 obtain ⟨p,hp,hAt⟩ : ∃ p,(p = .pointer none \/ p = .pointer (some ⟨b,0,none⟩)) /\ Lib.BuilderAtF (ρ.t 72) (ρ.t 5) 0 b p (Lib.byteCells l) w:=by
  rcases h with h | h
  ·exact ⟨_,.inl rfl,h⟩
  ·exact ⟨_,.inr rfl,h⟩
 obtain ⟨hB,v,hbk,hown,hne⟩:=hAt
 have hl0 : l.length ≠ 0:=by simpa using h0
 rw [Lib.byteCells_length] at hown
 obtain ⟨g,cap,cur,fz,rfl,hbg,hg,hfz,hnc,hcm,hcs,htake⟩ : ∃ g cap cur fz,v = .slice (some ⟨g,0,none⟩) l.length cap /\ 0 <= g /\ w.heap[g]? = some (.cells cur (ρ.t 5) fz) /\ fz.2 <= l.length * 1 /\ l.length <= cap /\ cap <= maxLen /\ cur.size = cap * 1 /\ cur.toList.take (l.length * 1) = Lib.byteCells l:=by
  rcases hown.2 with ⟨_,hz⟩ | ⟨g,cap,cur,fz,hv,r⟩
  ·exact absurd hz hl0
  ·exact ⟨g,cap,cur,fz,hv,r⟩
 have hgb : g ≠ b:=λe=>hne (by rw [e]; rfl)
 have c1 : w.drew.cell? ⟨b,1,none⟩ = some (.slice (some ⟨g,0,none⟩) l.length cap):=by
  have : w.drew.heap[b]? = some (.cells #[p,.slice (some ⟨g,0,none⟩) l.length cap] (ρ.t 72) (0,0)):=hbk
  rw [Lib.cell_of_heap this]; rfl
 have hSD : (Builtin.unsafeSliceData_ #[(ρ.t 37)] (ρ.t 127) #[.slice (some ⟨g,0,none⟩) l.length cap]).run P w.drew = .ok (.pointer (some ⟨g,0,none⟩)) w.drew :=
  Lib.run_unsafeSliceData_row _ _ _ _ _ _ (by omega)
 have hUS : (Builtin.unsafeString_ #[(ρ.t 127),(ρ.t 3)] (ρ.t 9) #[.pointer (some ⟨g,0,none⟩),.int .i64 l.length]).run P w.drew = .ok (.string ⟨l.toArray⟩) (w.drew.freeze ⟨g,0,none⟩ l.length):=by
  refine Lib.run_unsafeString_row w.drew (ρ.t 127) (ρ.t 3) (ρ.t 9) (ρ.t 5) L.t127 X.cellsByte g cur.size (by have hg' : w.drew.heap[g]? = some (.cells cur (ρ.t 5) fz):=hg; simp [World.shape?,hg']) l h0 (by omega) (by unfold maxLen at hcm; omega) ?_
  intro j x hx
  have:=hown.cells (g:=g) rfl j (.int .u8 x.toNat) (by simp [Lib.byteCells,hx])
  exact this
 have hkeep : Lib.IsBuilderF (ρ.t 72) (ρ.t 5) 0 b (Lib.byteCells l) (w.drew.freeze ⟨g,0,none⟩ l.length):=by
  have hA : Lib.BuilderAtF (ρ.t 72) (ρ.t 5) 0 b p (Lib.byteCells l) w.drew:=⟨hB,_,hbk,by rw [Lib.byteCells_length]; exact hown,hne⟩
  have hF:=hA.froze (g:=g) (cap:=cap) (by rw [Lib.byteCells_length]; exact c1)
  rw [Lib.byteCells_length] at hF
  rcases hp with rfl | rfl
  ·exact .inl hF
  ·exact .inr hF
 have hb0 : ∀ k,k ≠ g -> (w.drew.freeze ⟨g,0,none⟩ l.length).heap[k]? = w.heap[k]?:=λk hk=>by
  unfold World.freeze
  rw [if_neg hl0]
  show (w.drew.heap.modify g _)[k]? = _
  rw [Array.getElem?_modify,if_neg (Ne.symm hk)]
  rfl
 have hst : CV w b (w.drew.freeze ⟨g,0,none⟩ l.length):=by
  have hz:=Lib.below_freeze (B:=0) (Below.drew (Below.refl 0 w)) (p:=⟨g,0,none⟩) (Nat.zero_le _) l.length
  refine ⟨hz.os,hz.tape,hz.output,hz.size,λk _ hn=>hb0 k λe=>hn (.inr ⟨p,l.length,cap,ρ.t 72,by subst e; exact hbk⟩),λk hk=>.inl (hk.of (hb0 b (Ne.symm hgb)))⟩
 have HK:=Lib.hid hkeep
 have HS:=Lib.hid hst
 clear hkeep hst hb0
 have mixed:=L.mixed
 have t72:=L.t72; have a72:=L.a72; have z72:=L.z72; have v72:=L.v72; have u72:=run_underlying L.t72
 have t70:=L.t70; have a70:=L.a70; have z70:=L.z70; have v70:=L.v70; have u70:=run_underlying L.t70
 have t37:=L.t37; have a37:=L.a37; have z37:=L.z37; have v37:=L.v37; have u37:=run_underlying L.t37
 have t127:=L.t127; have a127:=L.a127; have z127:=L.z127; have v127:=L.v127; have u127:=run_underlying L.t127
 have t3:=L.t3; have a3:=L.a3; have z3:=L.z3; have v3:=L.v3; have u3:=run_underlying L.t3
 have t9:=L.t9; have a9:=L.a9; have z9:=L.z9; have v9:=L.v9; have u9:=run_underlying L.t9
 have t5:=X.t5; have a5:=X.a5; have z5:=X.z5; have v5:=X.v5; have u5:=run_underlying X.t5
 go_enter L.f169,Body.n169_ntmps ρ
 go_wp2
 go_region_o
 all_goals (go_wp2; go_ret; exact ⟨rfl,HK.out,HS.out⟩)
end
end Go.Proofs
namespace Go.Dw
open Go.Proofs Go.RowKit
section
variable {N : Nat} {w0 : World} {F0 : Fz} {M : Nat -> Prop} {B0 : Bt} {σ : S} {F : Fz} {β : Bt} {a : Act} {w : World} {P : Program}
def TY (T u : Nat) (l : List UInt8) : List D:=[.str l,.int .i64 (.ofNat T),.int .i64 (.ofNat u)]
theorem GQ (h : Ay N w0 F0 M B0 σ F β a w) {g v T u : Nat} {l : List UInt8} {x : Value} (hx : Val F β (.mref g v) x) (hg : σ.go g = some (v,⟨true,false,0,2,TY T u l⟩)) :
  ∃ b,x = .pointer (some ⟨b,0,none⟩) /\ β v = some ⟨none,2,b⟩ /\ Lib.IsBuilderF T u 0 b (Lib.byteCells l) w:=by
 obtain ⟨w1,F1,M1,B1,hb,hS,hm⟩:=h
 obtain ⟨L,hL,_,hx⟩:=hx
 obtain ⟨_,b,h2,_,h6⟩:=hm.at_ g v _ hg rfl
 have:=hS.nam _ _ h2
 rw [hL] at this; cases this
 rcases h6 with h6 | h6 | h6
 ·cases h6.1
 ·cases h6.1
 ·obtain ⟨l',T',u',e,hB⟩:=h6.2
  simp only [TY,List.cons.injEq,D.str.injEq,D.int.injEq,true_and,and_true] at e
  obtain ⟨rfl,e1,e2⟩:=e
  have e1 : T = T':=Int.ofNat.inj e1
  have e2 : u = u':=Int.ofNat.inj e2
  subst e1; subst e2
  exact ⟨b,hx.elim (λh=>by cases h.1) (·.2),hL,hB⟩
theorem Ay.bld (h : Ay N w0 F0 M B0 σ F β a w) {g v T u b : Nat} {l l' : List UInt8} (hg : σ.go g = some (v,⟨true,false,0,2,TY T u l⟩)) (hβ : β v = some ⟨none,2,b⟩) {w' : World} (hs : CV w b w') (hB : Lib.IsBuilderF T u 0 b (Lib.byteCells l') w') :
  Ay N w0 F0 M B0 ⟨σ.e,(g,some (v,⟨true,false,0,2,TY T u l'⟩)) :: σ.o,σ.n⟩ F β a w' :=
 h.Pt hg rfl hβ hs.os hs.tape hs.output hs.size hs.Rm (.inr (.inr ⟨rfl,l',T,u,rfl,hB⟩)) hs.new
def Abb (T u : Nat) : List D -> S -> (D -> S -> Prop) -> Prop:=λds σ K=>∃ g v l s,ds = [.mref g v,.str s] /\ σ.go g = some (v,⟨true,false,0,2,TY T u l⟩) /\ l.length + s.length <= 16777216 /\
 K (.tup [.int .i64 (s.length : Nat),.top]) ⟨σ.e,(g,some (v,⟨true,false,0,2,TY T u (l ++ s)⟩)) :: σ.o,σ.n⟩
def AaX (T u : Nat) : List D -> S -> (D -> S -> Prop) -> Prop:=λds σ K=>∃ g v l,ds = [.mref g v] /\ σ.go g = some (v,⟨true,false,0,2,TY T u l⟩) /\ K (.int .i64 (l.length : Nat)) σ
def AaZ (T u : Nat) : List D -> S -> (D -> S -> Prop) -> Prop:=λds σ K=>∃ g v l,ds = [.mref g v] /\ σ.go g = some (v,⟨true,false,0,2,TY T u l⟩) /\ l ≠ [] /\ K (.str l) ⟨σ.e,(g,some (v,⟨true,false,0,2,TY T u l⟩)) :: σ.o,σ.n⟩
def Ue (φ : List D -> S -> (D -> S -> Prop) -> Prop) : Spec:=⟨[],.opn φ,λ_=>False,λ_=>.top,λ_=>[]⟩
theorem Il (s : List UInt8) : Lib.strCells ⟨s.toArray⟩ = Lib.byteCells s:=by simp [Lib.strCells,Lib.byteCells]
theorem GR (l s : List UInt8) : Lib.byteCells l ++ Lib.byteCells s = Lib.byteCells (l ++ s):=by simp [Lib.byteCells]
theorem Abc {f T u : Nat} (he : CB P f) (h : ∀ (b : Nat) (l : List UInt8) (s : ByteArray) (w : World),Lib.IsBuilderF T u 0 b (Lib.byteCells l) w -> l.length + s.size <= 140737488355328 ->
  Calls P f #[.pointer (some ⟨b,0,none⟩),.string s] w λe w'=>e = .returned (.tuple #[.int .i64 s.size,.nilIface]) /\ Lib.IsBuilderF T u 0 b (Lib.byteCells l ++ Lib.strCells s) w' /\ CV w b w') : QU P f (Ue (Abb T u)):=by
 intro F0 hG
 refine ⟨he,λq hq=>(by cases hq),λ_ h=>(by cases h),λφ hφ=>?_,hG⟩
 cases hφ
 rintro F1 hF1 N w0 M B0 σ F β a w ds vs K hM hfr hl hv ⟨g,v,l,s,rfl,hg,hlen,hK⟩
 match vs,hl with
 | [x,y],_ =>
  have hx:=hv 0 _ x rfl rfl
  have hy:=hv 1 _ y rfl rfl
  obtain ⟨b,rfl,hβ,hB⟩:=GQ hM hx hg
  cases hy
  refine (h b l ⟨s.toArray⟩ w hB (by simp [ByteArray.size]; omega)).mono ?_
  rintro e w' ⟨rfl,hB',hst⟩
  rw [Il,GR] at hB'
  have hsz : (⟨s.toArray⟩ : ByteArray).size = s.length:=by simp [ByteArray.size]
  refine ⟨_,.tup [.int .i64 (s.length : Nat),.top],_,σ.n,F,β,rfl,hM.bld hg hβ hst hB',hfr,⟨[_,_],rfl,rfl,λj c x hj hx=>?_⟩,hK⟩
  match j,hj,hx with
  | 0,hj,hx=>cases hj; cases hx; rw [hsz]; exact show Fro F _ _ from .int _ _
  | 1,hj,hx=>cases hj; cases hx; exact show Fro F _ _ from .top _
theorem AaY {f T u : Nat} (he : CB P f) (h : ∀ (b : Nat) (l : List UInt8) (w : World),Lib.IsBuilderF T u 0 b (Lib.byteCells l) w ->
  Calls P f #[.pointer (some ⟨b,0,none⟩)] w λe w'=>e = .returned (.int .i64 (Lib.byteCells l).length) /\ w' = w) : QU P f (Ue (AaX T u)):=by
 intro F0 hG
 refine ⟨he,λq hq=>(by cases hq),λ_ h=>(by cases h),λφ hφ=>?_,hG⟩
 cases hφ
 rintro F1 hF1 N w0 M B0 σ F β a w ds vs K hM hfr hl hv ⟨g,v,l,rfl,hg,hK⟩
 match vs,hl with
 | [x],_ =>
  have hx:=hv 0 _ x rfl rfl
  obtain ⟨b,rfl,hβ,hB⟩:=GQ hM hx hg
  refine (h b l w hB).mono ?_
  rintro e w' ⟨rfl,rfl⟩
  rw [Lib.byteCells_length]
  exact ⟨_,.int .i64 (l.length : Nat),σ.o,σ.n,F,β,rfl,hM,hfr,show Fro F _ _ from .int _ _,hK⟩
theorem Aba {f T u : Nat} (he : CB P f) (h : ∀ (b : Nat) (l : List UInt8) (w : World),Lib.IsBuilderF T u 0 b (Lib.byteCells l) w -> l ≠ [] ->
  Calls P f #[.pointer (some ⟨b,0,none⟩)] w λe w'=>e = .returned (.string ⟨l.toArray⟩) /\ Lib.IsBuilderF T u 0 b (Lib.byteCells l) w' /\ CV w b w') : QU P f (Ue (AaZ T u)):=by
 intro F0 hG
 refine ⟨he,λq hq=>(by cases hq),λ_ h=>(by cases h),λφ hφ=>?_,hG⟩
 cases hφ
 rintro F1 hF1 N w0 M B0 σ F β a w ds vs K hM hfr hl hv ⟨g,v,l,rfl,hg,h0,hK⟩
 match vs,hl with
 | [x],_ =>
  have hx:=hv 0 _ x rfl rfl
  obtain ⟨b,rfl,hβ,hB⟩:=GQ hM hx hg
  refine (h b l w hB h0).mono ?_
  rintro e w' ⟨rfl,hB',hst⟩
  exact ⟨_,.str l,_,σ.n,F,β,rfl,hM.bld hg hβ hst hB',hfr,show Fro F _ _ from .str _,hK⟩
end
section
variable {Γ : Ar} {X : Type} {K : X -> Ax -> S -> Prop} {N : Nat} {t : Option X} {e : List (Nat × D)} {o o' : List (Nat × Ac)} {n nv : Nat} {acc : List Cs} {r : List As} {af : List Nat}
theorem AbS {T u dst : Nat} (h : ∀ nn,TrO Γ r (nn + 1) ⟨(dst,.mref dst nn) :: e,(dst,some (nn,⟨true,false,0,2,TY T u []⟩)) :: o,nn + 1⟩ false [] (Cj N K) t) :
  TrO Γ (⟨some dst,.mkb T u,none,af⟩ :: r) nv ⟨e,o,n⟩ false acc (Cj N K) t:=by
 intro q hq
 refine ⟨λ_=>.inr (.inr ?_),λhd=>by cases hd⟩
 exact ⟨_,.refl _,rfl,dst,rfl,2,_,⟨rfl,rfl⟩,_,.refl _,(h nv q hq).1 rfl⟩
theorem Im {dst : Option Nat} {fa : Arg} {args : List Arg} {k : Nat} {ds : List D} {φ : List D -> S -> (D -> S -> Prop) -> Prop} (d : D) (hf : Aa e fa = some (.clo k [])) (hds : Aj e args = ds) (hw : ds.all (λd=>(match d with | .when ..=>false | _=>true)) = true) (hkb : Nat.blt k 4096 = true)
  (hΓ : Γ (k + 4096 * AM ds) = some (Ue φ)) (hφ : ∀ nn (K' : D -> S -> Prop),K' d ⟨e,o',nn⟩ -> φ ds ⟨e,o,nn⟩ K') (h : ∀ nn,TrO Γ r nn ⟨Ad dst d ++ e,o',nn⟩ false [] (Cj N K) t) :
  TrO Γ (⟨dst,.call fa args,none,af⟩ :: r) nv ⟨e,o,n⟩ false acc (Cj N K) t:=by
 intro x hx
 refine ⟨λ_=>.inr (.inl ?_),λhd=>by cases hd⟩
 have hrd : (AK args).run ⟨e,o,nv⟩ = ds:=by rw [<- hds]; exact Bq args
 have hraw : (raw fa).run ⟨e,o,nv⟩ = .clo k []:=by simp [hf]
 refine ⟨_,.refl _,trivial,fa,args,k,[],Ue φ,φ,_,λτ hτ=>hτ,rfl,hraw,hkb,?_,rfl,?_,?_⟩
 ·show Γ (k + 4096 * AM ((AK args).run ⟨e,o,nv⟩)) = _
  rw [hrd]; exact hΓ
 ·show ((AK args).run ⟨e,o,nv⟩).all _ = true
  rw [hrd]; exact hw
 ·show φ ((AK args).run ⟨e,o,nv⟩ ++ []) ⟨e,o,nv⟩ _
  rw [hrd,List.append_nil]
  exact hφ nv _ ⟨_,.refl _,(h nv x hx).1 rfl⟩
theorem YT {T u dst k gi vi : Nat} {fa : Arg} {args : List Arg} {l s : List UInt8} (hf : Aa e fa = some (.clo k [])) (hds : Aj e args = [.mref gi vi,.str s]) (hkb : Nat.blt k 4096 = true) (hΓ : Γ k = some (Ue (Abb T u)))
  (ho : lkO o gi = some (vi,⟨true,false,0,2,TY T u l⟩)) (hq : l.length + s.length <= 16777216)
  (h : ∀ nn,TrO Γ r nn ⟨(dst,.tup [.int .i64 (s.length : Nat),.top]) :: e,(gi,some (vi,⟨true,false,0,2,TY T u (l ++ s)⟩)) :: o,nn⟩ false [] (Cj N K) t) :
  TrO Γ (⟨some dst,.call fa args,none,af⟩ :: r) nv ⟨e,o,n⟩ false acc (Cj N K) t :=
 Im (o':=(gi,some (vi,⟨true,false,0,2,TY T u (l ++ s)⟩)) :: o) (.tup [.int .i64 (s.length : Nat),.top]) hf hds rfl hkb hΓ (λnn K' hK=>⟨gi,vi,l,s,rfl,(by rw [AA]; exact ho),hq,hK⟩) h
theorem AbP {T u dst k gi vi : Nat} {fa : Arg} {args : List Arg} {l : List UInt8} (hf : Aa e fa = some (.clo k [])) (hds : Aj e args = [.mref gi vi]) (hkb : Nat.blt k 4096 = true) (hΓ : Γ k = some (Ue (AaX T u)))
  (ho : lkO o gi = some (vi,⟨true,false,0,2,TY T u l⟩)) (h : ∀ nn,TrO Γ r nn ⟨(dst,.int .i64 (l.length : Nat)) :: e,o,nn⟩ false [] (Cj N K) t) :
  TrO Γ (⟨some dst,.call fa args,none,af⟩ :: r) nv ⟨e,o,n⟩ false acc (Cj N K) t :=
 Im (o':=o) (.int .i64 (l.length : Nat)) hf hds rfl hkb hΓ (λnn K' hK=>⟨gi,vi,l,rfl,(by rw [AA]; exact ho),hK⟩) h
theorem AbQ {T u dst k gi vi : Nat} {fa : Arg} {args : List Arg} {l : List UInt8} (hf : Aa e fa = some (.clo k [])) (hds : Aj e args = [.mref gi vi]) (hkb : Nat.blt k 4096 = true) (hΓ : Γ k = some (Ue (AaZ T u)))
  (ho : lkO o gi = some (vi,⟨true,false,0,2,TY T u l⟩)) (hq : l ≠ []) (h : ∀ nn,TrO Γ r nn ⟨(dst,.str l) :: e,(gi,some (vi,⟨true,false,0,2,TY T u l⟩)) :: o,nn⟩ false [] (Cj N K) t) :
  TrO Γ (⟨some dst,.call fa args,none,af⟩ :: r) nv ⟨e,o,n⟩ false acc (Cj N K) t :=
 Im (o':=(gi,some (vi,⟨true,false,0,2,TY T u l⟩)) :: o) (.str l) hf hds rfl hkb hΓ (λnn K' hK=>⟨gi,vi,l,rfl,(by rw [AA]; exact ho),hq,hK⟩) h
end
end Go.Dw
namespace Go.Dw
theorem rf {α : Sort _} {a : α} : a = a:=rfl
abbrev M (d s : Nat) : As:=⟨some d,.mv (.t s),none,[]⟩
abbrev P (d : Nat) (o : DOp) : As:=⟨some d,o,none,[]⟩
abbrev T (n : Nat) : Arg:=.t n
abbrev C (n : Int) : Arg:=.c (.int .i64 n)
abbrev Pl (n : Int) : D:=.int .i64 n
abbrev Aar (n : Int) : D:=.int .u64 n
abbrev dW (v s t : Nat) (l : List D) : Option (Nat × Own):=some (v,⟨false,false,s,t,l⟩)
abbrev dV (v s t : Nat) (d : D) : Option (Nat × Own):=some (v,⟨false,true,s,t,[d]⟩)
end Go.Dw
namespace Go.Dw
open Go.Sort
def Iu (zs : List Int) : List Int:=Lib.compact zs ++ List.replicate (zs.length - (Lib.compact zs).length) 0
theorem ED (zs : List Int) : (Iu zs).take (Lib.compact zs).length = Lib.compact zs:=by simp [Iu]
def Acv (zs : List Int) : List Int:=zs.mergeSort λx y=>decide (x <= y)
@[simp] theorem Px (zs : List Int) : (Acv zs).length = zs.length:=List.length_mergeSort zs
end Go.Dw
namespace Go.Dw
open Go.ChangeShapes Go.WideShapes Go.ChangeAt Go.RowKit
end Go.Dw
namespace Go.Dw
open Go.ChangeShapes Go.WideShapes Go.ChangeAt Go.RowKit
section
variable {P : Program} {W : World} {t : TypeId}
theorem DD : ∀ {laid : List (String × DataW Unit)} {ps : List MemPlace} {i : Nat} {n : String} {d : DataW Unit},DataW.LaidVars P W laid ps -> laid[i]? = some (n,d) ->
  ∃ g t cs fuel p,P.globalNamed n = some g /\ (P.globals[g]?).map (·.type) = some t /\ W.var? P n = some cs /\ DataW.trod (λ_=>()) P W 0 (λ_=>true) false fuel t cs.toList = some (d,p)
 | [],_,i,n,d,_,hi=>by simp at hi
 | (n0,d0) :: r,ps,i,n,d,h,hi=>by
  obtain ⟨g,t,cs,fuel,p,q,h1,h2,h3,h4,hq,_⟩:=h
  rcases i with _ | i
  ·simp only [List.getElem?_cons_zero,Option.some.injEq,Prod.mk.injEq] at hi
   obtain ⟨rfl,rfl⟩:=hi
   exact ⟨g,t,cs,fuel,p,h1,h2,h3,h4⟩
  ·exact DD hq (by simpa using hi)
theorem Iz {laid : List (String × DataW Unit)} {i : Nat} {nm : String} {k : IntKind} {zs : List Int} {e : TypeId} {n g : Nat} (h : laidMet P laid W) (hi : laid[i]? = some (nm,.agg (zs.map λz=>.lit (.int k z))))
  (hg : P.globalNamed nm = some g) (ht : (P.globals[g]?).map (·.type) = some t) (ha : P.underlying t = some (.array n e)) (he : P.underlying e = some (.int k)) (hc : P.cellsOf e = 1) : IV P (Uc W) (nm,zs.map λz=>.int k z):=by
 obtain ⟨ps,hv,_⟩:=h
 obtain ⟨g0,t0,cs,fuel,p,hg0,ht0,hv0,hd0⟩:=DD hv hi
 obtain rfl:=Option.some.inj (hg.symm.trans hg0)
 obtain rfl:=Option.some.inj (ht.symm.trans ht0)
 obtain ⟨xs,m,rfl,hx,hlen,hn,hel⟩:=DataW.trod_array ha hd0
 simp only [Prod.mk.injEq,DataW.agg.injEq] at hx
 intro g' hg' j d hd
 obtain rfl:=Option.some.inj (hg.symm.trans hg')
 simp only [List.getElem?_map,Option.map_eq_some_iff] at hd
 obtain ⟨z,hz,rfl⟩:=hd
 have hzl : zs.length = n:=by have:=congrArg List.length hx.1; simp at this; omega
 have hj : j < n:=by have:=(List.getElem?_eq_some_iff.1 hz).1; omega
 have hej:=hel j hj
 rw [hc,List.getElem?_eq_getElem (show j < xs.length by omega)] at hej
 obtain ⟨z',e1,e2,_⟩:=DataW.trod_int he hej
 have hzz : z' = z:=by
  have:=congrArg (λl=>l[j]?) hx.1
  simp only [List.getElem?_map,hz,List.getElem?_eq_getElem (show j < xs.length by omega),Option.map_some,e2] at this
  simpa using this.symm
 subst hzz
 have hcs : cs[j]? = some (.int k z'):=by
  have h0 : ((cs.toList.drop (j * 1)).take 1)[0]? = some (.int k z'):=by rw [e1]; rfl
  simpa [List.getElem?_take,List.getElem?_drop] using h0
 refine ⟨.int k z',?_,rfl,.int _ _⟩
 show W.cell? ⟨g,j,none⟩ = _
 rw [World.var?_cell hg0 hv0 j,hcs]
theorem IA {laid : List (String × DataW Unit)} {i : Nat} {nm : String} {zs : List (List UInt8)} {e : TypeId} {n g : Nat} (h : laidMet P laid W) (hi : laid[i]? = some (nm,.agg (zs.map λz=>.lit (.string z))))
  (hg : P.globalNamed nm = some g) (ht : (P.globals[g]?).map (·.type) = some t) (ha : P.underlying t = some (.array n e)) (he : P.underlying e = some .string) (hc : P.cellsOf e = 1) : IV P (Uc W) (nm,zs.map .str):=by
 obtain ⟨ps,hv,_⟩:=h
 obtain ⟨g0,t0,cs,fuel,p,hg0,ht0,hv0,hd0⟩:=DD hv hi
 obtain rfl:=Option.some.inj (hg.symm.trans hg0)
 obtain rfl:=Option.some.inj (ht.symm.trans ht0)
 obtain ⟨xs,m,rfl,hx,hlen,hn,hel⟩:=DataW.trod_array ha hd0
 simp only [Prod.mk.injEq,DataW.agg.injEq] at hx
 intro g' hg' j d hd
 obtain rfl:=Option.some.inj (hg.symm.trans hg')
 simp only [List.getElem?_map,Option.map_eq_some_iff] at hd
 obtain ⟨z,hz,rfl⟩:=hd
 have hzl : zs.length = n:=by have:=congrArg List.length hx.1; simp at this; omega
 have hj : j < n:=by have:=(List.getElem?_eq_some_iff.1 hz).1; omega
 have hej:=hel j hj
 rw [hc,List.getElem?_eq_getElem (show j < xs.length by omega)] at hej
 obtain ⟨s,e1,e2,_⟩:=DataW.trod_string he hej
 have hzz : s.data.toList = z:=by
  have:=congrArg (λl=>l[j]?) hx.1
  simp only [List.getElem?_map,hz,List.getElem?_eq_getElem (show j < xs.length by omega),Option.map_some,e2] at this
  simpa using this.symm
 subst hzz
 have hcs : cs[j]? = some (.string s):=by
  have h0 : ((cs.toList.drop (j * 1)).take 1)[0]? = some (.string s):=by rw [e1]; rfl
  simpa [List.getElem?_take,List.getElem?_drop] using h0
 refine ⟨.string s,?_,rfl,.str s.data.toList⟩
 show W.cell? ⟨g,j,none⟩ = _
 rw [World.var?_cell hg0 hv0 j,hcs]
def JM (q : Int × Int × Int × Bool) : DataW Unit:=.agg [.lit (.int .i64 q.1),.lit (.int .i64 q.2.1),.lit (.int .i64 q.2.2.1),.lit (.bool q.2.2.2)]
structure LK (P : Program) (f0 f1 f2 f3 : Field) : Prop where
 u0 : P.underlying f0.type = some (.int .i64)
 u1 : P.underlying f1.type = some (.int .i64)
 u2 : P.underlying f2.type = some (.int .i64)
 u3 : P.underlying f3.type = some .bool
 o : f0.offset = 0 /\ f1.offset = 1 /\ f2.offset = 2 /\ f3.offset = 3
 c : P.cellsOf f0.type = 1 /\ P.cellsOf f1.type = 1 /\ P.cellsOf f2.type = 1 /\ P.cellsOf f3.type = 1
theorem Jn {α : Type} (c : α -> List D) (hc : ∀ q,(c q).length = 4) : ∀ (l : List α) (j : Nat) (d : D),(l.flatMap c)[j]? = some d -> ∃ q,l[j / 4]? = some q /\ (c q)[j % 4]? = some d
 | [],j,d,h=>by simp at h
 | q :: l,j,d,h=>by
  rw [List.flatMap_cons] at h
  by_cases hj : j < 4
  ·rw [List.getElem?_append_left (by rw [hc]; exact hj)] at h
   rw [Nat.div_eq_of_lt hj,Nat.mod_eq_of_lt hj]
   exact ⟨q,rfl,h⟩
  ·rw [List.getElem?_append_right (by rw [hc]; omega),hc] at h
   obtain ⟨q',h1,h2⟩:=Jn c hc l (j - 4) d h
   refine ⟨q',?_,by rw [show j % 4 = (j - 4) % 4 by omega]; exact h2⟩
   rw [show j / 4 = (j - 4) / 4 + 1 by omega]
   simpa using h1
theorem JW {laid : List (String × DataW Unit)} {i : Nat} {nm : String} {zs : List (Int × Int × Int × Bool)} {e : TypeId} {n g : Nat} {f0 f1 f2 f3 : Field} (h : laidMet P laid W) (hi : laid[i]? = some (nm,.agg (zs.map JM)))
  (hg : P.globalNamed nm = some g) (ht : (P.globals[g]?).map (·.type) = some t) (ha : P.underlying t = some (.array n e)) (he : P.underlying e = some (.struct #[f0,f1,f2,f3])) (hc : P.cellsOf e = 4) (hs : LK P f0 f1 f2 f3) : IV P (Uc W) (nm,zs.flatMap JL):=by
 obtain ⟨ps,hv,_⟩:=h
 obtain ⟨g0,t0,cs,fuel,p,hg0,ht0,hv0,hd0⟩:=DD hv hi
 obtain rfl:=Option.some.inj (hg.symm.trans hg0)
 obtain rfl:=Option.some.inj (ht.symm.trans ht0)
 obtain ⟨xs,m,rfl,hx,hlen,hn,hel⟩:=DataW.trod_array ha hd0
 simp only [Prod.mk.injEq,DataW.agg.injEq] at hx
 intro g' hg' j d hd
 obtain rfl:=Option.some.inj (hg.symm.trans hg')
 obtain ⟨q,hz,hd⟩:=Jn JL (λ_=>rfl) zs j d hd
 have hzl : zs.length = n:=by have:=congrArg List.length hx.1; simp at this; omega
 have hj : j / 4 < n:=by have:=(List.getElem?_eq_some_iff.1 hz).1; omega
 have hej:=hel (j / 4) hj
 rw [hc,List.getElem?_eq_getElem (show j / 4 < xs.length by omega)] at hej
 obtain ⟨ys,m',_,e2,hl4,hyl,hf⟩:=DataW.trod_struct he hej
 have hyl : ys.length = 4:=hyl
 have hq : ys.map (·.1) = [.lit (.int .i64 q.1),.lit (.int .i64 q.2.1),.lit (.int .i64 q.2.2.1),.lit (.bool q.2.2.2)]:=by
  have:=congrArg (λl=>l[j / 4]?) hx.1
  simp only [List.getElem?_map,hz,List.getElem?_eq_getElem (show j / 4 < xs.length by omega),Option.map_some,e2,Option.some.injEq] at this
  simpa [JM] using this.symm
 have gy : ∀ i,(hi : i < 4) -> ys[i]? = some (ys[i]'(by omega)):=λi hi=>List.getElem?_eq_getElem _
 have qy : ∀ i,(hi : i < 4) -> (ys.map (·.1))[i]? = some (ys[i]'(by omega)).1:=λi hi=>by rw [List.getElem?_map,gy i hi]; rfl
 have fin : ∀ (i : Nat) (v : Value),i < 4 -> (((cs.toList.drop (j / 4 * 4)).take 4).drop i).take 1 = [v] -> j % 4 = i -> W.cell? ⟨g,j,none⟩ = some v:=by
  intro i v hi4 hv hji
  have h0 : ((((cs.toList.drop (j / 4 * 4)).take 4).drop i).take 1)[0]? = some v:=by rw [hv]; rfl
  have hcs : cs[j]? = some v:=by
   simp only [List.getElem?_take,List.getElem?_drop] at h0
   have e : j / 4 * 4 + (i + 0) = j:=by omega
   rw [e] at h0
   simpa [hi4] using h0
  rw [World.var?_cell hg0 hv0 j,hcs]
 have hm4 : j % 4 < 4:=Nat.mod_lt _ (by decide)
 obtain ⟨o0,o1,o2,o3⟩:=hs.o
 obtain ⟨c0,c1,c2,c3⟩:=hs.c
 rcases (show j % 4 = 0 \/ j % 4 = 1 \/ j % 4 = 2 \/ j % 4 = 3 by omega) with hr | hr | hr | hr
 ·have z:=(hf 0 f0 rfl).trans (gy 0 (by omega))
  obtain ⟨k,y1,y2,_⟩:=DataW.trod_int hs.u0 z
  have:=qy 0 (by omega)
  rw [hq,y2] at this
  cases this
  rw [hr] at hd; cases hd
  rw [o0,c0] at y1
  exact ⟨_,fin 0 _ (by omega) y1 hr,rfl,.int _ _⟩
 ·have z:=(hf 1 f1 rfl).trans (gy 1 (by omega))
  obtain ⟨k,y1,y2,_⟩:=DataW.trod_int hs.u1 z
  have:=qy 1 (by omega)
  rw [hq,y2] at this
  cases this
  rw [hr] at hd; cases hd
  rw [o1,c1] at y1
  exact ⟨_,fin 1 _ (by omega) y1 hr,rfl,.int _ _⟩
 ·have z:=(hf 2 f2 rfl).trans (gy 2 (by omega))
  obtain ⟨k,y1,y2,_⟩:=DataW.trod_int hs.u2 z
  have:=qy 2 (by omega)
  rw [hq,y2] at this
  cases this
  rw [hr] at hd; cases hd
  rw [o2,c2] at y1
  exact ⟨_,fin 2 _ (by omega) y1 hr,rfl,.int _ _⟩
 ·have z:=(hf 3 f3 rfl).trans (gy 3 (by omega))
  obtain ⟨k,y1,y2⟩:=DataW.trod_bool hs.u3 z
  have:=qy 3 (by omega)
  rw [hq,y2] at this
  cases this
  rw [hr] at hd; cases hd
  rw [o3,c3] at y1
  exact ⟨_,fin 3 _ (by omega) y1 hr,rfl,.bool _⟩
theorem AaJ {laid : List (String × DataW Unit)} {g0 g1 g2 g3 g4 : Nat} {t0 t1 t2 t3 t4 e0 e1 e2 e3 e4 : TypeId} {i0 i1 i2 i3 i4 n0 n1 n2 n3 n4 : Nat} {f0 f1 f2 f3 : Field} (hL : laidMetH P laid W) (hn : (laid.all λx=>x.2.handleName?.isNone) = true)
  (a0 : laid[i0]? = some ("math/bits.deBruijn64tab",.agg ((Fm.map λn : Nat=>(n : Int)).map λz=>.lit (.int .u8 z)))) (a1 : laid[i1]? = some ("internal/strconv.uint64pow10",.agg (((List.range 20).map λi=>((10 ^ i : Nat) : Int)).map λz=>.lit (.int .u64 z))))
  (a2 : laid[i2]? = some ("spillframe/sirtext.names",.agg (TS.map λz=>.lit (.string z)))) (a3 : laid[i3]? = some ("spillframe/sirtext.forms",.agg (Tn.map λz=>.lit (.string z))))
  (a4 : laid[i4]? = some ("spillframe/sir.shapes",.agg (TL.map JM)))
  (b0 : P.globalNamed "math/bits.deBruijn64tab" = some g0 /\ (P.globals[g0]?).map (·.type) = some t0 /\ P.underlying t0 = some (.array n0 e0) /\ P.underlying e0 = some (.int .u8) /\ P.cellsOf e0 = 1)
  (b1 : P.globalNamed "internal/strconv.uint64pow10" = some g1 /\ (P.globals[g1]?).map (·.type) = some t1 /\ P.underlying t1 = some (.array n1 e1) /\ P.underlying e1 = some (.int .u64) /\ P.cellsOf e1 = 1)
  (b2 : P.globalNamed "spillframe/sirtext.names" = some g2 /\ (P.globals[g2]?).map (·.type) = some t2 /\ P.underlying t2 = some (.array n2 e2) /\ P.underlying e2 = some .string /\ P.cellsOf e2 = 1)
  (b3 : P.globalNamed "spillframe/sirtext.forms" = some g3 /\ (P.globals[g3]?).map (·.type) = some t3 /\ P.underlying t3 = some (.array n3 e3) /\ P.underlying e3 = some .string /\ P.cellsOf e3 = 1)
  (b4 : P.globalNamed "spillframe/sir.shapes" = some g4 /\ (P.globals[g4]?).map (·.type) = some t4 /\ P.underlying t4 = some (.array n4 e4) /\ P.underlying e4 = some (.struct #[f0,f1,f2,f3]) /\ P.cellsOf e4 = 4 /\ LK P f0 f1 f2 f3) : UJ P (Uc W):=by
 rw [MakeChecks.laidMetH_plain _ _ _ hn] at hL
 intro x hx
 simp only [CT,List.mem_cons,List.not_mem_nil,or_false] at hx
 rcases hx with rfl | rfl | rfl | rfl | rfl
 ·have:=Iz hL a0 b0.1 b0.2.1 b0.2.2.1 b0.2.2.2.1 b0.2.2.2.2
  rwa [List.map_map] at this
 ·have:=Iz hL a1 b1.1 b1.2.1 b1.2.2.1 b1.2.2.2.1 b1.2.2.2.2
  rwa [List.map_map] at this
 ·exact IA hL a2 b2.1 b2.2.1 b2.2.2.1 b2.2.2.2.1 b2.2.2.2.2
 ·exact IA hL a3 b3.1 b3.2.1 b3.2.2.1 b3.2.2.2.1 b3.2.2.2.2
 ·exact JW hL a4 b4.1 b4.2.1 b4.2.2.1 b4.2.2.2.1 b4.2.2.2.2.1 b4.2.2.2.2.2
end
end Go.Dw
