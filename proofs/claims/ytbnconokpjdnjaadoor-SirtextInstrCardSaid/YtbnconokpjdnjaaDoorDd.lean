/-
  THE LAYER: symbolic semantics of compiled code, and programs on typed data.
-/
import Derived.Test.YtbnconokpjdnjaaDoorDc
import Derived.Shelf.Spec.TrailingZeros
import Derived.Lib.ItoaNum
import Derived.Lib.Join
import Derived.Below
import Derived.Sort.Row
import Derived.Sort.Grow
import Derived.Lib.SlicesCompact
import Derived.LaidMore
import Derived.OpenShut
import Derived.MakeChecks
import Derived.Lib.TrailingZeros
import Derived.KernelRfl
namespace Go.Dw
structure Fz' (gs : List Nat) : Prop
theorem wf (gs : List Nat) {p : Prop} (h : Fz' gs -> p) : p:=h ⟨⟩
theorem NP {e E : List (Nat × D)} {o O : List (Nat × Ae)} {n : Nat} {gs : List Nat} (_ : Fz' gs) (hw : (gs.all λg=>match lkO o g with | some (_,p)=>!p.var | none=>false) = true) (hE : IZ e o n (Io o gs) E) (hO : Ja e o n (Io o gs) O) : Has ⟨e,o,n⟩ E O:=OJ gs hw hE hO
section
variable {Γ : At} {X Y : Type} {K : KR X} {KK : X -> Ay -> S -> Prop} {t t1 t2 : Option X} {m0 : Option Y} {kt : Y -> Option X} {pp : Prop} [Decidable pp] {bb wt : Bool} {σ : S} {nv tt m m2 m3 : Nat} {d : Bool} {acc : List CR}
 {r : List Az} {dst : Option Nat} {g : Option (Nat × Bool)} {af : List Nat} {op : DOp} {x y z : Arg} {xs : List Arg} {bo : BinOp} {uo : UnOp} {k : IntKind} {sl : Option (Nat × Nat)} {dd : D} {ds : List D} {ps : List (Nat × Arg)} {ps2 : List (Nat × Nat × Arg)} {lo hi : Option Arg} {c1 c2 : AV} {ex : Ay} {ptr : List (Nat × (Nat × Nat))} {encR : Y -> D} {encE : Y -> List D} {r0 : Bb} {rs : List Bb} {tB : Option Y} {ι γ : Type} {E : ι -> γ -> List (Nat × D)} {O : ι -> γ -> List (Nat × Ae)} {j : ι -> Option X}
theorem NA (h : TrO Γ (⟨dst,op,some (tt,wt),af⟩ :: r) nv σ d acc K t) : TrO Γ (⟨dst,op,some (tt,wt),af⟩ :: r) nv σ d acc K t:=h
theorem DF (h : TrO Γ r nv σ d acc K (Option.bind m0 kt)) : TrO Γ r nv σ d acc K (Option.bind m0 kt):=h
theorem Cy (h : TrO Γ r nv σ d acc K (chk pp t)) : TrO Γ r nv σ d acc K (chk pp t):=h
theorem PE (h : TrO Γ r nv σ d acc K (bif bb then t1 else t2)) : TrO Γ r nv σ d acc K (bif bb then t1 else t2):=h
theorem OP (h : Tr Γ (.cond x c1 c2) KK σ t) : Tr Γ (.cond x c1 c2) KK σ t:=h
theorem OV (h : TrX ex (BJ ptr .val [r0] encR encE) σ tB) : TrX ex (BJ ptr .val [r0] encR encE) σ tB:=h
theorem LY (h : TrX ex (BJ ptr .ground [r0] encR encE) σ tB) : TrX ex (BJ ptr .ground [r0] encR encE) σ tB:=h
theorem Oe (h : TrX ex (BJ ptr .val rs encR encE) σ tB) : TrX ex (BJ ptr .val rs encR encE) σ tB:=h
theorem Lj (h : TrX ex (BJ ptr .ground rs encR encE) σ tB) : TrX ex (BJ ptr .ground rs encR encE) σ tB:=h
theorem OT (h : TrX ex (BJ ptr (.row m m2) rs encR encE) σ tB) : TrX ex (BJ ptr (.row m m2) rs encR encE) σ tB:=h
theorem OR (h : TrX ex (BJ ptr (.ptr m m2) rs encR encE) σ tB) : TrX ex (BJ ptr (.ptr m m2) rs encR encE) σ tB:=h
theorem OU (h : TrX ex (BJ ptr (.tupPtr m m2 m3) rs encR encE) σ tB) : TrX ex (BJ ptr (.tupPtr m m2 m3) rs encR encE) σ tB:=h
theorem OY (h : TrX (.exit m) (Hj m2 KK) σ t) : TrX (.exit m) (Hj m2 KK) σ t:=h
theorem OZ (h : TrX (.exit m) (DI m2 E O j KK) σ t) : TrX (.exit m) (DI m2 E O j KK) σ t:=h
theorem LW (h : TrO Γ [] nv σ true acc K t) : TrO Γ [] nv σ true acc K t:=h
theorem OQ (h : TrO Γ (⟨dst,.mv x,g,af⟩ :: r) nv σ d acc K t) : TrO Γ (⟨dst,.mv x,g,af⟩ :: r) nv σ d acc K t:=h
theorem LU (h : TrO Γ (⟨dst,.fldA m x,g,af⟩ :: r) nv σ d acc K t) : TrO Γ (⟨dst,.fldA m x,g,af⟩ :: r) nv σ d acc K t:=h
theorem NC (h : TrO Γ (⟨dst,.ld m false x,g,af⟩ :: r) nv σ d acc K t) : TrO Γ (⟨dst,.ld m false x,g,af⟩ :: r) nv σ d acc K t:=h
theorem ND (h : TrO Γ (⟨dst,.ld m true x,g,af⟩ :: r) nv σ d acc K t) : TrO Γ (⟨dst,.ld m true x,g,af⟩ :: r) nv σ d acc K t:=h
theorem Nt (h : TrO Γ (⟨dst,.bin bo x y,g,af⟩ :: r) nv σ d acc K t) : TrO Γ (⟨dst,.bin bo x y,g,af⟩ :: r) nv σ d acc K t:=h
theorem Ns (h : TrO Γ (⟨dst,.asg x sl,g,af⟩ :: r) nv σ d acc K t) : TrO Γ (⟨dst,.asg x sl,g,af⟩ :: r) nv σ d acc K t:=h
theorem LX (h : TrO Γ (⟨dst,.pick x y z,g,af⟩ :: r) nv σ d acc K t) : TrO Γ (⟨dst,.pick x y z,g,af⟩ :: r) nv σ d acc K t:=h
theorem LR (h : TrO Γ (⟨dst,.call x xs,g,af⟩ :: r) nv σ d acc K t) : TrO Γ (⟨dst,.call x xs,g,af⟩ :: r) nv σ d acc K t:=h
theorem Nz (h : TrO Γ (⟨dst,.ext x m,g,af⟩ :: r) nv σ d acc K t) : TrO Γ (⟨dst,.ext x m,g,af⟩ :: r) nv σ d acc K t:=h
theorem NF (h : TrO Γ (⟨dst,.len bb x,g,af⟩ :: r) nv σ d acc K t) : TrO Γ (⟨dst,.len bb x,g,af⟩ :: r) nv σ d acc K t:=h
theorem NB (h : TrO Γ (⟨dst,.ixA m x y,g,af⟩ :: r) nv σ d acc K t) : TrO Γ (⟨dst,.ixA m x y,g,af⟩ :: r) nv σ d acc K t:=h
theorem OX (h : TrO Γ (⟨dst,.un uo x,g,af⟩ :: r) nv σ d acc K t) : TrO Γ (⟨dst,.un uo x,g,af⟩ :: r) nv σ d acc K t:=h
theorem Nv (h : TrO Γ (⟨dst,.box x m m2,g,af⟩ :: r) nv σ d acc K t) : TrO Γ (⟨dst,.box x m m2,g,af⟩ :: r) nv σ d acc K t:=h
theorem NJ (h : TrO Γ (⟨dst,.new dd m m2,g,af⟩ :: r) nv σ d acc K t) : TrO Γ (⟨dst,.new dd m m2,g,af⟩ :: r) nv σ d acc K t:=h
theorem OW (h : TrO Γ (⟨dst,.st m x y,g,af⟩ :: r) nv σ d acc K t) : TrO Γ (⟨dst,.st m x y,g,af⟩ :: r) nv σ d acc K t:=h
theorem LQ (h : TrO Γ (⟨dst,.bldS m m2 dd m3 ps,g,af⟩ :: r) nv σ d acc K t) : TrO Γ (⟨dst,.bldS m m2 dd m3 ps,g,af⟩ :: r) nv σ d acc K t:=h
theorem Nr (h : TrO Γ (⟨dst,.app m m2 m3 x y,g,af⟩ :: r) nv σ d acc K t) : TrO Γ (⟨dst,.app m m2 m3 x y,g,af⟩ :: r) nv σ d acc K t:=h
theorem Nu (h : TrO Γ (⟨dst,.bld ds ps2,g,af⟩ :: r) nv σ d acc K t) : TrO Γ (⟨dst,.bld ds ps2,g,af⟩ :: r) nv σ d acc K t:=h
theorem Nw (h : TrO Γ (⟨dst,.cvt k x,g,af⟩ :: r) nv σ d acc K t) : TrO Γ (⟨dst,.cvt k x,g,af⟩ :: r) nv σ d acc K t:=h
theorem NI (h : TrO Γ (⟨dst,.mkS m m2 m3 dd x y,g,af⟩ :: r) nv σ d acc K t) : TrO Γ (⟨dst,.mkS m m2 m3 dd x y,g,af⟩ :: r) nv σ d acc K t:=h
theorem Km (h : TrO Γ (⟨dst,.nilck x,g,af⟩ :: r) nv σ d acc K t) : TrO Γ (⟨dst,.nilck x,g,af⟩ :: r) nv σ d acc K t:=h
theorem LS (h : TrO Γ (⟨dst,.fld m m2 false x,g,af⟩ :: r) nv σ d acc K t) : TrO Γ (⟨dst,.fld m m2 false x,g,af⟩ :: r) nv σ d acc K t:=h
theorem LV (h : TrO Γ (⟨dst,.fld m m2 true x,g,af⟩ :: r) nv σ d acc K t) : TrO Γ (⟨dst,.fld m m2 true x,g,af⟩ :: r) nv σ d acc K t:=h
theorem Ny (h : TrO Γ (⟨dst,.eqB bb x y,g,af⟩ :: r) nv σ d acc K t) : TrO Γ (⟨dst,.eqB bb x y,g,af⟩ :: r) nv σ d acc K t:=h
theorem Nx (h : TrO Γ (⟨dst,.eqA m bb x y,g,af⟩ :: r) nv σ d acc K t) : TrO Γ (⟨dst,.eqA m bb x y,g,af⟩ :: r) nv σ d acc K t:=h
theorem NG (h : TrO Γ (⟨dst,.max xs,g,af⟩ :: r) nv σ d acc K t) : TrO Γ (⟨dst,.max xs,g,af⟩ :: r) nv σ d acc K t:=h
theorem NH (h : TrO Γ (⟨dst,.min xs,g,af⟩ :: r) nv σ d acc K t) : TrO Γ (⟨dst,.min xs,g,af⟩ :: r) nv σ d acc K t:=h
theorem NK (h : TrO Γ (⟨dst,.slc m x lo hi,g,af⟩ :: r) nv σ d acc K t) : TrO Γ (⟨dst,.slc m x lo hi,g,af⟩ :: r) nv σ d acc K t:=h
end
structure Hid (p : Prop) : Prop where
 h : p
theorem A (n : Nat) {p q : Prop} (hq : q) (f : Ct n -> Hid q -> p:=by
 intro c h
 repeat (
  replace c:=Ct.dec c
  first
  | ((with_reducible refine NA ?_); refine KT rfl ?_)
  | ((with_reducible refine OQ ?_); refine Mw rfl rfl ?_)
  | with_reducible refine KQ ?_
  | ((with_reducible refine LU ?_); first | refine JP rfl rfl ?_ | refine HX rfl rfl ?_)
  | ((with_reducible refine NC ?_); first | ((with_reducible refine DF ?_); refine QP λq hq=>Gz rfl rfl rfl (De hq) rfl ?_) | refine Gz rfl rfl rfl rfl rfl ?_ | refine Kd rfl rfl rfl ?_ | refine Gz rfl rfl rfl (De (by assumption)) rfl ?_)
  | ((with_reducible refine Nt ?_); first | ((with_reducible refine Cy ?_); first | refine Le λhq=>GC rfl rfl rfl rfl (by first | exact hq | exact ⟨rfl,hq⟩) ?_ | refine Le λhq=>DL rfl rfl rfl rfl hq ?_) | refine GC rfl rfl rfl rfl (by first | exact rfl | exact trivial | assumption | decide | exact ⟨rfl,by assumption⟩ | exact ⟨rfl,by decide⟩) ?_ | refine DL rfl rfl rfl rfl trivial ?_)
  | with_reducible refine MB ?_
  | with_reducible refine Mz ?_
  | with_reducible refine KU ?_
  | ((with_reducible refine Ns ?_); first | refine KF rfl rfl ?_ | ((with_reducible refine Cy ?_); refine Le λhq=>GU rfl rfl rfl hq ?_) | refine Iw inferInstance rfl rfl ?_ | refine HW rfl rfl ?_ | refine GV (by first | rfl | simp) rfl rfl rfl ?_ | refine HV (by first | rfl | simp) rfl rfl rfl ?_ | refine Gl rfl rfl rfl ?_)
  | with_reducible refine Fe ?_
  | with_reducible refine Hc ?_
  | with_reducible refine Gx ?_
  | with_reducible refine JR ?_
  | with_reducible refine KW ?_
  | with_reducible refine MA ?_
  | with_reducible refine KV ?_
  | with_reducible refine Ha ?_
  | with_reducible refine Hb ?_
  | with_reducible refine Gv ?_
  | with_reducible refine Gs ?_
  | with_reducible refine Gw ?_
  | with_reducible refine FM ?_
  | with_reducible refine Gu ?_
  | ((with_reducible refine OY ?_); refine Gt rfl ?_)
  | ((with_reducible refine OZ ?_); refine FL rfl ?_)
  | ((with_reducible refine OP ?_); first | refine Gy rfl ?_ | refine FN rfl ?_)
  | ((with_reducible refine LX ?_); first | refine FI rfl rfl rfl rfl ?_ | refine EZ rfl rfl rfl rfl ?_)
  | ((with_reducible refine LR ?_); first | ((with_reducible refine DF ?_); first | (refine FB rfl rfl rfl rfl rfl ?_ ?_ (λ_=>rfl) λ_ _=>?_; (· simp); (· (repeat' first | exact ⟨rfl,(by first | rfl | (simp only [Aa]; rfl) | (simp only [Ab]; rfl) | (simp only [Aa,Ab]; rfl))⟩ | refine exP ?_ | refine exU ?_ | apply Exists.intro | (dsimp only; exact ⟨rfl,(by first | rfl | (simp only [Aa]; rfl) | (simp only [Ab]; rfl) | (simp only [Aa,Ab]; rfl))⟩)))) | (refine Hz rfl rfl rfl rfl rfl ?_ ?_ λ_ _=>?_; (· simp); (· (repeat' first | exact ⟨rfl,(by first | rfl | (simp only [Aa]; rfl) | (simp only [Ab]; rfl) | (simp only [Aa,Ab]; rfl))⟩ | refine exP ?_ | refine exU ?_ | apply Exists.intro | (dsimp only; exact ⟨rfl,(by first | rfl | (simp only [Aa]; rfl) | (simp only [Ab]; rfl) | (simp only [Aa,Ab]; rfl))⟩)))) | (refine Hy rfl rfl rfl rfl rfl ?_ ?_ (λ_=>rfl) λ_ _=>?_; (· simp); (· (repeat' first | exact ⟨rfl,(by first | rfl | (simp only [Aa]; rfl) | (simp only [Ab]; rfl) | (simp only [Aa,Ab]; rfl))⟩ | refine exP ?_ | refine exU ?_ | apply Exists.intro | (dsimp only; exact ⟨rfl,(by first | rfl | (simp only [Aa]; rfl) | (simp only [Ab]; rfl) | (simp only [Aa,Ab]; rfl))⟩)))) | (refine GD rfl rfl rfl rfl rfl ?_ ?_ λ_ _=>?_; (· simp); (· (repeat' first | exact ⟨rfl,(by first | rfl | (simp only [Aa]; rfl) | (simp only [Ab]; rfl) | (simp only [Aa,Ab]; rfl))⟩ | refine exP ?_ | refine exU ?_ | apply Exists.intro | (dsimp only; exact ⟨rfl,(by first | rfl | (simp only [Aa]; rfl) | (simp only [Ab]; rfl) | (simp only [Aa,Ab]; rfl))⟩)))) | (refine Hx rfl rfl rfl rfl rfl ?_ ?_ λ_ _=>?_; (· simp); (· (repeat' first | exact ⟨rfl,(by first | rfl | (simp only [Aa]; rfl) | (simp only [Ab]; rfl) | (simp only [Aa,Ab]; rfl))⟩ | refine exP ?_ | refine exU ?_ | apply Exists.intro | (dsimp only; exact ⟨rfl,(by first | rfl | (simp only [Aa]; rfl) | (simp only [Ab]; rfl) | (simp only [Aa,Ab]; rfl))⟩))))) | (refine FC rfl rfl rfl rfl rfl (by assumption) ?_ ?_ rfl ?_; (· simp); (· (repeat' first | exact ⟨rfl,(by first | rfl | (simp only [Aa]; rfl) | (simp only [Ab]; rfl) | (simp only [Aa,Ab]; rfl))⟩ | refine exP ?_ | refine exU ?_ | apply Exists.intro | (dsimp only; exact ⟨rfl,(by first | rfl | (simp only [Aa]; rfl) | (simp only [Ab]; rfl) | (simp only [Aa,Ab]; rfl))⟩)))) | (refine HC rfl rfl rfl rfl rfl (by assumption) ?_ ?_ ?_; (· simp); (· (repeat' first | exact ⟨rfl,(by first | rfl | (simp only [Aa]; rfl) | (simp only [Ab]; rfl) | (simp only [Aa,Ab]; rfl))⟩ | refine exP ?_ | refine exU ?_ | apply Exists.intro | (dsimp only; exact ⟨rfl,(by first | rfl | (simp only [Aa]; rfl) | (simp only [Ab]; rfl) | (simp only [Aa,Ab]; rfl))⟩)))) | (refine HB rfl rfl rfl rfl rfl (by assumption) ?_ ?_ rfl ?_; (· simp); (· (repeat' first | exact ⟨rfl,(by first | rfl | (simp only [Aa]; rfl) | (simp only [Ab]; rfl) | (simp only [Aa,Ab]; rfl))⟩ | refine exP ?_ | refine exU ?_ | apply Exists.intro | (dsimp only; exact ⟨rfl,(by first | rfl | (simp only [Aa]; rfl) | (simp only [Ab]; rfl) | (simp only [Aa,Ab]; rfl))⟩)))) | (refine GF rfl rfl rfl rfl rfl (by assumption) ?_ ?_ ?_; (· simp); (· (repeat' first | exact ⟨rfl,(by first | rfl | (simp only [Aa]; rfl) | (simp only [Ab]; rfl) | (simp only [Aa,Ab]; rfl))⟩ | refine exP ?_ | refine exU ?_ | apply Exists.intro | (dsimp only; exact ⟨rfl,(by first | rfl | (simp only [Aa]; rfl) | (simp only [Ab]; rfl) | (simp only [Aa,Ab]; rfl))⟩)))) | (refine HA rfl rfl rfl rfl rfl (by assumption) ?_ ?_ ?_; (· simp); (· (repeat' first | exact ⟨rfl,(by first | rfl | (simp only [Aa]; rfl) | (simp only [Ab]; rfl) | (simp only [Aa,Ab]; rfl))⟩ | refine exP ?_ | refine exU ?_ | apply Exists.intro | (dsimp only; exact ⟨rfl,(by first | rfl | (simp only [Aa]; rfl) | (simp only [Ab]; rfl) | (simp only [Aa,Ab]; rfl))⟩)))) | ((with_reducible refine Cy ?_); first | refine Le λhq=>HY rfl rfl rfl rfl rfl (by first | rfl | simp) rfl hq rfl ?_ | refine Le λhq=>JQ rfl rfl rfl rfl rfl (by first | rfl | simp) rfl hq rfl ?_ | refine Le λhq=>Gq rfl rfl rfl rfl rfl (by first | rfl | simp) rfl hq (by exact EN _) rfl ?_))
  | ((with_reducible refine Nz ?_); refine KL rfl rfl rfl ?_)
  | ((with_reducible refine NF ?_); first | refine HZ rfl rfl ?_ | refine GY rfl rfl ?_ | refine GX rfl rfl ?_ | refine GZ rfl rfl ?_)
  | ((with_reducible refine NB ?_); first | ((with_reducible refine DF ?_); refine QP λq hq=>Ea rfl rfl rfl hq rfl ?_) | ((with_reducible refine Cy ?_); refine Le λhq=>GW (by first | rfl | simp) rfl rfl rfl rfl hq ?_) | refine Ea rfl rfl rfl (by assumption) rfl ?_)
  | ((with_reducible refine OX ?_); refine My rfl rfl rfl rfl trivial ?_)
  | ((with_reducible refine Nv ?_); refine KG rfl rfl rfl rfl rfl ?_)
  | ((with_reducible refine NJ ?_); refine KP rfl ?_)
  | ((with_reducible refine OW ?_); first | ((with_reducible refine DF ?_); refine QP λq hq=>DM rfl rfl rfl rfl rfl rfl rfl (by simp) hq rfl rfl rfl rfl rfl ?_) | refine Nn rfl rfl rfl rfl rfl rfl rfl rfl rfl ?_ | refine Np rfl rfl rfl rfl rfl rfl rfl rfl rfl (by repeat' first | exact EvL.nil rfl | apply EvL.cons rfl) ?_ | refine DM rfl rfl rfl rfl rfl rfl rfl (by simp) (by assumption) rfl rfl rfl rfl rfl ?_)
  | ((with_reducible refine ND ?_); first | ((with_reducible refine DF ?_); refine QP λq hq=>GA rfl rfl rfl (De hq) rfl (by repeat' first | exact EvL.nil rfl | apply EvL.cons rfl) ?_) | refine GA rfl rfl rfl rfl rfl (by repeat' first | exact EvL.nil rfl | apply EvL.cons rfl) ?_ | refine Ke rfl rfl rfl (by repeat' first | exact EvL.nil rfl | apply EvL.cons rfl) ?_ | refine GA rfl rfl rfl (De (by assumption)) rfl (by repeat' first | exact EvL.nil rfl | apply EvL.cons rfl) ?_)
  | ((with_reducible refine LQ ?_); refine Ka inferInstance rfl rfl rfl (by simp) rfl rfl rfl ?_)
  | ((with_reducible refine Nr ?_); ((with_reducible refine Cy ?_); refine Le λhq=>KE _ _ _ rfl rfl rfl rfl rfl rfl rfl (by first | (simp; done) | (simp; omega)) (by first | rfl | exact Cz _ _ rfl | exact Cz _ _ (by simp) | exact Gk _ _ _ | simp [List.map_take]) rfl rfl (by simp) (by first | rfl | exact Cu _ _ rfl | exact Cu _ _ (by simp)) (λ_=>rfl) rfl hq ?_))
  | ((with_reducible refine Nu ?_); refine Nl rfl (by repeat' first | apply EvP.cons rfl | exact EvP.nil rfl) rfl (by repeat' first | exact EvL.nil rfl | apply EvL.cons rfl) ?_)
  | ((with_reducible refine Nw ?_); refine KH rfl rfl ?_)
  | ((with_reducible refine NI ?_); ((with_reducible refine Cy ?_); refine Le λhq=>Nm inferInstance rfl rfl rfl rfl hq rfl ?_))
  | ((with_reducible refine Km ?_); refine IP rfl rfl rfl ?_)
  | ((with_reducible refine LS ?_); refine LG rfl rfl rfl ?_)
  | ((with_reducible refine LV ?_); refine LH rfl rfl rfl (by repeat' first | exact EvL.nil rfl | apply EvL.cons rfl) ?_)
  | ((with_reducible refine Ny ?_); first | refine Kb rfl rfl rfl ?_ | refine Kc rfl rfl rfl ?_)
  | ((with_reducible refine Nx ?_); refine KI rfl rfl rfl rfl (by repeat' first | exact trivial | refine ⟨rfl,?_⟩) rfl ?_)
  | ((with_reducible refine NG ?_); refine KN rfl rfl rfl ?_)
  | ((with_reducible refine NH ?_); refine KO rfl rfl rfl ?_)
  | ((with_reducible refine NK ?_); ((with_reducible refine Cy ?_); first | refine Le λhq=>FJ rfl rfl rfl (λ_=>rfl) rfl hq ?_ | refine Le λhq=>FK rfl rfl rfl (λ_=>rfl) rfl hq ?_ | refine Le λhq=>Fa (by first | rfl | simp) rfl rfl rfl rfl rfl hq ?_ | refine Le λhq=>Fb (by first | rfl | simp) rfl rfl rfl rfl rfl hq ?_ | refine Le λhq=>Ia rfl rfl rfl rfl (λ_=>rfl) rfl hq ?_))
  | ((with_reducible refine LW ?_); refine Gr (by kernel_rfl) ?_)
  )
 exact h.h) : p:=f ⟨⟩ ⟨hq⟩
theorem B {p : Prop} (h : p:=by
 repeat' first
 | ((with_reducible refine NA ?_); first | ((with_reducible refine PE ?_); refine NQ rfl ?_ ?_) | refine KT rfl ?_)
 | ((with_reducible refine OQ ?_); refine Mw rfl rfl ?_)
 | with_reducible refine KQ ?_
 | ((with_reducible refine LU ?_); first | refine JP rfl rfl ?_ | refine HX rfl rfl ?_)
 | ((with_reducible refine NC ?_); first | ((with_reducible refine DF ?_); refine QP λq hq=>Gz rfl rfl rfl (De hq) rfl ?_) | refine Gz rfl rfl rfl rfl rfl ?_ | refine Kd rfl rfl rfl ?_ | refine Gz rfl rfl rfl (De (by assumption)) rfl ?_)
 | ((with_reducible refine Nt ?_); first | ((with_reducible refine Cy ?_); first | refine Le λhq=>GC rfl rfl rfl rfl (by first | exact hq | exact ⟨rfl,hq⟩) ?_ | refine Le λhq=>DL rfl rfl rfl rfl hq ?_) | refine GC rfl rfl rfl rfl (by first | exact rfl | exact trivial | assumption | decide | exact ⟨rfl,by assumption⟩ | exact ⟨rfl,by decide⟩) ?_ | refine DL rfl rfl rfl rfl trivial ?_)
 | with_reducible refine MB ?_
 | with_reducible refine Mz ?_
 | with_reducible refine KU ?_
 | ((with_reducible refine Ns ?_); first | refine KF rfl rfl ?_ | ((with_reducible refine Cy ?_); refine Le λhq=>GU rfl rfl rfl hq ?_) | refine Iw inferInstance rfl rfl ?_ | refine HW rfl rfl ?_ | refine GV (by first | rfl | simp) rfl rfl rfl ?_ | refine HV (by first | rfl | simp) rfl rfl rfl ?_ | refine Gl rfl rfl rfl ?_)
 | with_reducible refine Fe ?_
 | with_reducible refine Hc ?_
 | with_reducible refine Gx ?_
 | with_reducible refine JR ?_
 | with_reducible refine KW ?_
 | with_reducible refine MA ?_
 | with_reducible refine KV ?_
 | with_reducible refine Ha ?_
 | with_reducible refine Hb ?_
 | with_reducible refine Gv ?_
 | with_reducible refine Gs ?_
 | with_reducible refine Gw ?_
 | with_reducible refine FM ?_
 | with_reducible refine Gu ?_
 | ((with_reducible refine OY ?_); refine Gt rfl ?_)
 | ((with_reducible refine OZ ?_); refine FL rfl ?_)
 | ((with_reducible refine OP ?_); first | refine Tx rfl ?_ ?_ | refine Gy rfl ?_ | refine FN rfl ?_)
 | ((with_reducible refine LX ?_); first | refine FI rfl rfl rfl rfl ?_ | refine EZ rfl rfl rfl rfl ?_)
 | ((with_reducible refine LR ?_); first | ((with_reducible refine DF ?_); first | (refine FB rfl rfl rfl rfl rfl ?_ ?_ (λ_=>rfl) λ_ _=>?_; (· simp); (· (repeat' first | exact ⟨rfl,(by first | rfl | (simp only [Aa]; rfl) | (simp only [Ab]; rfl) | (simp only [Aa,Ab]; rfl))⟩ | refine exP ?_ | refine exU ?_ | apply Exists.intro | (dsimp only; exact ⟨rfl,(by first | rfl | (simp only [Aa]; rfl) | (simp only [Ab]; rfl) | (simp only [Aa,Ab]; rfl))⟩)))) | (refine Hz rfl rfl rfl rfl rfl ?_ ?_ λ_ _=>?_; (· simp); (· (repeat' first | exact ⟨rfl,(by first | rfl | (simp only [Aa]; rfl) | (simp only [Ab]; rfl) | (simp only [Aa,Ab]; rfl))⟩ | refine exP ?_ | refine exU ?_ | apply Exists.intro | (dsimp only; exact ⟨rfl,(by first | rfl | (simp only [Aa]; rfl) | (simp only [Ab]; rfl) | (simp only [Aa,Ab]; rfl))⟩)))) | (refine Hy rfl rfl rfl rfl rfl ?_ ?_ (λ_=>rfl) λ_ _=>?_; (· simp); (· (repeat' first | exact ⟨rfl,(by first | rfl | (simp only [Aa]; rfl) | (simp only [Ab]; rfl) | (simp only [Aa,Ab]; rfl))⟩ | refine exP ?_ | refine exU ?_ | apply Exists.intro | (dsimp only; exact ⟨rfl,(by first | rfl | (simp only [Aa]; rfl) | (simp only [Ab]; rfl) | (simp only [Aa,Ab]; rfl))⟩)))) | (refine GD rfl rfl rfl rfl rfl ?_ ?_ λ_ _=>?_; (· simp); (· (repeat' first | exact ⟨rfl,(by first | rfl | (simp only [Aa]; rfl) | (simp only [Ab]; rfl) | (simp only [Aa,Ab]; rfl))⟩ | refine exP ?_ | refine exU ?_ | apply Exists.intro | (dsimp only; exact ⟨rfl,(by first | rfl | (simp only [Aa]; rfl) | (simp only [Ab]; rfl) | (simp only [Aa,Ab]; rfl))⟩)))) | (refine Hx rfl rfl rfl rfl rfl ?_ ?_ λ_ _=>?_; (· simp); (· (repeat' first | exact ⟨rfl,(by first | rfl | (simp only [Aa]; rfl) | (simp only [Ab]; rfl) | (simp only [Aa,Ab]; rfl))⟩ | refine exP ?_ | refine exU ?_ | apply Exists.intro | (dsimp only; exact ⟨rfl,(by first | rfl | (simp only [Aa]; rfl) | (simp only [Ab]; rfl) | (simp only [Aa,Ab]; rfl))⟩))))) | (refine FC rfl rfl rfl rfl rfl (by assumption) ?_ ?_ rfl ?_; (· simp); (· (repeat' first | exact ⟨rfl,(by first | rfl | (simp only [Aa]; rfl) | (simp only [Ab]; rfl) | (simp only [Aa,Ab]; rfl))⟩ | refine exP ?_ | refine exU ?_ | apply Exists.intro | (dsimp only; exact ⟨rfl,(by first | rfl | (simp only [Aa]; rfl) | (simp only [Ab]; rfl) | (simp only [Aa,Ab]; rfl))⟩)))) | (refine HC rfl rfl rfl rfl rfl (by assumption) ?_ ?_ ?_; (· simp); (· (repeat' first | exact ⟨rfl,(by first | rfl | (simp only [Aa]; rfl) | (simp only [Ab]; rfl) | (simp only [Aa,Ab]; rfl))⟩ | refine exP ?_ | refine exU ?_ | apply Exists.intro | (dsimp only; exact ⟨rfl,(by first | rfl | (simp only [Aa]; rfl) | (simp only [Ab]; rfl) | (simp only [Aa,Ab]; rfl))⟩)))) | (refine HB rfl rfl rfl rfl rfl (by assumption) ?_ ?_ rfl ?_; (· simp); (· (repeat' first | exact ⟨rfl,(by first | rfl | (simp only [Aa]; rfl) | (simp only [Ab]; rfl) | (simp only [Aa,Ab]; rfl))⟩ | refine exP ?_ | refine exU ?_ | apply Exists.intro | (dsimp only; exact ⟨rfl,(by first | rfl | (simp only [Aa]; rfl) | (simp only [Ab]; rfl) | (simp only [Aa,Ab]; rfl))⟩)))) | (refine GF rfl rfl rfl rfl rfl (by assumption) ?_ ?_ ?_; (· simp); (· (repeat' first | exact ⟨rfl,(by first | rfl | (simp only [Aa]; rfl) | (simp only [Ab]; rfl) | (simp only [Aa,Ab]; rfl))⟩ | refine exP ?_ | refine exU ?_ | apply Exists.intro | (dsimp only; exact ⟨rfl,(by first | rfl | (simp only [Aa]; rfl) | (simp only [Ab]; rfl) | (simp only [Aa,Ab]; rfl))⟩)))) | (refine HA rfl rfl rfl rfl rfl (by assumption) ?_ ?_ ?_; (· simp); (· (repeat' first | exact ⟨rfl,(by first | rfl | (simp only [Aa]; rfl) | (simp only [Ab]; rfl) | (simp only [Aa,Ab]; rfl))⟩ | refine exP ?_ | refine exU ?_ | apply Exists.intro | (dsimp only; exact ⟨rfl,(by first | rfl | (simp only [Aa]; rfl) | (simp only [Ab]; rfl) | (simp only [Aa,Ab]; rfl))⟩)))) | ((with_reducible refine Cy ?_); first | refine Le λhq=>HY rfl rfl rfl rfl rfl (by first | rfl | simp) rfl hq rfl ?_ | refine Le λhq=>JQ rfl rfl rfl rfl rfl (by first | rfl | simp) rfl hq rfl ?_ | refine Le λhq=>Gq rfl rfl rfl rfl rfl (by first | rfl | simp) rfl hq (by exact EN _) rfl ?_))
 | ((with_reducible refine Nz ?_); refine KL rfl rfl rfl ?_)
 | ((with_reducible refine NF ?_); first | refine HZ rfl rfl ?_ | refine GY rfl rfl ?_ | refine GX rfl rfl ?_ | refine GZ rfl rfl ?_)
 | ((with_reducible refine NB ?_); first | ((with_reducible refine DF ?_); refine QP λq hq=>Ea rfl rfl rfl hq rfl ?_) | ((with_reducible refine Cy ?_); refine Le λhq=>GW (by first | rfl | simp) rfl rfl rfl rfl hq ?_) | refine Ea rfl rfl rfl (by assumption) rfl ?_)
 | ((with_reducible refine OX ?_); refine My rfl rfl rfl rfl trivial ?_)
 | ((with_reducible refine Nv ?_); refine KG rfl rfl rfl rfl rfl ?_)
 | ((with_reducible refine NJ ?_); refine KP rfl ?_)
 | ((with_reducible refine OW ?_); first | ((with_reducible refine DF ?_); refine QP λq hq=>DM rfl rfl rfl rfl rfl rfl rfl (by simp) hq rfl rfl rfl rfl rfl ?_) | refine Nn rfl rfl rfl rfl rfl rfl rfl rfl rfl ?_ | refine Np rfl rfl rfl rfl rfl rfl rfl rfl rfl (by repeat' first | exact EvL.nil rfl | apply EvL.cons rfl) ?_ | refine DM rfl rfl rfl rfl rfl rfl rfl (by simp) (by assumption) rfl rfl rfl rfl rfl ?_)
 | ((with_reducible refine ND ?_); first | ((with_reducible refine DF ?_); refine QP λq hq=>GA rfl rfl rfl (De hq) rfl (by repeat' first | exact EvL.nil rfl | apply EvL.cons rfl) ?_) | refine GA rfl rfl rfl rfl rfl (by repeat' first | exact EvL.nil rfl | apply EvL.cons rfl) ?_ | refine Ke rfl rfl rfl (by repeat' first | exact EvL.nil rfl | apply EvL.cons rfl) ?_ | refine GA rfl rfl rfl (De (by assumption)) rfl (by repeat' first | exact EvL.nil rfl | apply EvL.cons rfl) ?_)
 | ((with_reducible refine LQ ?_); refine Ka inferInstance rfl rfl rfl (by simp) rfl rfl rfl ?_)
 | ((with_reducible refine Nr ?_); ((with_reducible refine Cy ?_); refine Le λhq=>KE _ _ _ rfl rfl rfl rfl rfl rfl rfl (by first | (simp; done) | (simp; omega)) (by first | rfl | exact Cz _ _ rfl | exact Cz _ _ (by simp) | exact Gk _ _ _ | simp [List.map_take]) rfl rfl (by simp) (by first | rfl | exact Cu _ _ rfl | exact Cu _ _ (by simp)) (λ_=>rfl) rfl hq ?_))
 | ((with_reducible refine Nu ?_); refine Nl rfl (by repeat' first | apply EvP.cons rfl | exact EvP.nil rfl) rfl (by repeat' first | exact EvL.nil rfl | apply EvL.cons rfl) ?_)
 | ((with_reducible refine Nw ?_); refine KH rfl rfl ?_)
 | ((with_reducible refine NI ?_); ((with_reducible refine Cy ?_); refine Le λhq=>Nm inferInstance rfl rfl rfl rfl hq rfl ?_))
 | ((with_reducible refine Km ?_); refine IP rfl rfl rfl ?_)
 | ((with_reducible refine LS ?_); refine LG rfl rfl rfl ?_)
 | ((with_reducible refine LV ?_); refine LH rfl rfl rfl (by repeat' first | exact EvL.nil rfl | apply EvL.cons rfl) ?_)
 | ((with_reducible refine Ny ?_); first | refine Kb rfl rfl rfl ?_ | refine Kc rfl rfl rfl ?_)
 | ((with_reducible refine Nx ?_); refine KI rfl rfl rfl rfl (by repeat' first | exact trivial | refine ⟨rfl,?_⟩) rfl ?_)
 | ((with_reducible refine NG ?_); refine KN rfl rfl rfl ?_)
 | ((with_reducible refine NH ?_); refine KO rfl rfl rfl ?_)
 | ((with_reducible refine NK ?_); ((with_reducible refine Cy ?_); first | refine Le λhq=>FJ rfl rfl rfl (λ_=>rfl) rfl hq ?_ | refine Le λhq=>FK rfl rfl rfl (λ_=>rfl) rfl hq ?_ | refine Le λhq=>Fa (by first | rfl | simp) rfl rfl rfl rfl rfl hq ?_ | refine Le λhq=>Fb (by first | rfl | simp) rfl rfl rfl rfl rfl hq ?_ | refine Le λhq=>Ia rfl rfl rfl rfl (λ_=>rfl) rfl hq ?_))
 | ((with_reducible refine LW ?_); refine Gr (by kernel_rfl) ?_)
 | ((with_reducible refine OV ?_); exact Oq rfl (by first | (simp; done) | (simp; omega) | rfl | (simp [Bu,Bi]; done)) (by first | rfl | (simp only [Aa]; rfl) | (simp only [Ab]; rfl) | (simp only [Aa,Ab]; rfl)) rfl (by first | (simp; done) | (simp; omega) | rfl | (simp [Bu,Bi]; done)) (by first | rfl | (simp only [Aa]; rfl) | (simp only [Ab]; rfl) | (simp only [Aa,Ab]; rfl)))
 | ((with_reducible refine Oe ?_); exact JV rfl (by first | (simp; done) | (simp; omega) | rfl | (simp [Bu,Bi]; done)) (by first | rfl | (simp only [Aa]; rfl) | (simp only [Ab]; rfl) | (simp only [Aa,Ab]; rfl)) rfl (by first | (simp; done) | (simp; omega) | rfl | (simp [Bu,Bi]; done)) (by first | rfl | (simp only [Aa]; rfl) | (simp only [Ab]; rfl) | (simp only [Aa,Ab]; rfl)) (by decide))
 | ((with_reducible refine LY ?_); exact Lu rfl (by first | (simp; done) | (simp; omega) | rfl | (simp [Bu,Bi]; done)) (by first | rfl | (simp only [Aa]; rfl) | (simp only [Ab]; rfl) | (simp only [Aa,Ab]; rfl)) rfl (by first | (simp; done) | (simp; omega) | rfl | (simp [Bu,Bi]; done)) (by first | rfl | (simp only [Aa]; rfl) | (simp only [Ab]; rfl) | (simp only [Aa,Ab]; rfl)))
 | ((with_reducible refine Lj ?_); exact It rfl (by first | (simp; done) | (simp; omega) | rfl | (simp [Bu,Bi]; done)) (by first | rfl | (simp only [Aa]; rfl) | (simp only [Ab]; rfl) | (simp only [Aa,Ab]; rfl)) rfl (by first | (simp; done) | (simp; omega) | rfl | (simp [Bu,Bi]; done)) (by first | rfl | (simp only [Aa]; rfl) | (simp only [Ab]; rfl) | (simp only [Aa,Ab]; rfl)) (by decide))
 | ((with_reducible refine OT ?_); exact Oo rfl (by first | (simp; done) | (simp; omega) | rfl | (simp [Bu,Bi]; done)) (by first | rfl | (simp only [Aa]; rfl) | (simp only [Ab]; rfl) | (simp only [Aa,Ab]; rfl)) rfl (by first | (simp; done) | (simp; omega) | rfl | (simp [Bu,Bi]; done)) rfl (by first | (simp; done) | (simp; omega) | rfl | (simp [Bu,Bi]; done)) (congrArg D.sl (Cu _ _ (by first | rfl | simp))) rfl)
 | ((with_reducible refine OR ?_); exact On rfl (by first | (simp; done) | (simp; omega) | rfl | (simp [Bu,Bi]; done)) rfl (by first | (simp; done) | (simp; omega) | rfl | (simp [Bu,Bi]; done)) (by first | rfl | (simp only [Aa]; rfl) | (simp only [Ab]; rfl) | (simp only [Aa,Ab]; rfl)) rfl (by first | (simp; done) | (simp; omega) | rfl | (simp [Bu,Bi]; done)) (by first | rfl | (simp only [Aa]; rfl) | (simp only [Ab]; rfl) | (simp only [Aa,Ab]; rfl)))
 | ((with_reducible refine OU ?_); exact Lv (by decide) (by decide) rfl (by first | (simp; done) | (simp; omega) | rfl | (simp [Bu,Bi]; done)) rfl (by first | (simp; done) | (simp; omega) | rfl | (simp [Bu,Bi]; done)) rfl (by first | (simp; done) | (simp; omega) | rfl | (simp [Bu,Bi]; done)) rfl (by first | (simp; done) | (simp; omega) | rfl | (simp [Bu,Bi]; done)) (by first | rfl | (simp only [Aa]; rfl) | (simp only [Ab]; rfl) | (simp only [Aa,Ab]; rfl)) rfl (by first | (simp; done) | (simp; omega) | rfl | (simp [Bu,Bi]; done)) rfl)
 | with_reducible refine PC ?_
 | with_reducible refine IU ?_
 | with_reducible refine JT ?_
 | with_reducible refine OK ?_
 | refine NP (by assumption) rfl ?_ ?_
 | refine SM ?_ ?_
 | exact trivial
 | refine ⟨rfl,?_⟩
 | refine ⟨Ok rfl (by simp),?_⟩
 | refine ⟨LL rfl,?_⟩
 | refine ⟨DO (Es _ rfl),?_⟩
 | refine ⟨DO (Et rfl (by first | rfl | simp) rfl (by first | exact .head _ | exact .tail _ (.head _) | exact .tail _ (.tail _ (.head _)) | exact .tail _ (.tail _ (.tail _ (.head _))))),?_⟩
 | refine ⟨DO (FT rfl (by omega) rfl (by first | exact .head _ | exact .tail _ (.head _) | exact .tail _ (.tail _ (.head _)) | exact .tail _ (.tail _ (.tail _ (.head _))))),?_⟩
 | refine ⟨Jn rfl (by repeat' first | exact trivial | refine ⟨HF rfl,?_⟩ | refine ⟨Es _ rfl,?_⟩ | refine ⟨Et rfl (by first | rfl | simp) rfl (by first | exact .head _ | exact .tail _ (.head _) | exact .tail _ (.tail _ (.head _)) | exact .tail _ (.tail _ (.tail _ (.head _)))),?_⟩ | refine ⟨FT rfl (by omega) rfl (by first | exact .head _ | exact .tail _ (.head _) | exact .tail _ (.tail _ (.head _)) | exact .tail _ (.tail _ (.tail _ (.head _)))),?_⟩),?_⟩
 | refine ⟨.inl rfl,?_⟩
 | refine ⟨.inr ⟨_,_,_,_,rfl,rfl,rfl,rfl,Jn rfl (by repeat' first | exact trivial | refine ⟨HF rfl,?_⟩ | refine ⟨Es _ rfl,?_⟩ | refine ⟨Et rfl (by first | rfl | simp) rfl (by first | exact .head _ | exact .tail _ (.head _) | exact .tail _ (.tail _ (.head _)) | exact .tail _ (.tail _ (.tail _ (.head _)))),?_⟩ | refine ⟨FT rfl (by omega) rfl (by first | exact .head _ | exact .tail _ (.head _) | exact .tail _ (.tail _ (.head _)) | exact .tail _ (.tail _ (.tail _ (.head _)))),?_⟩)⟩,?_⟩
 | refine ⟨.inr ⟨_,_,_,_,rfl,rfl,rfl,rfl,DO (Es _ rfl)⟩,?_⟩
 | refine ⟨.inr ⟨_,_,_,_,rfl,rfl,rfl,rfl,DO (Et rfl (by first | rfl | simp) rfl (by first | exact .head _ | exact .tail _ (.head _) | exact .tail _ (.tail _ (.head _)) | exact .tail _ (.tail _ (.tail _ (.head _)))))⟩,?_⟩
 | refine exP ?_
 | refine exU ?_
 | apply Exists.intro
 ) : p:=h
end Go.Dw
namespace Go.Dw
inductive FrL : List D -> List D -> Prop
 | nil : FrL [] []
 | same (c : D) {l l' : List D} (h : FrL l l') : FrL (c :: l) (c :: l')
 | row {s ty : Nat} {es l l' : List D} (hp : ∀ q ∈ es,AF q = true) (h : FrL l l') : FrL (.row s ty es :: l) (.sl es :: l')
inductive Jd : List D -> List D -> Prop
 | nil : Jd [] []
 | same {c : D} (hc : plain c = true) {l l' : List D} (h : Jd l l') : Jd (c :: l) (c :: l')
 | row {s ty : Nat} {l l' : List D} (hs : 0 < s) (h : Jd l l') : Jd (.nils :: l) (.row s ty [] :: l')
section
variable {Γ : At} {X : Type} {K : KR X} {t : Option X} {e : List (Nat × D)} {o : List (Nat × Ae)} {n nv : Nat} {d : Bool} {acc : List CR}
 {r : List Az} {g : Option (Nat × Bool)} {af : List Nat} {α : Type} {x y : Arg} {s ty gi vi off : Nat} {z z' : D} {l : List α} {en : α -> D}
end
end Go.Dw
namespace Go.Dw
section
variable {α : Type} {c : α -> List D} {w : Nat}
variable (hw : ∀ q,(c q).length = w)
include hw
end
section
variable {Γ : At} {X : Type} {K : KR X} {t : Option X} {e : List (Nat × D)} {o : List (Nat × Ae)} {n nv : Nat} {d : Bool} {acc : List CR}
 {r : List Az} {dst : Nat} {g : Option (Nat × Bool)} {af : List Nat} {α : Type}
variable {x y : Arg} {v z z' : D} {s ty gi vi off w j : Nat} {fz var : Bool} {l : List α} {c : α -> List D} {q q' : α}
end
end Go.Dw
namespace Go.Dw
open Go
section
variable {Γ : At} {R : Type} {K : R -> Ay -> S -> Prop} {t : Option R} {σ τ : S} {b : AV}
def KY (Γ : At) (b : AV) (Q : Ay -> S -> Prop) : Nat -> S -> Prop
 | 0,_=>False
 | m + 1,σ=>DWp Γ b (Ay.then (λτ=>∃ τ',Chg τ τ' /\ KY Γ b Q m τ') Q) σ
theorem KY.loop {Q : Ay -> S -> Prop} {m : Nat} (h : KY Γ b Q m σ) : DWp Γ (.loop b) Q σ:=by
 refine ⟨{ p : Nat × S // KY Γ b Q p.1 p.2 },λp=>p.1.2,λp=>p.1.1,⟨(m,σ),h⟩,.refl _,?_⟩
 rintro ⟨⟨k,σ⟩,h⟩
 simp only at h
 cases k with
 | zero=>exact h.elim
 | succ k =>
  refine BG b _ _ _ (λe τ hq=>?_) h
  cases e with
  | normal =>
   obtain ⟨τ',h1,h2⟩:=hq
   exact ⟨⟨(k,τ'),h2⟩,Nat.lt_succ_self k,h1⟩
  | exit id=>exact hq
  | ret=>exact hq
end
section
variable {α : Type} {Γ : At} {X : Type} {K : KR X} {t : Option X} {r : List Az} {nv n : Nat} {e : List (Nat × D)} {o : List (Nat × Ae)} {d : Bool} {acc : List CR} {g : Option (Nat × Bool)} {af : List Nat} {dst : Nat} {x y : Arg} {w : D} {gi vi ty : Nat}
def Sn (l : List Int) : List UInt8:=l.map λn=>UInt8.ofNat n.toNat
theorem Un {k : IntKind} {m : Int} (hg : gOn e g = true) (hx : Ac e x = some (.int k m)) (h : TrO Γ r (nv + 1) ⟨(dst,.str (Si m)) :: e,o,n⟩ d (acc ++ [(gK g ++ rdK x,[.e dst],af)]) K t) :
  TrO Γ (⟨some dst,.i2s x,g,af⟩ :: r) nv ⟨e,o,n⟩ d acc K t :=
 Am hg (c:=True) (we:=[(dst,.str (Si m))]) (wo:=[]) (rd:=rdK x) (by simp only [evalOp,R.run_bind,Al,Option.getD_some,hx,Bk,R.run_pure,Af]) (by simp only [evalOp,R.AK,Al,AX,Option.getD_some,hx,Bk,R.Bp,List.append_nil]) trivial h
theorem Um {c : Prop} {new : List D} {rk : List Key} (l : List Int) (hg : gOn e g = true) (hx : Ac e x = some w) (hww : strip w = (true,w))
  (hv : (view w).run ⟨e,o,n⟩ = (c,new)) (hvr : (view w).rd ⟨e,o,n⟩ = rk) (hc : c) (hn : new = l.map (.int .u8))
  (h : TrO Γ r (nv + 1) ⟨(dst,.str (Sn l)) :: e,o,n⟩ d (acc ++ [(gK g ++ (rdK x ++ rk),[.e dst],af)]) K t) :
  TrO Γ (⟨some dst,.b2s x,g,af⟩ :: r) nv ⟨e,o,n⟩ d acc K t:=by
 subst hn
 have hb : (l.map (D.int .u8)).map Fh = Sn l:=by simp [Fh,Sn]
 refine Am hg (c:=True /\ c /\ ∀ e ∈ l.map (D.int .u8),∃ n,e = .int .u8 n) (we:=[(dst,.str (Sn l))]) (wo:=[]) (rd:=rdK x ++ rk) ?_ ?_ ⟨trivial,hc,λz hz=>by obtain ⟨u,_,rfl⟩:=List.mem_map.1 hz; exact ⟨u,rfl⟩⟩ h
 ·simp only [evalOp,R.run_bind,Al,Option.getD_some,hx,hww,hv,R.run_pure,Af,hb]
 ·simp only [evalOp,R.AK,Al,AX,Option.getD_some,hx,hww,hv,hvr,R.Bp,List.append_nil]
theorem Tw {k : IntKind} {m : Int} {kt kk len : Nat} {sp : Spec} (l : List α) (en : α -> D) (hds : DV kt = l.map en) (hlen : l.length = len) (hg : gOn e g = true) (hy : Ac e y = some (.int k m)) (hi : 0 <= m /\ m < len) (hΓ : Γ kk = some sp)
  (h : TrO Γ r (nv + 1) ⟨(dst,.fptr (.agg (l.map en)) m.toNat) :: e,o,n⟩ d (acc ++ [(gK g ++ rdK y,[.e dst],af)]) K t) :
  TrO Γ (⟨some dst,.ixG kt y,g,af⟩ :: r) nv ⟨e,o,n⟩ d acc K t:=by
 rw [<- hds] at h; subst hlen
 have hl : (DV kt).length = l.length:=by rw [hds,List.length_map]
 refine Am hg (c:=True /\ 0 <= m /\ m < (DV kt).length /\ ∃ k sp,Γ k = some sp) (we:=[(dst,.fptr (.agg (DV kt)) m.toNat)]) (wo:=[]) (rd:=rdK y) ?_ ?_ ⟨trivial,hi.1,by rw [hl]; exact hi.2,kk,sp,hΓ⟩ h
 ·simp only [evalOp,R.run_bind,Al,Option.getD_some,hy,Bk,R.run_pure,Af]
 ·simp only [evalOp,R.AK,Al,AX,Option.getD_some,hy,Bk,R.Bp,List.append_nil]
end
section
variable {A B : Type} {Γ : At} {X : Type} {K : KR X} {t : Option X} {r : List Az} {nv n : Nat} {e : List (Nat × D)} {o : List (Nat × Ae)} {d : Bool} {acc : List CR} {g : Option (Nat × Bool)} {af : List Nat} {dst q : Nat} {x y fa : Arg} {gi vi ty len : Nat} {caps ds : List D} {c : Prop} {w : List (Nat × Ae)} {ps : List (Nat × Nat × Own)} {rk : List Key}
 {ptr : List (Nat × (Nat × Nat))} {enc : A -> List D} {dec : List D -> A} {f : A -> Option B} {encR : B -> D} {encE : B -> List D} {b : B}
section
attribute [local simp] evalOp Af AM strip
end
end
end Go.Dw
namespace Go.Dw
open Go.Proofs
def SL (x : Int) : Option Int:=chk (0 <= x /\ x < 18446744073709551616) (some ((Lib.ctz 64 x.toNat : Nat) : Int))
def En (a : Int) : List D:=[.int .u64 a]
def Fw (ds : List D) : Int:=uI (ds.getD 0 .top)
theorem KX (a : Int) : Fw (En a) = a:=rfl
instance : Rn En Fw:=⟨KX⟩
def MD (b : Int) : D:=.int .i64 b
def MC (_b : Int) : List D:=[]
def TN : Dw.Spec:=Av [] .ground En Fw (λa=>SL a) MD MC
theorem Ng : Fx = Lib.deBruijn64tab:=by decide
theorem TO {P : Program} {f g : Nat} (he : Ec P f) (hg : P.globalNamed "math/bits.deBruijn64tab" = some g)
  (h : ∀ (x : Nat) (w : World),x < 18446744073709551616 -> (x ≠ 0 -> TabAt g Lib.deBruijn64tab w) -> Calls P f #[.int .u64 (x : Int)] w λe w'=>e = .returned (.int .i64 (Lib.ctz 64 x : Nat)) /\ w' = w) : Lo P f TN:=by
 intro F0 hG
 refine ⟨he,λq hq=>(by cases hq),λ_ _ w F ds vs M hsub hF hfin hA hp=>?_,λφ hφ=>(by cases hφ),hG⟩
 obtain ⟨a,b,rfl,hb⟩:=hp
 have hr : 0 <= a /\ a < 18446744073709551616:=by
  by_cases hr : 0 <= a /\ a < 18446744073709551616
  ·exact hr
  ·simp [SL,chk,hr] at hb
 have hfa : SL a = some ((Lib.ctz 64 a.toNat : Nat) : Int):=by simp [SL,chk,hr]
 have hb' : (λa=>SL a) a = some ((Lib.ctz 64 a.toNat : Nat) : Int):=hfa
 cases hA with
 | ptr j d ds xs M m hp=>cases hp
 | val j d ds x xs M hp hn hx hr' =>
  cases hx
  cases hr'
  have ht : a.toNat ≠ 0 -> TabAt g Lib.deBruijn64tab w:=λ_ j hj=>by
   have hj' : j < 64:=by
    have : Lib.deBruijn64tab.length = 64:=by decide
    omega
   rw [<- Ng]
   exact hF _ _ _ (hsub _ _ _ (hG.tz hg j hj'))
  have key:=h a.toNat w (by omega) ht
  have e1 : ((a.toNat : Nat) : Int) = a:=by omega
  rw [e1] at key
  refine key.mono ?_
  rintro e w' ⟨rfl,rfl⟩
  refine ⟨_,F,λ_ _ _=>False,λ_=>False,rfl,hF,hfin,Stp.refl _ _ _,?_,⟨λk m hm=>by simp at hm,λ_ _ _ h=>h.elim,λ_ _ _ h=>h.elim,λ_ _ _ _ _ h=>h.elim,λ_ _ _ _ h=>h.elim⟩,λ_ _ _ h=>h.elim⟩
  show Fro F ((Av [] .ground En Fw (λa=>SL a) MD MC).res (En a)) _
  rw [BP KX hb']
  exact .int _ _
end Go.Dw
namespace Go.Dw
open Go.RowKit
def SV (n : Int) : Option (List UInt8):=chk (-9223372036854775808 <= n /\ n <= 9223372036854775807) (some (Lib.itoa n))
def SU (u b : Int) : Option (List UInt8):=chk (0 <= u /\ u < 18446744073709551616)<|chk (b = 10) (some (Lib.decDigits u.toNat))
def SW (l : List (List UInt8)) (s : List UInt8) : Option (List UInt8):=chk (l.length <= 140737488355328)<|chk ((Lib.join l s).length <= 140737488355328) (some (Lib.join l s))
def Ga (a : Int) : List D:=[.int .i64 a]
def FZ (ds : List D) : Int:=uI (ds.getD 0 .top)
theorem Jw (a : Int) : FZ (Ga a) = a:=rfl
instance : Rn Ga FZ:=⟨Jw⟩
def EW (b : List UInt8) : D:=.str b
def EV (_b : List UInt8) : List D:=[]
def SF : Dw.Spec:=Av [] .ground Ga FZ (λa=>SV a) EW EV
def FW (a : Int × Int) : List D:=[.int .u64 a.1,.int .i64 a.2]
def FV (ds : List D) : Int × Int:=(uI (ds.getD 0 .top),uI (ds.getD 1 .top))
theorem Jr (a : Int × Int) : FV (FW a) = a:=rfl
instance : Rn FW FV:=⟨Jr⟩
def SE : Dw.Spec:=Av [] .ground FW FV (λa=>SU a.1 a.2) EW EV
def Ew (a : List (List UInt8) × List UInt8) : List D:=[.sl (a.1.map D.str),.str a.2]
def Ev (ds : List D) : List (List UInt8) × List UInt8:=((uL uS) (ds.getD 0 .top),uS (ds.getD 1 .top))
theorem Jx (a : List (List UInt8) × List UInt8) : Ev (Ew a) = a:=by simp [Ev,Ew,uS,Qr (u:=uS) (en:=D.str) (λ_=>rfl)]
instance : Rn Ew Ev:=⟨Jx⟩
def SG : Dw.Spec:=Av [] .ground Ew Ev (λa=>SW a.1 a.2) EW EV
theorem Fg {P : Program} {k : Nat} {A : Type} {enc : A -> List D} {dec : List D -> A} {f : A -> Option (List UInt8)} (hde : ∀ a,dec (enc a) = a) (he : Ec P k)
  (h : ∀ F0,Rx P F0 -> ∀ a b,f a = some b -> ∀ (w : World) (F : Fz) (vs : List Value) (M : List Hd),Ai F0 F -> Fok F w -> (∀ b i x,F b i = some x -> b < w.heap.size) -> Cd F w [] 0 (enc a) vs M ->
   Calls P k vs.toArray w λe w'=>e = .returned (.string ⟨b.toArray⟩) /\ Below w.heap.size w w') : Lo P k (Av [] .ground enc dec f EW EV):=by
 intro F0 hG
 refine ⟨he,λq hq=>(by cases hq),λ_ _ w F ds vs M hsub hF hfin hA hp=>?_,λφ hφ=>(by cases hφ),hG⟩
 obtain ⟨a,b,rfl,hb⟩:=hp
 have hM:=Dh rfl hA
 subst hM
 refine (h F0 hG a b hb w F vs [] hsub hF hfin hA).mono ?_
 rintro e w' ⟨rfl,hw⟩
 refine ⟨_,F,λ_ _ _=>False,λ_=>False,rfl,λb i x hx=>?_,λb i x hx=>Nat.lt_of_lt_of_le (hfin b i x hx) hw.size,⟨hw.os,hw.tape,hw.output,hw.size,λb hb _=>hw.block b hb,Ai.refl _,λ_ _ _ _=>rfl⟩,?_,
  ⟨λk m hm=>by simp at hm,λ_ _ _ h=>h.elim,λ_ _ _ h=>h.elim,λ_ _ _ _ _ h=>h.elim,λ_ _ _ _ h=>h.elim⟩,λ_ _ _ h=>h.elim⟩
 ·rw [hw.cell (p:=⟨b,i,none⟩) (hfin b i x hx)]
  exact hF b i x hx
 ·show Fro F ((Av [] .ground enc dec f EW EV).res (enc a)) _
  rw [BP hde hb]
  exact .str _
theorem Rx.pow {P : Program} {F : Fz} (h : Rx P F) {g : Nat} (hg : P.globalNamed "internal/strconv.uint64pow10" = some g) (j : Nat) (hj : j < 20) : F g j = some (.int .u64 ((10 ^ j : Nat) : Int)):=by
 obtain ⟨x,h1,_,h3⟩:=h (CZ.getD 1 ("",[])) (by simp [CZ]) g hg j (.int .u64 ((10 ^ j : Nat) : Int)) (by simp [CZ,hj])
 cases h3
 exact h1
def Nj (g : Nat) (w : World) : Prop:=∀ j : Nat,j < 20 -> w.cell? ⟨g,j,none⟩ = some (.int .u64 ((10 ^ j : Nat) : Int))
theorem DN {α : Type} {p : Prop} [Decidable p] {x : Option α} {b : α} (h : chk p x = some b) : p /\ x = some b:=by
 unfold chk at h
 split at h
 ·rename_i hp; exact ⟨hp,h⟩
 ·cases h
theorem TB {P : Program} {f g : Nat} (he : Ec P f) (hg : P.globalNamed "internal/strconv.uint64pow10" = some g)
  (h : ∀ (n : Int),-9223372036854775808 <= n -> n <= 9223372036854775807 -> ∀ w : World,Nj g w -> Calls P f #[.int .i64 n] w λe w'=>e = .returned (.string ⟨(Lib.itoa n).toArray⟩) /\ Below w.heap.size w w') : Lo P f SF:=by
 refine Fg Jw he λF0 hG a b hb w F vs M hsub hF _ hA=>?_
 obtain ⟨hr,hb⟩:=DN hb
 cases hb
 cases hA with
 | ptr j d ds xs M m hp=>cases hp
 | val j d ds x xs M hp hn hx hr' =>
  cases hx
  cases hr'
  exact h a hr.1 hr.2 w λj hj=>hF _ _ _ (hsub _ _ _ (hG.pow hg j hj))
theorem Tz {P : Program} {f g : Nat} (he : Ec P f) (hg : P.globalNamed "internal/strconv.uint64pow10" = some g)
  (h : ∀ (u : Nat),u < 18446744073709551616 -> ∀ w : World,Nj g w -> Calls P f #[.int .u64 u,.int .i64 10] w λe w'=>e = .returned (.string ⟨(Lib.decDigits u).toArray⟩) /\ Below w.heap.size w w') : Lo P f SE:=by
 refine Fg Jr he λF0 hG a b hb w F vs M hsub hF _ hA=>?_
 obtain ⟨x,y⟩:=a
 obtain ⟨hr,hb⟩:=DN hb
 obtain ⟨hq,hb'⟩:=DN hb
 cases hb'
 dsimp only at hr hq
 subst hq
 cases hA with
 | ptr j d ds xs M m hp=>cases hp
 | val j d ds x' xs M hp hn hx hr' =>
  cases hx
  cases hr' with
  | ptr j d ds xs M m hp=>cases hp
  | val j d ds x' xs M hp hn hx hr' =>
   cases hx
   cases hr'
   have key:=h x.toNat (by omega) w λj hj=>hF _ _ _ (hsub _ _ _ (hG.pow hg j hj))
   rw [show ((x.toNat : Nat) : Int) = x by omega] at key
   exact key
theorem TC {P : Program} {f : Nat} (he : Ec P f)
  (h0 : ∀ (a : Option Addr) (c : Nat) (s : ByteArray) (w : World),Calls P f #[.slice a 0 c,.string s] w λe w'=>e = .returned (.string ⟨#[]⟩) /\ w' = w)
  (h : ∀ (b o c : Nat) (xs : List ByteArray) (s : ByteArray) (w : World),(∀ (j : Nat) x,xs[j]? = some x -> w.cell? ⟨b,o + j,none⟩ = some (.string x)) -> b < w.heap.size -> xs.length <= 140737488355328 -> xs.length <= c -> (Lib.join (xs.map (·.data.toList)) s.data.toList).length <= 140737488355328 ->
   Calls P f #[.slice (some ⟨b,o,none⟩) xs.length c,.string s] w λe w'=>e = .returned (.string ⟨(Lib.join (xs.map (·.data.toList)) s.data.toList).toArray⟩) /\ Below w.heap.size w w') : Lo P f SG:=by
 refine Fg Jx he λF0 hG a b hb w F vs M hsub hF hfin hA=>?_
 obtain ⟨l,s⟩:=a
 obtain ⟨hr,hb⟩:=DN hb
 obtain ⟨hq,hb'⟩:=DN hb
 cases hb'
 dsimp only at hr hq ⊢
 have none_ : ∀ a c,l = [] -> Calls P f #[.slice a 0 c,.string ⟨s.toArray⟩] w λe w'=>e = .returned (.string ⟨(Lib.join l s).toArray⟩) /\ Below w.heap.size w w':=λa c e=>by
  subst e
  exact (h0 a c _ w).mono λe w' ⟨h1,h2⟩=>⟨h1,h2 ▸ Below.refl _ _⟩
 cases hA with
 | ptr j d ds xs M m hp=>cases hp
 | val j d ds x' xs M hp hn hx hr' =>
  cases hr' with
  | ptr j d ds xs M m hp=>cases hp
  | val j d ds x'' xs M hp hn' hx' hr' =>
   cases hx'
   cases hr'
   dsimp only at hx
   generalize hes : l.map D.str = es at hx
   cases hx with
   | sl0 a c=>exact none_ a c (List.map_eq_nil_iff.1 hes)
   | sl es b o c k vf hc hs hcl h1 hv =>
    subst hes
    rw [List.length_map] at hc ⊢
    rcases Nat.eq_zero_or_pos l.length with h0' | h0'
    ·rw [h0']
     exact none_ _ c (List.length_eq_zero_iff.1 h0')
    have hk : k = 1:=by
     have:=hs (D.str (l[0]'h0')) (List.mem_map.2 ⟨_,List.getElem_mem h0',rfl⟩)
     exact this.symm
    subst hk
    have hce : ∀ (j : Nat) x,l[j]? = some x -> F b (o + j) = some (.string ⟨x.toArray⟩):=λj x hx=>by
     have a1 : (l.map D.str)[j]? = some (D.str x):=by rw [List.getElem?_map,hx]; rfl
     have a2:=hcl j 0 _ _ a1 rfl
     have a3:=hv j 0 _ _ a1 rfl
     rw [Nat.mul_one,Nat.add_zero] at a2
     rw [a2]
     generalize vf j 0 = z at a3
     cases a3
     rfl
    have key:=h b o c (l.map λs=>(⟨s.toArray⟩ : ByteArray)) ⟨s.toArray⟩ w (λj x hx=>by
     rw [List.getElem?_map,Option.map_eq_some_iff] at hx
     obtain ⟨y,hy,rfl⟩:=hx
     exact hF _ _ _ (hce j y hy)) (hfin _ _ _ (hce 0 _ (List.getElem?_eq_getElem h0'))) (by rw [List.length_map]; exact hr) (by rw [List.length_map]; exact hc)
    have e : (l.map λs=>(⟨s.toArray⟩ : ByteArray)).map (·.data.toList) = l:=by simp [Function.comp_def]
    rw [e,List.length_map] at key
    exact key hq
end Go.Dw
namespace Go.Dw
theorem rf {α : Sort _} {a : α} : a = a:=rfl
abbrev M (d s : Nat) : Az:=⟨some d,.mv (.t s),none,[]⟩
abbrev P (d : Nat) (o : DOp) : Az:=⟨some d,o,none,[]⟩
abbrev T (n : Nat) : Arg:=.t n
abbrev C (n : Int) : Arg:=.c (.int .i64 n)
abbrev Su (n : Int) : D:=.int .i64 n
abbrev Us (n : Int) : D:=.int .u64 n
abbrev dW (v s t : Nat) (l : List D) : Option (Nat × Own):=some (v,⟨false,false,s,t,l⟩)
abbrev dV (v s t : Nat) (d : D) : Option (Nat × Own):=some (v,⟨false,true,s,t,[d]⟩)
end Go.Dw
namespace Go.Dw
open Go.Sort
def Iy (zs : List Int) : List Int:=Lib.compact zs ++ List.replicate (zs.length - (Lib.compact zs).length) 0
theorem EN (zs : List Int) : (Iy zs).take (Lib.compact zs).length = Lib.compact zs:=by simp [Iy]
def UA (zs : List Int) : List Int:=zs.mergeSort λx y=>decide (x <= y)
@[simp] theorem Pm (zs : List Int) : (UA zs).length = zs.length:=List.length_mergeSort zs
end Go.Dw
namespace Go.Dw
open Go.ChangeShapes Go.WideShapes Go.ChangeAt Go.RowKit
end Go.Dw
namespace Go.Dw
open Go.ChangeShapes Go.WideShapes Go.ChangeAt Go.RowKit
section
variable {P : Program} {W : World} {t : TypeId}
theorem Rd.Ul {T T0 T1 T2 T3 T4 : Type} {f0 f1 f2 f3 f4 : Field} {en : T -> D} {e0 : T0 -> D} {e1 : T1 -> D} {e2 : T2 -> D} {e3 : T3 -> D} {e4 : T4 -> D} {Q : T -> Prop} {Q0 : T0 -> Prop} {Q1 : T1 -> Prop} {Q2 : T2 -> Prop} {Q3 : T3 -> Prop} {Q4 : T4 -> Prop}
  (mk : T0 -> T1 -> T2 -> T3 -> T4 -> T) (ht : P.underlying t = some (.struct #[f0,f1,f2,f3,f4])) (o0 : f0.offset = 0) (o1 : f1.offset = P.cellsOf f0.type) (o2 : f2.offset = P.cellsOf f0.type + P.cellsOf f1.type)
  (o3 : f3.offset = P.cellsOf f0.type + P.cellsOf f1.type + P.cellsOf f2.type) (o4 : f4.offset = P.cellsOf f0.type + P.cellsOf f1.type + P.cellsOf f2.type + P.cellsOf f3.type)
  (hsz : P.cellsOf t = P.cellsOf f0.type + P.cellsOf f1.type + P.cellsOf f2.type + P.cellsOf f3.type + P.cellsOf f4.type) (h0 : Rd P W f0.type e0 Q0) (h1 : Rd P W f1.type e1 Q1) (h2 : Rd P W f2.type e2 Q2) (h3 : Rd P W f3.type e3 Q3) (h4 : Rd P W f4.type e4 Q4)
  (hmk : ∀ a b c d e,cells (en (mk a b c d e)) = cells (e0 a) ++ (cells (e1 b) ++ (cells (e2 c) ++ (cells (e3 d) ++ cells (e4 e))))) (hQ : ∀ a b c d e,Q0 a -> Q1 b -> Q2 c -> Q3 d -> Q4 e -> Q (mk a b c d e)) : Rd P W t en Q:=by
 refine ⟨λn cs x h=>?_⟩
 obtain ⟨xs,m,_,_,hl,hlen,hf⟩:=DataW.trod_struct ht h
 have hlen : xs.length = 5:=hlen
 have g : ∀ i,(hi : i < 5) -> xs[i]? = some (xs[i]'(by omega)):=λi hi=>List.getElem?_eq_getElem _
 obtain ⟨a,q0,r0⟩:=h0.rd m _ _ ((hf 0 f0 rfl).trans (g 0 (by omega)))
 obtain ⟨b,q1,r1⟩:=h1.rd m _ _ ((hf 1 f1 rfl).trans (g 1 (by omega)))
 obtain ⟨c,q2,r2⟩:=h2.rd m _ _ ((hf 2 f2 rfl).trans (g 2 (by omega)))
 obtain ⟨d,q3,r3⟩:=h3.rd m _ _ ((hf 3 f3 rfl).trans (g 3 (by omega)))
 obtain ⟨e,q4,r4⟩:=h4.rd m _ _ ((hf 4 f4 rfl).trans (g 4 (by omega)))
 refine ⟨mk a b c d e,hQ a b c d e q0 q1 q2 q3 q4,?_⟩
 rw [hmk]
 have:=r0.append (r1.append (r2.append (r3.append r4)))
 have e4 : List.take (P.cellsOf f4.type) (List.drop (P.cellsOf f0.type + P.cellsOf f1.type + P.cellsOf f2.type + P.cellsOf f3.type) cs) = List.drop (P.cellsOf f0.type + P.cellsOf f1.type + P.cellsOf f2.type + P.cellsOf f3.type) cs:=List.take_of_length_le (by simp; omega)
 rw [o0,o1,o2,o3,o4,e4,Ft,Ft,Ft,List.drop_zero,List.take_append_drop] at this
 exact this
theorem ED : ∀ {laid : List (String × DataW Unit)} {ps : List MemPlace} {i : Nat} {n : String} {d : DataW Unit},DataW.LaidVars P W laid ps -> laid[i]? = some (n,d) ->
  ∃ g t cs fuel p,P.globalNamed n = some g /\ (P.globals[g]?).map (·.type) = some t /\ W.var? P n = some cs /\ DataW.trod (λ_=>()) P W 0 (λ_=>true) false fuel t cs.toList = some (d,p)
 | [],_,i,n,d,_,hi=>by simp at hi
 | (n0,d0) :: r,ps,i,n,d,h,hi=>by
  obtain ⟨g,t,cs,fuel,p,q,h1,h2,h3,h4,hq,_⟩:=h
  rcases i with _ | i
  ·simp only [List.getElem?_cons_zero,Option.some.injEq,Prod.mk.injEq] at hi
   obtain ⟨rfl,rfl⟩:=hi
   exact ⟨g,t,cs,fuel,p,h1,h2,h3,h4⟩
  ·exact ED hq (by simpa using hi)
theorem IC {laid : List (String × DataW Unit)} {i : Nat} {nm : String} {k : IntKind} {zs : List Int} {e : TypeId} {n g : Nat} (h : laidMet P laid W) (hi : laid[i]? = some (nm,.agg (zs.map λz=>.lit (.int k z))))
  (hg : P.globalNamed nm = some g) (ht : (P.globals[g]?).map (·.type) = some t) (ha : P.underlying t = some (.array n e)) (he : P.underlying e = some (.int k)) (hc : P.cellsOf e = 1) : KZ P (Rq W) (nm,zs.map λz=>.int k z):=by
 obtain ⟨ps,hv,_⟩:=h
 obtain ⟨g0,t0,cs,fuel,p,hg0,ht0,hv0,hd0⟩:=ED hv hi
 obtain rfl:=Option.some.inj (hg.symm.trans hg0)
 obtain rfl:=Option.some.inj (ht.symm.trans ht0)
 obtain ⟨xs,m,rfl,hx,hlen,hn,hel⟩:=DataW.trod_array ha hd0
 simp only [Prod.mk.injEq,DataW.agg.injEq] at hx
 intro g' hg' j d hd
 obtain rfl:=Option.some.inj (hg.symm.trans hg')
 simp only [List.getElem?_map,Option.map_eq_some_iff] at hd
 obtain ⟨z,hz,rfl⟩:=hd
 have hzl : zs.length = n:=by have:=congrArg List.length hx.1; simp at this; omega
 have hj : j < n:=by have:=(List.getElem?_eq_some_iff.1 hz).1; omega
 have hej:=hel j hj
 rw [hc,List.getElem?_eq_getElem (show j < xs.length by omega)] at hej
 obtain ⟨z',e1,e2,_⟩:=DataW.trod_int he hej
 have hzz : z' = z:=by
  have:=congrArg (λl=>l[j]?) hx.1
  simp only [List.getElem?_map,hz,List.getElem?_eq_getElem (show j < xs.length by omega),Option.map_some,e2] at this
  simpa using this.symm
 subst hzz
 have hcs : cs[j]? = some (.int k z'):=by
  have h0 : ((cs.toList.drop (j * 1)).take 1)[0]? = some (.int k z'):=by rw [e1]; rfl
  simpa [List.getElem?_take,List.getElem?_drop] using h0
 refine ⟨.int k z',?_,rfl,.int _ _⟩
 show W.cell? ⟨g,j,none⟩ = _
 rw [World.var?_cell hg0 hv0 j,hcs]
theorem ID {laid : List (String × DataW Unit)} {i : Nat} {nm : String} {zs : List (List UInt8)} {e : TypeId} {n g : Nat} (h : laidMet P laid W) (hi : laid[i]? = some (nm,.agg (zs.map λz=>.lit (.string z))))
  (hg : P.globalNamed nm = some g) (ht : (P.globals[g]?).map (·.type) = some t) (ha : P.underlying t = some (.array n e)) (he : P.underlying e = some .string) (hc : P.cellsOf e = 1) : KZ P (Rq W) (nm,zs.map .str):=by
 obtain ⟨ps,hv,_⟩:=h
 obtain ⟨g0,t0,cs,fuel,p,hg0,ht0,hv0,hd0⟩:=ED hv hi
 obtain rfl:=Option.some.inj (hg.symm.trans hg0)
 obtain rfl:=Option.some.inj (ht.symm.trans ht0)
 obtain ⟨xs,m,rfl,hx,hlen,hn,hel⟩:=DataW.trod_array ha hd0
 simp only [Prod.mk.injEq,DataW.agg.injEq] at hx
 intro g' hg' j d hd
 obtain rfl:=Option.some.inj (hg.symm.trans hg')
 simp only [List.getElem?_map,Option.map_eq_some_iff] at hd
 obtain ⟨z,hz,rfl⟩:=hd
 have hzl : zs.length = n:=by have:=congrArg List.length hx.1; simp at this; omega
 have hj : j < n:=by have:=(List.getElem?_eq_some_iff.1 hz).1; omega
 have hej:=hel j hj
 rw [hc,List.getElem?_eq_getElem (show j < xs.length by omega)] at hej
 obtain ⟨s,e1,e2,_⟩:=DataW.trod_string he hej
 have hzz : s.data.toList = z:=by
  have:=congrArg (λl=>l[j]?) hx.1
  simp only [List.getElem?_map,hz,List.getElem?_eq_getElem (show j < xs.length by omega),Option.map_some,e2] at this
  simpa using this.symm
 subst hzz
 have hcs : cs[j]? = some (.string s):=by
  have h0 : ((cs.toList.drop (j * 1)).take 1)[0]? = some (.string s):=by rw [e1]; rfl
  simpa [List.getElem?_take,List.getElem?_drop] using h0
 refine ⟨.string s,?_,rfl,.str s.data.toList⟩
 show W.cell? ⟨g,j,none⟩ = _
 rw [World.var?_cell hg0 hv0 j,hcs]
theorem TH {laid : List (String × DataW Unit)} {g0 g1 g2 g3 : Nat} {t0 t1 t2 t3 e0 e1 e2 e3 : TypeId} {i0 i1 i2 i3 n0 n1 n2 n3 : Nat} (hL : laidMetH P laid W) (hn : (laid.all λx=>x.2.handleName?.isNone) = true)
  (a0 : laid[i0]? = some ("math/bits.deBruijn64tab",.agg ((Fx.map λn : Nat=>(n : Int)).map λz=>.lit (.int .u8 z)))) (a1 : laid[i1]? = some ("internal/strconv.uint64pow10",.agg (((List.range 20).map λi=>((10 ^ i : Nat) : Int)).map λz=>.lit (.int .u64 z))))
  (a2 : laid[i2]? = some ("spillframe/sirtext.names",.agg (Rk.map λz=>.lit (.string z)))) (a3 : laid[i3]? = some ("spillframe/sirtext.forms",.agg (Rg.map λz=>.lit (.string z))))
  (b0 : P.globalNamed "math/bits.deBruijn64tab" = some g0 /\ (P.globals[g0]?).map (·.type) = some t0 /\ P.underlying t0 = some (.array n0 e0) /\ P.underlying e0 = some (.int .u8) /\ P.cellsOf e0 = 1)
  (b1 : P.globalNamed "internal/strconv.uint64pow10" = some g1 /\ (P.globals[g1]?).map (·.type) = some t1 /\ P.underlying t1 = some (.array n1 e1) /\ P.underlying e1 = some (.int .u64) /\ P.cellsOf e1 = 1)
  (b2 : P.globalNamed "spillframe/sirtext.names" = some g2 /\ (P.globals[g2]?).map (·.type) = some t2 /\ P.underlying t2 = some (.array n2 e2) /\ P.underlying e2 = some .string /\ P.cellsOf e2 = 1)
  (b3 : P.globalNamed "spillframe/sirtext.forms" = some g3 /\ (P.globals[g3]?).map (·.type) = some t3 /\ P.underlying t3 = some (.array n3 e3) /\ P.underlying e3 = some .string /\ P.cellsOf e3 = 1) : Rx P (Rq W):=by
 rw [MakeChecks.laidMetH_plain _ _ _ hn] at hL
 intro x hx
 simp only [CZ,List.mem_cons,List.not_mem_nil,or_false] at hx
 rcases hx with rfl | rfl | rfl | rfl
 ·have:=IC hL a0 b0.1 b0.2.1 b0.2.2.1 b0.2.2.2.1 b0.2.2.2.2
  rwa [List.map_map] at this
 ·have:=IC hL a1 b1.1 b1.2.1 b1.2.2.1 b1.2.2.2.1 b1.2.2.2.2
  rwa [List.map_map] at this
 ·exact ID hL a2 b2.1 b2.2.1 b2.2.2.1 b2.2.2.2.1 b2.2.2.2.2
 ·exact ID hL a3 b3.1 b3.2.1 b3.2.2.1 b3.2.2.2.1 b3.2.2.2.2
end
end Go.Dw
