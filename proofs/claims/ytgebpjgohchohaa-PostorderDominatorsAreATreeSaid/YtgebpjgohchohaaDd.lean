/-
  THE LAYER: symbolic semantics of compiled code, and programs on typed data.
-/
import Derived.Test.YtgebpjgohchohaaDc
import Derived.Sort.Row
import Derived.Sort.Grow
import Derived.Lib.SlicesCompact
namespace Go.Dw
structure Fz' (gs : List Nat) : Prop
theorem wf (gs : List Nat) {p : Prop} (h : Fz' gs -> p) : p:=h ⟨⟩
theorem Mn {e E : List (Nat × D)} {o O : List (Nat × Ac)} {n : Nat} {gs : List Nat} (_ : Fz' gs) (hw : (gs.all λg=>match lkO o g with | some (_,p)=>!p.var | none=>false) = true) (hE : HL e o n (Hl o gs) E) (hO : HM e o n (Hl o gs) O) : Has ⟨e,o,n⟩ E O:=MV gs hw hE hO
section
variable {Γ : Ar} {X Y : Type} {K : KR X} {KK : X -> Au -> S -> Prop} {t t1 t2 : Option X} {m0 : Option Y} {kt : Y -> Option X} {pp : Prop} [Decidable pp] {bb wt : Bool} {σ : S} {nv tt m m2 m3 : Nat} {d : Bool} {acc : List CA}
 {r : List Aw} {dst : Option Nat} {g : Option (Nat × Bool)} {af : List Nat} {op : DOp} {x y z : Arg} {xs : List Arg} {bo : BinOp} {uo : UnOp} {k : IntKind} {sl : Option (Nat × Nat)} {dd : D} {ds : List D} {ps : List (Nat × Arg)} {ps2 : List (Nat × Nat × Arg)} {lo hi : Option Arg} {c1 c2 : Pf} {ex : Au} {ptr : List (Nat × (Nat × Nat))} {encR : Y -> D} {encE : Y -> List D} {r0 : AS} {rs : List AS} {tB : Option Y} {ι γ : Type} {E : ι -> γ -> List (Nat × D)} {O : ι -> γ -> List (Nat × Ac)} {j : ι -> Option X}
theorem LW (h : TrO Γ (⟨dst,op,some (tt,wt),af⟩ :: r) nv σ d acc K t) : TrO Γ (⟨dst,op,some (tt,wt),af⟩ :: r) nv σ d acc K t:=h
theorem Dj (h : TrO Γ r nv σ d acc K (Option.bind m0 kt)) : TrO Γ r nv σ d acc K (Option.bind m0 kt):=h
theorem Ck (h : TrO Γ r nv σ d acc K (chk pp t)) : TrO Γ r nv σ d acc K (chk pp t):=h
theorem NL (h : TrO Γ r nv σ d acc K (bif bb then t1 else t2)) : TrO Γ r nv σ d acc K (bif bb then t1 else t2):=h
theorem Nb (h : Tr Γ (.cond x c1 c2) KK σ t) : Tr Γ (.cond x c1 c2) KK σ t:=h
theorem Nh (h : TrX ex (Bv ptr .val [r0] encR encE) σ tB) : TrX ex (Bv ptr .val [r0] encR encE) σ tB:=h
theorem Kv (h : TrX ex (Bv ptr .ground [r0] encR encE) σ tB) : TrX ex (Bv ptr .ground [r0] encR encE) σ tB:=h
theorem MC (h : TrX ex (Bv ptr .val rs encR encE) σ tB) : TrX ex (Bv ptr .val rs encR encE) σ tB:=h
theorem JM (h : TrX ex (Bv ptr .ground rs encR encE) σ tB) : TrX ex (Bv ptr .ground rs encR encE) σ tB:=h
theorem Nf (h : TrX ex (Bv ptr (.row m m2) rs encR encE) σ tB) : TrX ex (Bv ptr (.row m m2) rs encR encE) σ tB:=h
theorem Nd (h : TrX ex (Bv ptr (.ptr m m2) rs encR encE) σ tB) : TrX ex (Bv ptr (.ptr m m2) rs encR encE) σ tB:=h
theorem Ng (h : TrX ex (Bv ptr (.tupPtr m m2 m3) rs encR encE) σ tB) : TrX ex (Bv ptr (.tupPtr m m2 m3) rs encR encE) σ tB:=h
theorem Nk (h : TrX (.exit m) (Gj m2 KK) σ t) : TrX (.exit m) (Gj m2 KK) σ t:=h
theorem Nl (h : TrX (.exit m) (Dm m2 E O j KK) σ t) : TrX (.exit m) (Dm m2 E O j KK) σ t:=h
theorem Kt (h : TrO Γ [] nv σ true acc K t) : TrO Γ [] nv σ true acc K t:=h
theorem Nc (h : TrO Γ (⟨dst,.mv x,g,af⟩ :: r) nv σ d acc K t) : TrO Γ (⟨dst,.mv x,g,af⟩ :: r) nv σ d acc K t:=h
theorem Kr (h : TrO Γ (⟨dst,.fldA m x,g,af⟩ :: r) nv σ d acc K t) : TrO Γ (⟨dst,.fldA m x,g,af⟩ :: r) nv σ d acc K t:=h
theorem LY (h : TrO Γ (⟨dst,.ld m false x,g,af⟩ :: r) nv σ d acc K t) : TrO Γ (⟨dst,.ld m false x,g,af⟩ :: r) nv σ d acc K t:=h
theorem LZ (h : TrO Γ (⟨dst,.ld m true x,g,af⟩ :: r) nv σ d acc K t) : TrO Γ (⟨dst,.ld m true x,g,af⟩ :: r) nv σ d acc K t:=h
theorem LO (h : TrO Γ (⟨dst,.bin bo x y,g,af⟩ :: r) nv σ d acc K t) : TrO Γ (⟨dst,.bin bo x y,g,af⟩ :: r) nv σ d acc K t:=h
theorem LN (h : TrO Γ (⟨dst,.asg x sl,g,af⟩ :: r) nv σ d acc K t) : TrO Γ (⟨dst,.asg x sl,g,af⟩ :: r) nv σ d acc K t:=h
theorem Ku (h : TrO Γ (⟨dst,.pick x y z,g,af⟩ :: r) nv σ d acc K t) : TrO Γ (⟨dst,.pick x y z,g,af⟩ :: r) nv σ d acc K t:=h
theorem Kp (h : TrO Γ (⟨dst,.call x xs,g,af⟩ :: r) nv σ d acc K t) : TrO Γ (⟨dst,.call x xs,g,af⟩ :: r) nv σ d acc K t:=h
theorem LV (h : TrO Γ (⟨dst,.ext x m,g,af⟩ :: r) nv σ d acc K t) : TrO Γ (⟨dst,.ext x m,g,af⟩ :: r) nv σ d acc K t:=h
theorem Ma (h : TrO Γ (⟨dst,.len bb x,g,af⟩ :: r) nv σ d acc K t) : TrO Γ (⟨dst,.len bb x,g,af⟩ :: r) nv σ d acc K t:=h
theorem LX (h : TrO Γ (⟨dst,.ixA m x y,g,af⟩ :: r) nv σ d acc K t) : TrO Γ (⟨dst,.ixA m x y,g,af⟩ :: r) nv σ d acc K t:=h
theorem Nj (h : TrO Γ (⟨dst,.un uo x,g,af⟩ :: r) nv σ d acc K t) : TrO Γ (⟨dst,.un uo x,g,af⟩ :: r) nv σ d acc K t:=h
theorem LQ (h : TrO Γ (⟨dst,.box x m m2,g,af⟩ :: r) nv σ d acc K t) : TrO Γ (⟨dst,.box x m m2,g,af⟩ :: r) nv σ d acc K t:=h
theorem Mf (h : TrO Γ (⟨dst,.new dd m m2,g,af⟩ :: r) nv σ d acc K t) : TrO Γ (⟨dst,.new dd m m2,g,af⟩ :: r) nv σ d acc K t:=h
theorem Ni (h : TrO Γ (⟨dst,.st m x y,g,af⟩ :: r) nv σ d acc K t) : TrO Γ (⟨dst,.st m x y,g,af⟩ :: r) nv σ d acc K t:=h
theorem Ko (h : TrO Γ (⟨dst,.bldS m m2 dd m3 ps,g,af⟩ :: r) nv σ d acc K t) : TrO Γ (⟨dst,.bldS m m2 dd m3 ps,g,af⟩ :: r) nv σ d acc K t:=h
theorem LM (h : TrO Γ (⟨dst,.app m m2 m3 x y,g,af⟩ :: r) nv σ d acc K t) : TrO Γ (⟨dst,.app m m2 m3 x y,g,af⟩ :: r) nv σ d acc K t:=h
theorem LP (h : TrO Γ (⟨dst,.bld ds ps2,g,af⟩ :: r) nv σ d acc K t) : TrO Γ (⟨dst,.bld ds ps2,g,af⟩ :: r) nv σ d acc K t:=h
theorem LR (h : TrO Γ (⟨dst,.cvt k x,g,af⟩ :: r) nv σ d acc K t) : TrO Γ (⟨dst,.cvt k x,g,af⟩ :: r) nv σ d acc K t:=h
theorem Me (h : TrO Γ (⟨dst,.mkS m m2 m3 dd x y,g,af⟩ :: r) nv σ d acc K t) : TrO Γ (⟨dst,.mkS m m2 m3 dd x y,g,af⟩ :: r) nv σ d acc K t:=h
theorem IZ (h : TrO Γ (⟨dst,.nilck x,g,af⟩ :: r) nv σ d acc K t) : TrO Γ (⟨dst,.nilck x,g,af⟩ :: r) nv σ d acc K t:=h
theorem Kq (h : TrO Γ (⟨dst,.fld m m2 false x,g,af⟩ :: r) nv σ d acc K t) : TrO Γ (⟨dst,.fld m m2 false x,g,af⟩ :: r) nv σ d acc K t:=h
theorem Ks (h : TrO Γ (⟨dst,.fld m m2 true x,g,af⟩ :: r) nv σ d acc K t) : TrO Γ (⟨dst,.fld m m2 true x,g,af⟩ :: r) nv σ d acc K t:=h
theorem LU (h : TrO Γ (⟨dst,.eqB bb x y,g,af⟩ :: r) nv σ d acc K t) : TrO Γ (⟨dst,.eqB bb x y,g,af⟩ :: r) nv σ d acc K t:=h
theorem LS (h : TrO Γ (⟨dst,.eqA m bb x y,g,af⟩ :: r) nv σ d acc K t) : TrO Γ (⟨dst,.eqA m bb x y,g,af⟩ :: r) nv σ d acc K t:=h
theorem Mc (h : TrO Γ (⟨dst,.max xs,g,af⟩ :: r) nv σ d acc K t) : TrO Γ (⟨dst,.max xs,g,af⟩ :: r) nv σ d acc K t:=h
theorem Md (h : TrO Γ (⟨dst,.min xs,g,af⟩ :: r) nv σ d acc K t) : TrO Γ (⟨dst,.min xs,g,af⟩ :: r) nv σ d acc K t:=h
theorem Mg (h : TrO Γ (⟨dst,.slc m x lo hi,g,af⟩ :: r) nv σ d acc K t) : TrO Γ (⟨dst,.slc m x lo hi,g,af⟩ :: r) nv σ d acc K t:=h
end
structure Hid (p : Prop) : Prop where
 h : p
theorem A (n : Nat) {p q : Prop} (hq : q) (f : Ct n -> Hid q -> p:=by
 intro c h
 repeat (
  replace c:=Ct.dec c
  first
  | ((with_reducible refine LW ?_); refine JA rfl ?_)
  | ((with_reducible refine Nc ?_); refine KT rfl rfl ?_)
  | with_reducible refine Jz ?_
  | ((with_reducible refine Kr ?_); first | refine Ix rfl rfl ?_ | refine GX rfl rfl ?_)
  | ((with_reducible refine LY ?_); first | ((with_reducible refine Dj ?_); refine PE λq hq=>FD rfl rfl rfl (CO hq) rfl ?_) | refine FD rfl rfl rfl rfl rfl ?_ | refine IM rfl rfl rfl ?_ | refine FD rfl rfl rfl (CO (by assumption)) rfl ?_)
  | ((with_reducible refine LO ?_); first | ((with_reducible refine Ck ?_); first | refine OU λhq=>FG rfl rfl rfl rfl (by first | exact hq | exact ⟨rfl,hq⟩) ?_ | refine OU λhq=>Dr rfl rfl rfl rfl hq ?_) | refine FG rfl rfl rfl rfl (by first | exact rfl | exact trivial | assumption | decide | exact ⟨rfl,by assumption⟩ | exact ⟨rfl,by decide⟩) ?_ | refine Dr rfl rfl rfl rfl trivial ?_)
  | with_reducible refine KY ?_
  | with_reducible refine KW ?_
  | with_reducible refine JB ?_
  | ((with_reducible refine LN ?_); first | refine Jp rfl rfl ?_ | ((with_reducible refine Ck ?_); refine OU λhq=>FX rfl rfl rfl hq ?_) | refine Hq inferInstance rfl rfl ?_ | refine GW rfl rfl ?_ | refine FY (by first | rfl | simp) rfl rfl rfl ?_ | refine GV (by first | rfl | simp) rfl rfl rfl ?_ | refine Fo rfl rfl rfl ?_)
  | with_reducible refine Er ?_
  | with_reducible refine Ge ?_
  | with_reducible refine FB ?_
  | with_reducible refine Iz ?_
  | with_reducible refine JD ?_
  | with_reducible refine KX ?_
  | with_reducible refine JC ?_
  | with_reducible refine Gc ?_
  | with_reducible refine Gd ?_
  | with_reducible refine Fy ?_
  | with_reducible refine Fv ?_
  | with_reducible refine FA ?_
  | with_reducible refine ET ?_
  | with_reducible refine Fx ?_
  | ((with_reducible refine Nk ?_); refine Fw rfl ?_)
  | ((with_reducible refine Nl ?_); refine ER rfl ?_)
  | ((with_reducible refine Nb ?_); first | refine FC rfl ?_ | refine EU rfl ?_)
  | ((with_reducible refine Ku ?_); first | refine EN rfl rfl rfl rfl ?_ | refine Ep rfl rfl rfl rfl ?_)
  | ((with_reducible refine Kp ?_); first | ((with_reducible refine Dj ?_); first | (refine EG rfl rfl rfl rfl rfl ?_ ?_ (λ_=>rfl) λ_ _=>?_; (· simp); (· (repeat' first | exact ⟨rfl,(by first | rfl | (simp only [BS]; rfl) | (simp only [Lo]; rfl) | (simp only [BS,Lo]; rfl))⟩ | refine exP ?_ | refine exU ?_ | apply Exists.intro | (dsimp only; exact ⟨rfl,(by first | rfl | (simp only [BS]; rfl) | (simp only [Lo]; rfl) | (simp only [BS,Lo]; rfl))⟩)))) | (refine Gy rfl rfl rfl rfl rfl ?_ ?_ λ_ _=>?_; (· simp); (· (repeat' first | exact ⟨rfl,(by first | rfl | (simp only [BS]; rfl) | (simp only [Lo]; rfl) | (simp only [BS,Lo]; rfl))⟩ | refine exP ?_ | refine exU ?_ | apply Exists.intro | (dsimp only; exact ⟨rfl,(by first | rfl | (simp only [BS]; rfl) | (simp only [Lo]; rfl) | (simp only [BS,Lo]; rfl))⟩)))) | (refine Gx rfl rfl rfl rfl rfl ?_ ?_ (λ_=>rfl) λ_ _=>?_; (· simp); (· (repeat' first | exact ⟨rfl,(by first | rfl | (simp only [BS]; rfl) | (simp only [Lo]; rfl) | (simp only [BS,Lo]; rfl))⟩ | refine exP ?_ | refine exU ?_ | apply Exists.intro | (dsimp only; exact ⟨rfl,(by first | rfl | (simp only [BS]; rfl) | (simp only [Lo]; rfl) | (simp only [BS,Lo]; rfl))⟩)))) | (refine FH rfl rfl rfl rfl rfl ?_ ?_ λ_ _=>?_; (· simp); (· (repeat' first | exact ⟨rfl,(by first | rfl | (simp only [BS]; rfl) | (simp only [Lo]; rfl) | (simp only [BS,Lo]; rfl))⟩ | refine exP ?_ | refine exU ?_ | apply Exists.intro | (dsimp only; exact ⟨rfl,(by first | rfl | (simp only [BS]; rfl) | (simp only [Lo]; rfl) | (simp only [BS,Lo]; rfl))⟩)))) | (refine Gw rfl rfl rfl rfl rfl ?_ ?_ λ_ _=>?_; (· simp); (· (repeat' first | exact ⟨rfl,(by first | rfl | (simp only [BS]; rfl) | (simp only [Lo]; rfl) | (simp only [BS,Lo]; rfl))⟩ | refine exP ?_ | refine exU ?_ | apply Exists.intro | (dsimp only; exact ⟨rfl,(by first | rfl | (simp only [BS]; rfl) | (simp only [Lo]; rfl) | (simp only [BS,Lo]; rfl))⟩))))) | (refine EH rfl rfl rfl rfl rfl (by assumption) ?_ ?_ rfl ?_; (· simp); (· (repeat' first | exact ⟨rfl,(by first | rfl | (simp only [BS]; rfl) | (simp only [Lo]; rfl) | (simp only [BS,Lo]; rfl))⟩ | refine exP ?_ | refine exU ?_ | apply Exists.intro | (dsimp only; exact ⟨rfl,(by first | rfl | (simp only [BS]; rfl) | (simp only [Lo]; rfl) | (simp only [BS,Lo]; rfl))⟩)))) | (refine GB rfl rfl rfl rfl rfl (by assumption) ?_ ?_ ?_; (· simp); (· (repeat' first | exact ⟨rfl,(by first | rfl | (simp only [BS]; rfl) | (simp only [Lo]; rfl) | (simp only [BS,Lo]; rfl))⟩ | refine exP ?_ | refine exU ?_ | apply Exists.intro | (dsimp only; exact ⟨rfl,(by first | rfl | (simp only [BS]; rfl) | (simp only [Lo]; rfl) | (simp only [BS,Lo]; rfl))⟩)))) | (refine GA rfl rfl rfl rfl rfl (by assumption) ?_ ?_ rfl ?_; (· simp); (· (repeat' first | exact ⟨rfl,(by first | rfl | (simp only [BS]; rfl) | (simp only [Lo]; rfl) | (simp only [BS,Lo]; rfl))⟩ | refine exP ?_ | refine exU ?_ | apply Exists.intro | (dsimp only; exact ⟨rfl,(by first | rfl | (simp only [BS]; rfl) | (simp only [Lo]; rfl) | (simp only [BS,Lo]; rfl))⟩)))) | (refine FI rfl rfl rfl rfl rfl (by assumption) ?_ ?_ ?_; (· simp); (· (repeat' first | exact ⟨rfl,(by first | rfl | (simp only [BS]; rfl) | (simp only [Lo]; rfl) | (simp only [BS,Lo]; rfl))⟩ | refine exP ?_ | refine exU ?_ | apply Exists.intro | (dsimp only; exact ⟨rfl,(by first | rfl | (simp only [BS]; rfl) | (simp only [Lo]; rfl) | (simp only [BS,Lo]; rfl))⟩)))) | (refine Gz rfl rfl rfl rfl rfl (by assumption) ?_ ?_ ?_; (· simp); (· (repeat' first | exact ⟨rfl,(by first | rfl | (simp only [BS]; rfl) | (simp only [Lo]; rfl) | (simp only [BS,Lo]; rfl))⟩ | refine exP ?_ | refine exU ?_ | apply Exists.intro | (dsimp only; exact ⟨rfl,(by first | rfl | (simp only [BS]; rfl) | (simp only [Lo]; rfl) | (simp only [BS,Lo]; rfl))⟩)))) | ((with_reducible refine Ck ?_); first | refine OU λhq=>GY rfl rfl rfl rfl rfl (by first | rfl | simp) rfl hq rfl ?_ | refine OU λhq=>Iy rfl rfl rfl rfl rfl (by first | rfl | simp) rfl hq rfl ?_ | refine OU λhq=>Ft rfl rfl rfl rfl rfl (by first | rfl | simp) rfl hq (by exact Eg _) rfl ?_))
  | ((with_reducible refine LV ?_); refine Ju rfl rfl rfl ?_)
  | ((with_reducible refine Ma ?_); first | refine GZ rfl rfl ?_ | refine Ga rfl rfl ?_ | refine FZ rfl rfl ?_ | refine Gb rfl rfl ?_)
  | ((with_reducible refine LX ?_); first | ((with_reducible refine Dj ?_); refine PE λq hq=>DE rfl rfl rfl hq rfl ?_) | ((with_reducible refine Ck ?_); refine OU λhq=>Tz (by first | rfl | simp) rfl rfl rfl rfl hq ?_) | refine DE rfl rfl rfl (by assumption) rfl ?_)
  | ((with_reducible refine Nj ?_); refine KV rfl rfl rfl rfl trivial ?_)
  | ((with_reducible refine LQ ?_); refine Jq rfl rfl rfl rfl rfl ?_)
  | ((with_reducible refine Mf ?_); refine Jy rfl ?_)
  | ((with_reducible refine Ni ?_); first | ((with_reducible refine Dj ?_); refine PE λq hq=>Rm rfl rfl rfl rfl rfl rfl rfl (by simp) hq rfl rfl rfl rfl rfl ?_) | refine LJ rfl rfl rfl rfl rfl rfl rfl rfl rfl ?_ | refine LK rfl rfl rfl rfl rfl rfl rfl rfl rfl (by repeat' first | exact EvL.nil rfl | apply EvL.cons rfl) ?_ | refine Rm rfl rfl rfl rfl rfl rfl rfl (by simp) (by assumption) rfl rfl rfl rfl rfl ?_)
  | ((with_reducible refine LZ ?_); first | ((with_reducible refine Dj ?_); refine PE λq hq=>FE rfl rfl rfl (CO hq) rfl (by repeat' first | exact EvL.nil rfl | apply EvL.cons rfl) ?_) | refine FE rfl rfl rfl rfl rfl (by repeat' first | exact EvL.nil rfl | apply EvL.cons rfl) ?_ | refine IP rfl rfl rfl (by repeat' first | exact EvL.nil rfl | apply EvL.cons rfl) ?_ | refine FE rfl rfl rfl (CO (by assumption)) rfl (by repeat' first | exact EvL.nil rfl | apply EvL.cons rfl) ?_)
  | ((with_reducible refine Ko ?_); refine IJ inferInstance rfl rfl rfl (by simp) rfl rfl rfl ?_)
  | ((with_reducible refine LM ?_); ((with_reducible refine Ck ?_); refine OU λhq=>UD _ _ _ rfl rfl rfl rfl rfl rfl rfl (by first | (simp; done) | (simp; omega)) (by first | rfl | exact PX _ _ rfl | exact PX _ _ (by simp) | exact Fm _ _ _ | simp [List.map_take]) rfl rfl (by simp) (by first | rfl | exact PY _ _ rfl | exact PY _ _ (by simp)) (λ_=>rfl) rfl hq ?_))
  | ((with_reducible refine LP ?_); refine LH rfl (by repeat' first | apply EvP.cons rfl | exact EvP.nil rfl) rfl (by repeat' first | exact EvL.nil rfl | apply EvL.cons rfl) ?_)
  | ((with_reducible refine LR ?_); refine Jr rfl rfl ?_)
  | ((with_reducible refine Me ?_); ((with_reducible refine Ck ?_); refine OU λhq=>LI inferInstance rfl rfl rfl rfl hq rfl ?_))
  | ((with_reducible refine IZ ?_); refine HE rfl rfl rfl ?_)
  | ((with_reducible refine Kq ?_); refine Ke rfl rfl rfl ?_)
  | ((with_reducible refine Ks ?_); refine Kf rfl rfl rfl (by repeat' first | exact EvL.nil rfl | apply EvL.cons rfl) ?_)
  | ((with_reducible refine LU ?_); first | refine IK rfl rfl rfl ?_ | refine IL rfl rfl rfl ?_)
  | ((with_reducible refine LS ?_); refine Js rfl rfl rfl rfl (by repeat' first | exact trivial | refine ⟨rfl,?_⟩) rfl ?_)
  | ((with_reducible refine Mc ?_); refine Jw rfl rfl rfl ?_)
  | ((with_reducible refine Md ?_); refine Jx rfl rfl rfl ?_)
  | ((with_reducible refine Mg ?_); ((with_reducible refine Ck ?_); first | refine OU λhq=>EO rfl rfl rfl (λ_=>rfl) rfl hq ?_ | refine OU λhq=>EP rfl rfl rfl (λ_=>rfl) rfl hq ?_ | refine OU λhq=>RF (by first | rfl | simp) rfl rfl rfl rfl rfl hq ?_ | refine OU λhq=>Sy (by first | rfl | simp) rfl rfl rfl rfl rfl hq ?_ | refine OU λhq=>Ha rfl rfl rfl rfl (λ_=>rfl) rfl hq ?_))
  | ((with_reducible refine Kt ?_); refine Fu (by kernel_rfl) ?_)
  )
 exact h.h) : p:=f ⟨⟩ ⟨hq⟩
theorem B {p : Prop} (h : p:=by
 repeat' first
 | ((with_reducible refine LW ?_); first | ((with_reducible refine NL ?_); refine UB rfl ?_ ?_) | refine JA rfl ?_)
 | ((with_reducible refine Nc ?_); refine KT rfl rfl ?_)
 | with_reducible refine Jz ?_
 | ((with_reducible refine Kr ?_); first | refine Ix rfl rfl ?_ | refine GX rfl rfl ?_)
 | ((with_reducible refine LY ?_); first | ((with_reducible refine Dj ?_); refine PE λq hq=>FD rfl rfl rfl (CO hq) rfl ?_) | refine FD rfl rfl rfl rfl rfl ?_ | refine IM rfl rfl rfl ?_ | refine FD rfl rfl rfl (CO (by assumption)) rfl ?_)
 | ((with_reducible refine LO ?_); first | ((with_reducible refine Ck ?_); first | refine OU λhq=>FG rfl rfl rfl rfl (by first | exact hq | exact ⟨rfl,hq⟩) ?_ | refine OU λhq=>Dr rfl rfl rfl rfl hq ?_) | refine FG rfl rfl rfl rfl (by first | exact rfl | exact trivial | assumption | decide | exact ⟨rfl,by assumption⟩ | exact ⟨rfl,by decide⟩) ?_ | refine Dr rfl rfl rfl rfl trivial ?_)
 | with_reducible refine KY ?_
 | with_reducible refine KW ?_
 | with_reducible refine JB ?_
 | ((with_reducible refine LN ?_); first | refine Jp rfl rfl ?_ | ((with_reducible refine Ck ?_); refine OU λhq=>FX rfl rfl rfl hq ?_) | refine Hq inferInstance rfl rfl ?_ | refine GW rfl rfl ?_ | refine FY (by first | rfl | simp) rfl rfl rfl ?_ | refine GV (by first | rfl | simp) rfl rfl rfl ?_ | refine Fo rfl rfl rfl ?_)
 | with_reducible refine Er ?_
 | with_reducible refine Ge ?_
 | with_reducible refine FB ?_
 | with_reducible refine Iz ?_
 | with_reducible refine JD ?_
 | with_reducible refine KX ?_
 | with_reducible refine JC ?_
 | with_reducible refine Gc ?_
 | with_reducible refine Gd ?_
 | with_reducible refine Fy ?_
 | with_reducible refine Fv ?_
 | with_reducible refine FA ?_
 | with_reducible refine ET ?_
 | with_reducible refine Fx ?_
 | ((with_reducible refine Nk ?_); refine Fw rfl ?_)
 | ((with_reducible refine Nl ?_); refine ER rfl ?_)
 | ((with_reducible refine Nb ?_); first | refine Vy rfl ?_ ?_ | refine FC rfl ?_ | refine EU rfl ?_)
 | ((with_reducible refine Ku ?_); first | refine EN rfl rfl rfl rfl ?_ | refine Ep rfl rfl rfl rfl ?_)
 | ((with_reducible refine Kp ?_); first | ((with_reducible refine Dj ?_); first | (refine EG rfl rfl rfl rfl rfl ?_ ?_ (λ_=>rfl) λ_ _=>?_; (· simp); (· (repeat' first | exact ⟨rfl,(by first | rfl | (simp only [BS]; rfl) | (simp only [Lo]; rfl) | (simp only [BS,Lo]; rfl))⟩ | refine exP ?_ | refine exU ?_ | apply Exists.intro | (dsimp only; exact ⟨rfl,(by first | rfl | (simp only [BS]; rfl) | (simp only [Lo]; rfl) | (simp only [BS,Lo]; rfl))⟩)))) | (refine Gy rfl rfl rfl rfl rfl ?_ ?_ λ_ _=>?_; (· simp); (· (repeat' first | exact ⟨rfl,(by first | rfl | (simp only [BS]; rfl) | (simp only [Lo]; rfl) | (simp only [BS,Lo]; rfl))⟩ | refine exP ?_ | refine exU ?_ | apply Exists.intro | (dsimp only; exact ⟨rfl,(by first | rfl | (simp only [BS]; rfl) | (simp only [Lo]; rfl) | (simp only [BS,Lo]; rfl))⟩)))) | (refine Gx rfl rfl rfl rfl rfl ?_ ?_ (λ_=>rfl) λ_ _=>?_; (· simp); (· (repeat' first | exact ⟨rfl,(by first | rfl | (simp only [BS]; rfl) | (simp only [Lo]; rfl) | (simp only [BS,Lo]; rfl))⟩ | refine exP ?_ | refine exU ?_ | apply Exists.intro | (dsimp only; exact ⟨rfl,(by first | rfl | (simp only [BS]; rfl) | (simp only [Lo]; rfl) | (simp only [BS,Lo]; rfl))⟩)))) | (refine FH rfl rfl rfl rfl rfl ?_ ?_ λ_ _=>?_; (· simp); (· (repeat' first | exact ⟨rfl,(by first | rfl | (simp only [BS]; rfl) | (simp only [Lo]; rfl) | (simp only [BS,Lo]; rfl))⟩ | refine exP ?_ | refine exU ?_ | apply Exists.intro | (dsimp only; exact ⟨rfl,(by first | rfl | (simp only [BS]; rfl) | (simp only [Lo]; rfl) | (simp only [BS,Lo]; rfl))⟩)))) | (refine Gw rfl rfl rfl rfl rfl ?_ ?_ λ_ _=>?_; (· simp); (· (repeat' first | exact ⟨rfl,(by first | rfl | (simp only [BS]; rfl) | (simp only [Lo]; rfl) | (simp only [BS,Lo]; rfl))⟩ | refine exP ?_ | refine exU ?_ | apply Exists.intro | (dsimp only; exact ⟨rfl,(by first | rfl | (simp only [BS]; rfl) | (simp only [Lo]; rfl) | (simp only [BS,Lo]; rfl))⟩))))) | (refine EH rfl rfl rfl rfl rfl (by assumption) ?_ ?_ rfl ?_; (· simp); (· (repeat' first | exact ⟨rfl,(by first | rfl | (simp only [BS]; rfl) | (simp only [Lo]; rfl) | (simp only [BS,Lo]; rfl))⟩ | refine exP ?_ | refine exU ?_ | apply Exists.intro | (dsimp only; exact ⟨rfl,(by first | rfl | (simp only [BS]; rfl) | (simp only [Lo]; rfl) | (simp only [BS,Lo]; rfl))⟩)))) | (refine GB rfl rfl rfl rfl rfl (by assumption) ?_ ?_ ?_; (· simp); (· (repeat' first | exact ⟨rfl,(by first | rfl | (simp only [BS]; rfl) | (simp only [Lo]; rfl) | (simp only [BS,Lo]; rfl))⟩ | refine exP ?_ | refine exU ?_ | apply Exists.intro | (dsimp only; exact ⟨rfl,(by first | rfl | (simp only [BS]; rfl) | (simp only [Lo]; rfl) | (simp only [BS,Lo]; rfl))⟩)))) | (refine GA rfl rfl rfl rfl rfl (by assumption) ?_ ?_ rfl ?_; (· simp); (· (repeat' first | exact ⟨rfl,(by first | rfl | (simp only [BS]; rfl) | (simp only [Lo]; rfl) | (simp only [BS,Lo]; rfl))⟩ | refine exP ?_ | refine exU ?_ | apply Exists.intro | (dsimp only; exact ⟨rfl,(by first | rfl | (simp only [BS]; rfl) | (simp only [Lo]; rfl) | (simp only [BS,Lo]; rfl))⟩)))) | (refine FI rfl rfl rfl rfl rfl (by assumption) ?_ ?_ ?_; (· simp); (· (repeat' first | exact ⟨rfl,(by first | rfl | (simp only [BS]; rfl) | (simp only [Lo]; rfl) | (simp only [BS,Lo]; rfl))⟩ | refine exP ?_ | refine exU ?_ | apply Exists.intro | (dsimp only; exact ⟨rfl,(by first | rfl | (simp only [BS]; rfl) | (simp only [Lo]; rfl) | (simp only [BS,Lo]; rfl))⟩)))) | (refine Gz rfl rfl rfl rfl rfl (by assumption) ?_ ?_ ?_; (· simp); (· (repeat' first | exact ⟨rfl,(by first | rfl | (simp only [BS]; rfl) | (simp only [Lo]; rfl) | (simp only [BS,Lo]; rfl))⟩ | refine exP ?_ | refine exU ?_ | apply Exists.intro | (dsimp only; exact ⟨rfl,(by first | rfl | (simp only [BS]; rfl) | (simp only [Lo]; rfl) | (simp only [BS,Lo]; rfl))⟩)))) | ((with_reducible refine Ck ?_); first | refine OU λhq=>GY rfl rfl rfl rfl rfl (by first | rfl | simp) rfl hq rfl ?_ | refine OU λhq=>Iy rfl rfl rfl rfl rfl (by first | rfl | simp) rfl hq rfl ?_ | refine OU λhq=>Ft rfl rfl rfl rfl rfl (by first | rfl | simp) rfl hq (by exact Eg _) rfl ?_))
 | ((with_reducible refine LV ?_); refine Ju rfl rfl rfl ?_)
 | ((with_reducible refine Ma ?_); first | refine GZ rfl rfl ?_ | refine Ga rfl rfl ?_ | refine FZ rfl rfl ?_ | refine Gb rfl rfl ?_)
 | ((with_reducible refine LX ?_); first | ((with_reducible refine Dj ?_); refine PE λq hq=>DE rfl rfl rfl hq rfl ?_) | ((with_reducible refine Ck ?_); refine OU λhq=>Tz (by first | rfl | simp) rfl rfl rfl rfl hq ?_) | refine DE rfl rfl rfl (by assumption) rfl ?_)
 | ((with_reducible refine Nj ?_); refine KV rfl rfl rfl rfl trivial ?_)
 | ((with_reducible refine LQ ?_); refine Jq rfl rfl rfl rfl rfl ?_)
 | ((with_reducible refine Mf ?_); refine Jy rfl ?_)
 | ((with_reducible refine Ni ?_); first | ((with_reducible refine Dj ?_); refine PE λq hq=>Rm rfl rfl rfl rfl rfl rfl rfl (by simp) hq rfl rfl rfl rfl rfl ?_) | refine LJ rfl rfl rfl rfl rfl rfl rfl rfl rfl ?_ | refine LK rfl rfl rfl rfl rfl rfl rfl rfl rfl (by repeat' first | exact EvL.nil rfl | apply EvL.cons rfl) ?_ | refine Rm rfl rfl rfl rfl rfl rfl rfl (by simp) (by assumption) rfl rfl rfl rfl rfl ?_)
 | ((with_reducible refine LZ ?_); first | ((with_reducible refine Dj ?_); refine PE λq hq=>FE rfl rfl rfl (CO hq) rfl (by repeat' first | exact EvL.nil rfl | apply EvL.cons rfl) ?_) | refine FE rfl rfl rfl rfl rfl (by repeat' first | exact EvL.nil rfl | apply EvL.cons rfl) ?_ | refine IP rfl rfl rfl (by repeat' first | exact EvL.nil rfl | apply EvL.cons rfl) ?_ | refine FE rfl rfl rfl (CO (by assumption)) rfl (by repeat' first | exact EvL.nil rfl | apply EvL.cons rfl) ?_)
 | ((with_reducible refine Ko ?_); refine IJ inferInstance rfl rfl rfl (by simp) rfl rfl rfl ?_)
 | ((with_reducible refine LM ?_); ((with_reducible refine Ck ?_); refine OU λhq=>UD _ _ _ rfl rfl rfl rfl rfl rfl rfl (by first | (simp; done) | (simp; omega)) (by first | rfl | exact PX _ _ rfl | exact PX _ _ (by simp) | exact Fm _ _ _ | simp [List.map_take]) rfl rfl (by simp) (by first | rfl | exact PY _ _ rfl | exact PY _ _ (by simp)) (λ_=>rfl) rfl hq ?_))
 | ((with_reducible refine LP ?_); refine LH rfl (by repeat' first | apply EvP.cons rfl | exact EvP.nil rfl) rfl (by repeat' first | exact EvL.nil rfl | apply EvL.cons rfl) ?_)
 | ((with_reducible refine LR ?_); refine Jr rfl rfl ?_)
 | ((with_reducible refine Me ?_); ((with_reducible refine Ck ?_); refine OU λhq=>LI inferInstance rfl rfl rfl rfl hq rfl ?_))
 | ((with_reducible refine IZ ?_); refine HE rfl rfl rfl ?_)
 | ((with_reducible refine Kq ?_); refine Ke rfl rfl rfl ?_)
 | ((with_reducible refine Ks ?_); refine Kf rfl rfl rfl (by repeat' first | exact EvL.nil rfl | apply EvL.cons rfl) ?_)
 | ((with_reducible refine LU ?_); first | refine IK rfl rfl rfl ?_ | refine IL rfl rfl rfl ?_)
 | ((with_reducible refine LS ?_); refine Js rfl rfl rfl rfl (by repeat' first | exact trivial | refine ⟨rfl,?_⟩) rfl ?_)
 | ((with_reducible refine Mc ?_); refine Jw rfl rfl rfl ?_)
 | ((with_reducible refine Md ?_); refine Jx rfl rfl rfl ?_)
 | ((with_reducible refine Mg ?_); ((with_reducible refine Ck ?_); first | refine OU λhq=>EO rfl rfl rfl (λ_=>rfl) rfl hq ?_ | refine OU λhq=>EP rfl rfl rfl (λ_=>rfl) rfl hq ?_ | refine OU λhq=>RF (by first | rfl | simp) rfl rfl rfl rfl rfl hq ?_ | refine OU λhq=>Sy (by first | rfl | simp) rfl rfl rfl rfl rfl hq ?_ | refine OU λhq=>Ha rfl rfl rfl rfl (λ_=>rfl) rfl hq ?_))
 | ((with_reducible refine Kt ?_); refine Fu (by kernel_rfl) ?_)
 | ((with_reducible refine Nh ?_); exact WA rfl (by first | (simp; done) | (simp; omega) | rfl | (simp [Pv,Pu]; done)) (by first | rfl | (simp only [BS]; rfl) | (simp only [Lo]; rfl) | (simp only [BS,Lo]; rfl)) rfl (by first | (simp; done) | (simp; omega) | rfl | (simp [Pv,Pu]; done)) (by first | rfl | (simp only [BS]; rfl) | (simp only [Lo]; rfl) | (simp only [BS,Lo]; rfl)))
 | ((with_reducible refine MC ?_); exact IE rfl (by first | (simp; done) | (simp; omega) | rfl | (simp [Pv,Pu]; done)) (by first | rfl | (simp only [BS]; rfl) | (simp only [Lo]; rfl) | (simp only [BS,Lo]; rfl)) rfl (by first | (simp; done) | (simp; omega) | rfl | (simp [Pv,Pu]; done)) (by first | rfl | (simp only [BS]; rfl) | (simp only [Lo]; rfl) | (simp only [BS,Lo]; rfl)) (by decide))
 | ((with_reducible refine Kv ?_); exact JW rfl (by first | (simp; done) | (simp; omega) | rfl | (simp [Pv,Pu]; done)) (by first | rfl | (simp only [BS]; rfl) | (simp only [Lo]; rfl) | (simp only [BS,Lo]; rfl)) rfl (by first | (simp; done) | (simp; omega) | rfl | (simp [Pv,Pu]; done)) (by first | rfl | (simp only [BS]; rfl) | (simp only [Lo]; rfl) | (simp only [BS,Lo]; rfl)))
 | ((with_reducible refine JM ?_); exact Hp rfl (by first | (simp; done) | (simp; omega) | rfl | (simp [Pv,Pu]; done)) (by first | rfl | (simp only [BS]; rfl) | (simp only [Lo]; rfl) | (simp only [BS,Lo]; rfl)) rfl (by first | (simp; done) | (simp; omega) | rfl | (simp [Pv,Pu]; done)) (by first | rfl | (simp only [BS]; rfl) | (simp only [Lo]; rfl) | (simp only [BS,Lo]; rfl)) (by decide))
 | ((with_reducible refine Nf ?_); exact MK rfl (by first | (simp; done) | (simp; omega) | rfl | (simp [Pv,Pu]; done)) (by first | rfl | (simp only [BS]; rfl) | (simp only [Lo]; rfl) | (simp only [BS,Lo]; rfl)) rfl (by first | (simp; done) | (simp; omega) | rfl | (simp [Pv,Pu]; done)) rfl (by first | (simp; done) | (simp; omega) | rfl | (simp [Pv,Pu]; done)) (congrArg D.sl (PY _ _ (by first | rfl | simp))) rfl)
 | ((with_reducible refine Nd ?_); exact MJ rfl (by first | (simp; done) | (simp; omega) | rfl | (simp [Pv,Pu]; done)) rfl (by first | (simp; done) | (simp; omega) | rfl | (simp [Pv,Pu]; done)) (by first | rfl | (simp only [BS]; rfl) | (simp only [Lo]; rfl) | (simp only [BS,Lo]; rfl)) rfl (by first | (simp; done) | (simp; omega) | rfl | (simp [Pv,Pu]; done)) (by first | rfl | (simp only [BS]; rfl) | (simp only [Lo]; rfl) | (simp only [BS,Lo]; rfl)))
 | ((with_reducible refine Ng ?_); exact JX (by decide) (by decide) rfl (by first | (simp; done) | (simp; omega) | rfl | (simp [Pv,Pu]; done)) rfl (by first | (simp; done) | (simp; omega) | rfl | (simp [Pv,Pu]; done)) rfl (by first | (simp; done) | (simp; omega) | rfl | (simp [Pv,Pu]; done)) rfl (by first | (simp; done) | (simp; omega) | rfl | (simp [Pv,Pu]; done)) (by first | rfl | (simp only [BS]; rfl) | (simp only [Lo]; rfl) | (simp only [BS,Lo]; rfl)) rfl (by first | (simp; done) | (simp; omega) | rfl | (simp [Pv,Pu]; done)) rfl)
 | with_reducible refine NJ ?_
 | with_reducible refine HG ?_
 | with_reducible refine IC ?_
 | with_reducible refine MW ?_
 | refine Mn (by assumption) rfl ?_ ?_
 | refine Up ?_ ?_
 | exact trivial
 | refine ⟨rfl,?_⟩
 | refine ⟨Wz rfl (by simp),?_⟩
 | refine ⟨PF rfl,?_⟩
 | refine ⟨RX (SA _ rfl),?_⟩
 | refine ⟨RX (RW rfl (by first | rfl | simp) rfl (by first | exact .head _ | exact .tail _ (.head _) | exact .tail _ (.tail _ (.head _)) | exact .tail _ (.tail _ (.tail _ (.head _))))),?_⟩
 | refine ⟨RX (EZ rfl (by omega) rfl (by first | exact .head _ | exact .tail _ (.head _) | exact .tail _ (.tail _ (.head _)) | exact .tail _ (.tail _ (.tail _ (.head _))))),?_⟩
 | refine ⟨TS rfl (by repeat' first | exact trivial | refine ⟨SK rfl,?_⟩ | refine ⟨SA _ rfl,?_⟩ | refine ⟨RW rfl (by first | rfl | simp) rfl (by first | exact .head _ | exact .tail _ (.head _) | exact .tail _ (.tail _ (.head _)) | exact .tail _ (.tail _ (.tail _ (.head _)))),?_⟩ | refine ⟨EZ rfl (by omega) rfl (by first | exact .head _ | exact .tail _ (.head _) | exact .tail _ (.tail _ (.head _)) | exact .tail _ (.tail _ (.tail _ (.head _)))),?_⟩),?_⟩
 | refine ⟨.inl rfl,?_⟩
 | refine ⟨.inr ⟨_,_,_,_,rfl,rfl,rfl,rfl,TS rfl (by repeat' first | exact trivial | refine ⟨SK rfl,?_⟩ | refine ⟨SA _ rfl,?_⟩ | refine ⟨RW rfl (by first | rfl | simp) rfl (by first | exact .head _ | exact .tail _ (.head _) | exact .tail _ (.tail _ (.head _)) | exact .tail _ (.tail _ (.tail _ (.head _)))),?_⟩ | refine ⟨EZ rfl (by omega) rfl (by first | exact .head _ | exact .tail _ (.head _) | exact .tail _ (.tail _ (.head _)) | exact .tail _ (.tail _ (.tail _ (.head _)))),?_⟩)⟩,?_⟩
 | refine ⟨.inr ⟨_,_,_,_,rfl,rfl,rfl,rfl,RX (SA _ rfl)⟩,?_⟩
 | refine ⟨.inr ⟨_,_,_,_,rfl,rfl,rfl,rfl,RX (RW rfl (by first | rfl | simp) rfl (by first | exact .head _ | exact .tail _ (.head _) | exact .tail _ (.tail _ (.head _)) | exact .tail _ (.tail _ (.tail _ (.head _)))))⟩,?_⟩
 | refine exP ?_
 | refine exU ?_
 | apply Exists.intro
 ) : p:=h
end Go.Dw
namespace Go.Dw
inductive FrL : List D -> List D -> Prop
 | nil : FrL [] []
 | same (c : D) {l l' : List D} (h : FrL l l') : FrL (c :: l) (c :: l')
 | row {s ty : Nat} {es l l' : List D} (hp : ∀ q ∈ es,AA q = true) (h : FrL l l') : FrL (.row s ty es :: l) (.sl es :: l')
inductive SQ : List D -> List D -> Prop
 | nil : SQ [] []
 | same {c : D} (hc : plain c = true) {l l' : List D} (h : SQ l l') : SQ (c :: l) (c :: l')
 | row {s ty : Nat} {l l' : List D} (hs : 0 < s) (h : SQ l l') : SQ (.nils :: l) (.row s ty [] :: l')
section
variable {Γ : Ar} {X : Type} {K : KR X} {t : Option X} {e : List (Nat × D)} {o : List (Nat × Ac)} {n nv : Nat} {d : Bool} {acc : List CA}
 {r : List Aw} {g : Option (Nat × Bool)} {af : List Nat} {α : Type} {x y : Arg} {s ty gi vi off : Nat} {z z' : D} {l : List α} {en : α -> D}
end
end Go.Dw
namespace Go.Dw
section
variable {α : Type} {c : α -> List D} {w : Nat}
variable (hw : ∀ q,(c q).length = w)
include hw
end
section
variable {Γ : Ar} {X : Type} {K : KR X} {t : Option X} {e : List (Nat × D)} {o : List (Nat × Ac)} {n nv : Nat} {d : Bool} {acc : List CA}
 {r : List Aw} {dst : Nat} {g : Option (Nat × Bool)} {af : List Nat} {α : Type}
variable {x y : Arg} {v z z' : D} {s ty gi vi off w j : Nat} {fz var : Bool} {l : List α} {c : α -> List D} {q q' : α}
end
end Go.Dw
namespace Go.Dw
open Go
section
variable {Γ : Ar} {R : Type} {K : R -> Au -> S -> Prop} {t : Option R} {σ τ : S} {b : Pf}
def JG (Γ : Ar) (b : Pf) (Q : Au -> S -> Prop) : Nat -> S -> Prop
 | 0,_=>False
 | m + 1,σ=>DWp Γ b (Au.then (λτ=>∃ τ',Chg τ τ' /\ JG Γ b Q m τ') Q) σ
theorem JG.loop {Q : Au -> S -> Prop} {m : Nat} (h : JG Γ b Q m σ) : DWp Γ (.loop b) Q σ:=by
 refine ⟨{ p : Nat × S // JG Γ b Q p.1 p.2 },λp=>p.1.2,λp=>p.1.1,⟨(m,σ),h⟩,.refl _,?_⟩
 rintro ⟨⟨k,σ⟩,h⟩
 simp only at h
 cases k with
 | zero=>exact h.elim
 | succ k =>
  refine Bu b _ _ _ (λe τ hq=>?_) h
  cases e with
  | normal =>
   obtain ⟨τ',h1,h2⟩:=hq
   exact ⟨⟨(k,τ'),h2⟩,Nat.lt_succ_self k,h1⟩
  | exit id=>exact hq
  | ret=>exact hq
theorem Vo {ops : List Aw} {nv : Nat} {d : Bool} {acc : List CA} {K : KR R} : TrO Γ ops nv σ d acc K none:=λ_ hr=>nomatch hr
end
section
variable {α : Type} {Γ : Ar} {X : Type} {K : KR X} {t : Option X} {r : List Aw} {nv n : Nat} {e : List (Nat × D)} {o : List (Nat × Ac)} {d : Bool} {acc : List CA} {g : Option (Nat × Bool)} {af : List Nat} {dst : Nat} {x y : Arg} {w : D} {gi vi ty : Nat}
theorem Lh {β : Type} (f : α -> β) (l l' : List α) (i q : Nat) : QQ (l.map f) i q (l'.map f) = (QQ l i q l').map f:=by
 unfold QQ
 simp only [List.length_map]
 split <;> simp [List.map_take,List.map_drop]
theorem WD {c : Prop} {new : List D} {rk : List Key} {i q : Nat} (l l' : List α) (en : α -> D) (hg : gOn e g = true) (hx : Aa e x = some (.osl gi vi i q)) (hy : Aa e y = some w) (hww : strip w = (true,w))
  (hv : (view w).run ⟨e,o,n⟩ = (c,new)) (hvr : (view w).rd ⟨e,o,n⟩ = rk) (hc : c) (hn : new = l'.map en) (ho : lkO o gi = some (vi,⟨false,false,1,ty,l.map en⟩)) (hs : ∀ q,(cells (en q)).length = 1) (hp : ∀ q,AA (en q) = true) (hl : i + q <= l.length)
  (h : TrO Γ r (nv + 1) ⟨(dst,.int .i64 (Nat.min q l'.length : Nat)) :: e,(gi,some (vi,⟨false,false,1,ty,(QQ l i q l').map en⟩)) :: o,n⟩ d (acc ++ [(gK g ++ (rdK x ++ (rdK y ++ (rk ++ [.o gi]))),[.e dst,.o gi],af)]) K t) :
  TrO Γ (⟨some dst,.cpy x y,g,af⟩ :: r) nv ⟨e,o,n⟩ d acc K t:=by
 subst hn
 have hsx : strip (.osl gi vi i q) = (true,.osl gi vi i q):=rfl
 have hmem : ∀ z ∈ l.map en ++ l'.map en,AA z = true:=by
  intro z hz
  rcases List.mem_append.1 hz with hz | hz <;> obtain ⟨u,_,rfl⟩:=List.mem_map.1 hz <;> exact hp u
 have hone : ∀ z ∈ l'.map en,(cells z).length = 1:=by
  intro z hz
  obtain ⟨u,_,rfl⟩:=List.mem_map.1 hz
  exact hs u
 have hlen : i + q <= (l.map en).length:=by rw [List.length_map]; exact hl
 refine Am hg (c:=True /\ True /\ c /\ vi = vi /\ true = true /\ true = true /\ 1 = 1 /\ i + q <= (l.map en).length /\ (∀ z ∈ l'.map en,(cells z).length = 1) /\ (Ab gi = true -> ∀ z ∈ l.map en ++ l'.map en,AA z = true)) (we:=[(dst,.int .i64 (Nat.min q l'.length : Nat))]) (wo:=[(gi,some (vi,⟨false,false,1,ty,(QQ l i q l').map en⟩))]) (rd:=rdK x ++ (rdK y ++ (rk ++ [Key.o gi]))) ?_ ?_ ⟨trivial,trivial,hc,rfl,rfl,rfl,rfl,hlen,hone,λ_=>hmem⟩ (by simpa using h)
 ·simp only [evalOp,R.run_bind,Ap,Option.getD_some,hx,hy,hsx,hww,source,hv,R.AU,Ax,ho,R.AF,Ad,Lh,List.length_map]
 ·simp only [evalOp,R.AM,Ap,Bg,Option.getD_some,hx,hy,hsx,hww,source,hv,hvr,R.BN,Ax,ho,R.Cc,R.Bs]
end
end Go.Dw
namespace Go.Dw
open Go.Sort
theorem Ts {P : Program} {f : Nat} {r : Bool} {fl : List Int -> List Int} {fk : List Int -> Nat} (h0 : ∀ zs,(fl zs).length = zs.length /\ fk zs <= zs.length)
  (he : ∀ (w : World) (a : Option Addr) (cap : Nat),Calls P f #[.slice a 0 cap] w λe w'=>e = .returned (if r then .slice a 0 cap else .tuple #[]) /\ w' = w)
  (hcon : ∀ (blk off cap : Nat) (zs : List Int) (w : World),Holds (Value.int .i64) w blk off zs.toArray -> blk < w.heap.size -> zs.length < 4611686018427387904 -> zs.length <= cap ->
   Calls P f #[.slice (some ⟨blk,off,none⟩) zs.length cap] w λe w'=>e = .returned (if r then .slice (some ⟨blk,off,none⟩) (fk zs) cap else .tuple #[]) /\
    ∃ n os,w' = grow (putRow (Value.int .i64) (Sort.ahead w n) blk off (fl zs).toArray) os) : HS P f (r,fl,fk):=by
 refine ⟨h0,he,λw b off cap ty C zs hpos hbig hcap hC hcell=>?_⟩
 have hb : b < w.heap.size:=(Array.getElem?_eq_some_iff.1 hC).1
 have hH : Holds (Value.int .i64) w b off zs.toArray:=by
  intro j hj
  have hj : j < zs.length:=by simpa using hj
  have hz : zs[j]? = some zs[j]:=List.getElem?_eq_getElem hj
  have hc:=hcell j _ hz
  refine ⟨?_,?_⟩
  ·simp [World.cell?,hC,hc,hj]
  ·simp [World.frozen?,hC]
 refine (hcon b off cap zs w hH hb hbig hcap).mono ?_
 rintro e w' ⟨rfl,n,os,rfl⟩
 have hheap : ∀ k,k < w.heap.size -> (grow (putRow (Value.int .i64) (Sort.ahead w n) b off (fl zs).toArray) os).heap[k]? = if b = k then (w.heap[k]?).map (onCells (putCells (Value.int .i64) off (fl zs).toArray)) else w.heap[k]?:=by
  intro k hk
  simp only [grow,putRow,mapBlock,Sort.ahead]
  rw [Array.getElem?_append_left (by simpa using hk),Array.getElem?_modify]
 refine ⟨rfl,rfl,rfl,rfl,?_,λb' hb' hne=>?_,putCells (Value.int .i64) off (fl zs).toArray C,?_,?_,?_,?_⟩
 ·simp [grow,putRow,mapBlock,Sort.ahead]
 ·rw [hheap b' hb',if_neg (λe=>hne e.symm)]
 ·rw [hheap b hb,if_pos rfl,hC]; rfl
 ·simp [putCells]
 ·intro k hk
  have hl:=(h0 zs).1
  simp only [putCells,Array.getElem?_mapIdx]
  cases hx : C[k]? with
  | none=>rfl
  | some x =>
   simp only [Option.map_some]
   rw [if_neg]
   simp only [List.size_toArray,hl]
   omega
 ·intro j x hx
  have hl:=(h0 zs).1
  obtain ⟨hj,hjx⟩:=List.getElem?_eq_some_iff.1 (show (fl zs)[j]? = some x from hx)
  have hz : zs[j]? = some (zs[j]'(by omega)):=List.getElem?_eq_getElem _
  have hc:=hcell j _ hz
  simp only [putCells,Array.getElem?_mapIdx,hc,Option.map_some]
  rw [if_pos (by simp; omega)]
  have : off + j - off = j:=by omega
  rw [this]
  simp [hj,hjx]
def Wa (r : Bool) (fl : List Int -> List Int) (fk : List Int -> Nat) : Spec:=⟨[],.inpl r fl fk,λ_=>False,λ_=>.top,λ_=>[]⟩
theorem TB (zs : List Int) : (Lib.compact zs).length <= zs.length:=by
 unfold Lib.compact Lib.compactUpTo
 rw [List.length_map]
 exact Nat.le_trans (List.length_filter_le _ _) (by simp)
def RV (zs : List Int) : List Int:=Lib.compact zs ++ List.replicate (zs.length - (Lib.compact zs).length) 0
theorem Eg (zs : List Int) : (RV zs).take (Lib.compact zs).length = Lib.compact zs:=by simp [RV]
def Ro (zs : List Int) : List Int:=zs.mergeSort λx y=>decide (x <= y)
@[simp] theorem Wj (zs : List Int) : (Ro zs).length = zs.length:=List.length_mergeSort zs
theorem Vb (zs : List Int) : (RV zs).length = zs.length:=by
 have:=TB zs
 simp [RV]; omega
end Go.Dw
namespace Go.Dw
theorem rf {α : Sort _} {a : α} : a = a:=rfl
abbrev M (d s : Nat) : Aw:=⟨some d,.mv (.t s),none,[]⟩
abbrev P (d : Nat) (o : DOp) : Aw:=⟨some d,o,none,[]⟩
abbrev T (n : Nat) : Arg:=.t n
abbrev C (n : Int) : Arg:=.c (.int .i64 n)
abbrev OH (n : Int) : D:=.int .i64 n
abbrev TT (n : Int) : D:=.int .u64 n
abbrev dW (v s t : Nat) (l : List D) : Option (Nat × Own):=some (v,⟨false,false,s,t,l⟩)
abbrev dV (v s t : Nat) (d : D) : Option (Nat × Own):=some (v,⟨false,true,s,t,[d]⟩)
end Go.Dw
