/-
  THE LAYER: symbolic semantics of compiled code, and programs on typed data.
-/
import Derived.Test.YtilmapojncgflaaGreatDoorDc
import Derived.Sort.Row
import Derived.Sort.Grow
import Derived.Lib.SlicesCompact
import Derived.Shelf.Spec.TrailingZeros
import Derived.Lib.BitFns
import Derived.Below
import Derived.LaidMore
import Derived.OpenShut
import Derived.MakeChecks
import Derived.Lib.TrailingZeros
import Derived.KernelRfl
open Array renaming getElem?_eq_some_iff->aAD
open BitVec renaming ofInt->aAB
open List renaming getElem?_eq_some_iff->aAA,getElem?_eq_getElem->aAE
open Nat renaming testBit_two_pow_mul_add->aAC
open Option renaming bind_eq_some_iff->aAF
open Go.Value renaming int->aA
namespace Go.Dw
variable {p:Prop} {m f:Nat} {α:Type}
structure Fz' (gs:List Nat):Prop
theorem wf (gs:List Nat) (h:Fz' gs->p):p:=h ⟨⟩
theorem Ni {e E:List (Nat×D)} {o O:List (Nat×Ab)} {n:Nat} {gs:List Nat} (_:Fz' gs) (hw:(gs.all λg=>match lkO o g with|some (_,p)=>!p.var|none=>false)=true) (hE:Iy e o n (HL o gs) E) (hO:Iz e o n (HL o gs) O):Has ⟨e,o,n⟩ E O:=NU gs hw hE hO
section
variable {Γ:Aq} {X Y:Type} {K:KR X} {KK:X->Au->S->Prop} {t t1 t2:Option X} {m0:Option Y} {kt:Y->Option X} {pp:Prop} [Decidable pp] {bb wt:Bool} {σ:S} {nv tt m m2 m3:Nat} {d:Bool} {acc:List Co}
 {r:List As} {dst:Option Nat} {g:Option (Nat×Bool)} {af:List Nat} {op:DOp} {x y z:Arg} {xs:List Arg} {bo:BinOp} {uo:UnOp} {k:IntKind} {sl:Option (Nat×Nat)} {dd:D} {ds:List D} {ps:List (Nat×Arg)} {ps2:List (Nat×Nat×Arg)} {lo hi:Option Arg} {c1 c2:Qe} {ex:Au} {ptr:List (Nat×(Nat×Nat))} {encR:Y->D} {encE:Y->List D} {r0:AR} {rs:List AR} {tB:Option Y} {ι γ:Type} {E:ι->γ->List (Nat×D)} {O:ι->γ->List (Nat×Ab)} {j:ι->Option X}
theorem MU (h:TrO Γ (⟨dst,op,some (tt,wt),af⟩::r) nv σ d acc K t):TrO Γ (⟨dst,op,some (tt,wt),af⟩::r) nv σ d acc K t:=h
theorem Dq (h:TrO Γ r nv σ d acc K (Option.bind m0 kt)):TrO Γ r nv σ d acc K (Option.bind m0 kt):=h
theorem Cn (h:TrO Γ r nv σ d acc K (chk pp t)):TrO Γ r nv σ d acc K (chk pp t):=h
theorem OI (h:TrO Γ r nv σ d acc K (bif bb then t1 else t2)):TrO Γ r nv σ d acc K (bif bb then t1 else t2):=h
theorem Ob (h:Tr Γ (.cond x c1 c2) KK σ t):Tr Γ (.cond x c1 c2) KK σ t:=h
theorem Og (h:TrX ex (Bz ptr .val [r0] encR encE) σ tB):TrX ex (Bz ptr .val [r0] encR encE) σ tB:=h
theorem Ls (h:TrX ex (Bz ptr .ground [r0] encR encE) σ tB):TrX ex (Bz ptr .ground [r0] encR encE) σ tB:=h
theorem Ny (h:TrX ex (Bz ptr .val rs encR encE) σ tB):TrX ex (Bz ptr .val rs encR encE) σ tB:=h
theorem KE (h:TrX ex (Bz ptr .ground rs encR encE) σ tB):TrX ex (Bz ptr .ground rs encR encE) σ tB:=h
theorem Oe (h:TrX ex (Bz ptr (.row m m2) rs encR encE) σ tB):TrX ex (Bz ptr (.row m m2) rs encR encE) σ tB:=h
theorem Od (h:TrX ex (Bz ptr (.ptr m m2) rs encR encE) σ tB):TrX ex (Bz ptr (.ptr m m2) rs encR encE) σ tB:=h
theorem Of (h:TrX ex (Bz ptr (.tupPtr m m2 m3) rs encR encE) σ tB):TrX ex (Bz ptr (.tupPtr m m2 m3) rs encR encE) σ tB:=h
theorem Oj (h:TrX (.exit m) (GH m2 KK) σ t):TrX (.exit m) (GH m2 KK) σ t:=h
theorem Ok (h:TrX (.exit m) (Dt m2 E O j KK) σ t):TrX (.exit m) (Dt m2 E O j KK) σ t:=h
theorem Lq (h:TrO Γ [] nv σ true acc K t):TrO Γ [] nv σ true acc K t:=h
theorem Oc (h:TrO Γ (⟨dst,.mv x,g,af⟩::r) nv σ d acc K t):TrO Γ (⟨dst,.mv x,g,af⟩::r) nv σ d acc K t:=h
theorem Ln (h:TrO Γ (⟨dst,.fldA m x,g,af⟩::r) nv σ d acc K t):TrO Γ (⟨dst,.fldA m x,g,af⟩::r) nv σ d acc K t:=h
theorem MW (h:TrO Γ (⟨dst,.ld m false x,g,af⟩::r) nv σ d acc K t):TrO Γ (⟨dst,.ld m false x,g,af⟩::r) nv σ d acc K t:=h
theorem MX (h:TrO Γ (⟨dst,.ld m true x,g,af⟩::r) nv σ d acc K t):TrO Γ (⟨dst,.ld m true x,g,af⟩::r) nv σ d acc K t:=h
theorem MN (h:TrO Γ (⟨dst,.bin bo x y,g,af⟩::r) nv σ d acc K t):TrO Γ (⟨dst,.bin bo x y,g,af⟩::r) nv σ d acc K t:=h
theorem MM (h:TrO Γ (⟨dst,.asg x sl,g,af⟩::r) nv σ d acc K t):TrO Γ (⟨dst,.asg x sl,g,af⟩::r) nv σ d acc K t:=h
theorem Lr (h:TrO Γ (⟨dst,.pick x y z,g,af⟩::r) nv σ d acc K t):TrO Γ (⟨dst,.pick x y z,g,af⟩::r) nv σ d acc K t:=h
theorem Ll (h:TrO Γ (⟨dst,.call x xs,g,af⟩::r) nv σ d acc K t):TrO Γ (⟨dst,.call x xs,g,af⟩::r) nv σ d acc K t:=h
theorem MT (h:TrO Γ (⟨dst,.ext x m,g,af⟩::r) nv σ d acc K t):TrO Γ (⟨dst,.ext x m,g,af⟩::r) nv σ d acc K t:=h
theorem MY (h:TrO Γ (⟨dst,.len bb x,g,af⟩::r) nv σ d acc K t):TrO Γ (⟨dst,.len bb x,g,af⟩::r) nv σ d acc K t:=h
theorem MV (h:TrO Γ (⟨dst,.ixA m x y,g,af⟩::r) nv σ d acc K t):TrO Γ (⟨dst,.ixA m x y,g,af⟩::r) nv σ d acc K t:=h
theorem Oi (h:TrO Γ (⟨dst,.un uo x,g,af⟩::r) nv σ d acc K t):TrO Γ (⟨dst,.un uo x,g,af⟩::r) nv σ d acc K t:=h
theorem MP (h:TrO Γ (⟨dst,.box x m m2,g,af⟩::r) nv σ d acc K t):TrO Γ (⟨dst,.box x m m2,g,af⟩::r) nv σ d acc K t:=h
theorem Nc (h:TrO Γ (⟨dst,.new dd m m2,g,af⟩::r) nv σ d acc K t):TrO Γ (⟨dst,.new dd m m2,g,af⟩::r) nv σ d acc K t:=h
theorem Oh (h:TrO Γ (⟨dst,.st m x y,g,af⟩::r) nv σ d acc K t):TrO Γ (⟨dst,.st m x y,g,af⟩::r) nv σ d acc K t:=h
theorem Lk (h:TrO Γ (⟨dst,.bldS m m2 dd m3 ps,g,af⟩::r) nv σ d acc K t):TrO Γ (⟨dst,.bldS m m2 dd m3 ps,g,af⟩::r) nv σ d acc K t:=h
theorem ML (h:TrO Γ (⟨dst,.app m m2 m3 x y,g,af⟩::r) nv σ d acc K t):TrO Γ (⟨dst,.app m m2 m3 x y,g,af⟩::r) nv σ d acc K t:=h
theorem MO (h:TrO Γ (⟨dst,.bld ds ps2,g,af⟩::r) nv σ d acc K t):TrO Γ (⟨dst,.bld ds ps2,g,af⟩::r) nv σ d acc K t:=h
theorem MQ (h:TrO Γ (⟨dst,.cvt k x,g,af⟩::r) nv σ d acc K t):TrO Γ (⟨dst,.cvt k x,g,af⟩::r) nv σ d acc K t:=h
theorem Nb (h:TrO Γ (⟨dst,.mkS m m2 m3 dd x y,g,af⟩::r) nv σ d acc K t):TrO Γ (⟨dst,.mkS m m2 m3 dd x y,g,af⟩::r) nv σ d acc K t:=h
theorem JN (h:TrO Γ (⟨dst,.nilck x,g,af⟩::r) nv σ d acc K t):TrO Γ (⟨dst,.nilck x,g,af⟩::r) nv σ d acc K t:=h
theorem Lm (h:TrO Γ (⟨dst,.fld m m2 false x,g,af⟩::r) nv σ d acc K t):TrO Γ (⟨dst,.fld m m2 false x,g,af⟩::r) nv σ d acc K t:=h
theorem Lp (h:TrO Γ (⟨dst,.fld m m2 true x,g,af⟩::r) nv σ d acc K t):TrO Γ (⟨dst,.fld m m2 true x,g,af⟩::r) nv σ d acc K t:=h
theorem MS (h:TrO Γ (⟨dst,.eqB bb x y,g,af⟩::r) nv σ d acc K t):TrO Γ (⟨dst,.eqB bb x y,g,af⟩::r) nv σ d acc K t:=h
theorem MR (h:TrO Γ (⟨dst,.eqA m bb x y,g,af⟩::r) nv σ d acc K t):TrO Γ (⟨dst,.eqA m bb x y,g,af⟩::r) nv σ d acc K t:=h
theorem MZ (h:TrO Γ (⟨dst,.max xs,g,af⟩::r) nv σ d acc K t):TrO Γ (⟨dst,.max xs,g,af⟩::r) nv σ d acc K t:=h
theorem Na (h:TrO Γ (⟨dst,.min xs,g,af⟩::r) nv σ d acc K t):TrO Γ (⟨dst,.min xs,g,af⟩::r) nv σ d acc K t:=h
theorem Nd (h:TrO Γ (⟨dst,.slc m x lo hi,g,af⟩::r) nv σ d acc K t):TrO Γ (⟨dst,.slc m x lo hi,g,af⟩::r) nv σ d acc K t:=h
end
structure Hid (p:Prop):Prop where
 h:p
theorem A (n:Nat) {q:Prop} (hq:q) (f:Ct n->Hid q->p:=by
 intro c h
 repeat (
  replace c:=Ct.dec c
  first
  | ((with_reducible refine MU ?_);refine Kn rfl ?_)
  | ((with_reducible refine Oc ?_);refine LP rfl rfl ?_)
  | with_reducible refine Km ?_
  | ((with_reducible refine Ln ?_);first|refine Jo rfl rfl ?_|refine Hy rfl rfl ?_)
  | ((with_reducible refine MW ?_);first|((with_reducible refine Dq ?_);refine Rl λq hq=>FT rfl rfl rfl (CT hq) rfl ?_)|refine FT rfl rfl rfl rfl rfl ?_|refine JD rfl rfl rfl ?_|refine FT rfl rfl rfl (CT (by assumption)) rfl ?_)
  | ((with_reducible refine MN ?_);first|((with_reducible refine Cn ?_);first|refine Qf λhq=>FY rfl rfl rfl rfl (by first|exact hq|exact⟨rfl,hq⟩) ?_|refine Qf λhq=>Dx rfl rfl rfl rfl hq ?_)|refine FY rfl rfl rfl rfl (by first|exact rfl|exact trivial|assumption|decide|exact⟨rfl,by assumption⟩|exact⟨rfl,by decide⟩) ?_|refine Dx rfl rfl rfl rfl trivial ?_)
  | with_reducible refine LV ?_
  | with_reducible refine LS ?_
  | with_reducible refine Ko ?_
  | ((with_reducible refine MM ?_);first|refine Kc rfl rfl ?_|((with_reducible refine Cn ?_);refine Qf λhq=>Gq rfl rfl rfl hq ?_)|refine HT inferInstance rfl rfl ?_|refine Hx rfl rfl ?_|refine Gr (by first|rfl|simp) rfl rfl rfl ?_|refine Hw (by first|rfl|simp) rfl rfl rfl ?_|refine FH rfl rfl rfl ?_)
  | with_reducible refine EC ?_
  | with_reducible refine Gx ?_
  | with_reducible refine FQ ?_
  | with_reducible refine Jr ?_
  | with_reducible refine Kq ?_
  | with_reducible refine LU ?_
  | with_reducible refine Kp ?_
  | with_reducible refine Gv ?_
  | with_reducible refine Gw ?_
  | with_reducible refine FO ?_
  | with_reducible refine FL ?_
  | with_reducible refine FP ?_
  | with_reducible refine Fm ?_
  | with_reducible refine FN ?_
  | ((with_reducible refine Oj ?_);refine FM rfl ?_)
  | ((with_reducible refine Ok ?_);refine Fl rfl ?_)
  | ((with_reducible refine Ob ?_);first|refine FR rfl ?_|refine Fo rfl ?_)
  | ((with_reducible refine Lr ?_);first|refine Fi rfl rfl rfl rfl ?_|refine EA rfl rfl rfl rfl ?_)
  | ((with_reducible refine Ll ?_);first|((with_reducible refine Dq ?_);first|(refine EZ rfl rfl rfl rfl rfl ?_ ?_ (λ_=>rfl) λ_ _=>?_;(· simp);(· (repeat' first|exact⟨rfl,(by first|rfl|(simp only[Mk];rfl)|(simp only[OV];rfl)|(simp only[Mk,OV];rfl))⟩|refine exP ?_|refine exU ?_|apply Exists.intro|(dsimp only;exact⟨rfl,(by first|rfl|(simp only[Mk];rfl)|(simp only[OV];rfl)|(simp only[Mk,OV];rfl))⟩))))|(refine GX rfl rfl rfl rfl rfl ?_ ?_ λ_ _=>?_;(· simp);(· (repeat' first|exact⟨rfl,(by first|rfl|(simp only[Mk];rfl)|(simp only[OV];rfl)|(simp only[Mk,OV];rfl))⟩|refine exP ?_|refine exU ?_|apply Exists.intro|(dsimp only;exact⟨rfl,(by first|rfl|(simp only[Mk];rfl)|(simp only[OV];rfl)|(simp only[Mk,OV];rfl))⟩))))|(refine GW rfl rfl rfl rfl rfl ?_ ?_ (λ_=>rfl) λ_ _=>?_;(· simp);(· (repeat' first|exact⟨rfl,(by first|rfl|(simp only[Mk];rfl)|(simp only[OV];rfl)|(simp only[Mk,OV];rfl))⟩|refine exP ?_|refine exU ?_|apply Exists.intro|(dsimp only;exact⟨rfl,(by first|rfl|(simp only[Mk];rfl)|(simp only[OV];rfl)|(simp only[Mk,OV];rfl))⟩))))|(refine FZ rfl rfl rfl rfl rfl ?_ ?_ λ_ _=>?_;(· simp);(· (repeat' first|exact⟨rfl,(by first|rfl|(simp only[Mk];rfl)|(simp only[OV];rfl)|(simp only[Mk,OV];rfl))⟩|refine exP ?_|refine exU ?_|apply Exists.intro|(dsimp only;exact⟨rfl,(by first|rfl|(simp only[Mk];rfl)|(simp only[OV];rfl)|(simp only[Mk,OV];rfl))⟩))))|(refine GV rfl rfl rfl rfl rfl ?_ ?_ λ_ _=>?_;(· simp);(· (repeat' first|exact⟨rfl,(by first|rfl|(simp only[Mk];rfl)|(simp only[OV];rfl)|(simp only[Mk,OV];rfl))⟩|refine exP ?_|refine exU ?_|apply Exists.intro|(dsimp only;exact⟨rfl,(by first|rfl|(simp only[Mk];rfl)|(simp only[OV];rfl)|(simp only[Mk,OV];rfl))⟩)))))|(refine Fa rfl rfl rfl rfl rfl (by assumption) ?_ ?_ rfl ?_;(· simp);(· (repeat' first|exact⟨rfl,(by first|rfl|(simp only[Mk];rfl)|(simp only[OV];rfl)|(simp only[Mk,OV];rfl))⟩|refine exP ?_|refine exU ?_|apply Exists.intro|(dsimp only;exact⟨rfl,(by first|rfl|(simp only[Mk];rfl)|(simp only[OV];rfl)|(simp only[Mk,OV];rfl))⟩))))|(refine Ha rfl rfl rfl rfl rfl (by assumption) ?_ ?_ ?_;(· simp);(· (repeat' first|exact⟨rfl,(by first|rfl|(simp only[Mk];rfl)|(simp only[OV];rfl)|(simp only[Mk,OV];rfl))⟩|refine exP ?_|refine exU ?_|apply Exists.intro|(dsimp only;exact⟨rfl,(by first|rfl|(simp only[Mk];rfl)|(simp only[OV];rfl)|(simp only[Mk,OV];rfl))⟩))))|(refine GZ rfl rfl rfl rfl rfl (by assumption) ?_ ?_ rfl ?_;(· simp);(· (repeat' first|exact⟨rfl,(by first|rfl|(simp only[Mk];rfl)|(simp only[OV];rfl)|(simp only[Mk,OV];rfl))⟩|refine exP ?_|refine exU ?_|apply Exists.intro|(dsimp only;exact⟨rfl,(by first|rfl|(simp only[Mk];rfl)|(simp only[OV];rfl)|(simp only[Mk,OV];rfl))⟩))))|(refine Ga rfl rfl rfl rfl rfl (by assumption) ?_ ?_ ?_;(· simp);(· (repeat' first|exact⟨rfl,(by first|rfl|(simp only[Mk];rfl)|(simp only[OV];rfl)|(simp only[Mk,OV];rfl))⟩|refine exP ?_|refine exU ?_|apply Exists.intro|(dsimp only;exact⟨rfl,(by first|rfl|(simp only[Mk];rfl)|(simp only[OV];rfl)|(simp only[Mk,OV];rfl))⟩))))|(refine GY rfl rfl rfl rfl rfl (by assumption) ?_ ?_ ?_;(· simp);(· (repeat' first|exact⟨rfl,(by first|rfl|(simp only[Mk];rfl)|(simp only[OV];rfl)|(simp only[Mk,OV];rfl))⟩|refine exP ?_|refine exU ?_|apply Exists.intro|(dsimp only;exact⟨rfl,(by first|rfl|(simp only[Mk];rfl)|(simp only[OV];rfl)|(simp only[Mk,OV];rfl))⟩))))|((with_reducible refine Cn ?_);first|refine Qf λhq=>Hz rfl rfl rfl rfl rfl (by first|rfl|simp) rfl hq rfl ?_|refine Qf λhq=>Jp rfl rfl rfl rfl rfl (by first|rfl|simp) rfl hq rfl ?_|refine Qf λhq=>FJ rfl rfl rfl rfl rfl (by first|rfl|simp) rfl hq (by exact En _) rfl ?_))
  | ((with_reducible refine MT ?_);refine Kh rfl rfl rfl ?_)
  | ((with_reducible refine MY ?_);first|refine HA rfl rfl ?_|refine Gt rfl rfl ?_|refine Gs rfl rfl ?_|refine Gu rfl rfl ?_)
  | ((with_reducible refine MV ?_);first|((with_reducible refine Dq ?_);refine Rl λq hq=>DK rfl rfl rfl hq rfl ?_)|((with_reducible refine Cn ?_);refine Qf λhq=>Zy (by first|rfl|simp) rfl rfl rfl rfl hq ?_)|refine DK rfl rfl rfl (by assumption) rfl ?_)
  | ((with_reducible refine Oi ?_);refine LR rfl rfl rfl rfl trivial ?_)
  | ((with_reducible refine MP ?_);refine Kd rfl rfl rfl rfl rfl ?_)
  | ((with_reducible refine Nc ?_);refine Kl rfl ?_)
  | ((with_reducible refine Oh ?_);first|((with_reducible refine Dq ?_);refine Rl λq hq=>Uz rfl rfl rfl rfl rfl rfl rfl (by simp) hq rfl rfl rfl rfl rfl ?_)|refine MI rfl rfl rfl rfl rfl rfl rfl rfl rfl ?_|refine MJ rfl rfl rfl rfl rfl rfl rfl rfl rfl (by repeat' first|exact EvL.nil rfl|apply EvL.cons rfl) ?_|refine Uz rfl rfl rfl rfl rfl rfl rfl (by simp) (by assumption) rfl rfl rfl rfl rfl ?_)
  | ((with_reducible refine MX ?_);first|((with_reducible refine Dq ?_);refine Rl λq hq=>FU rfl rfl rfl (CT hq) rfl (by repeat' first|exact EvL.nil rfl|apply EvL.cons rfl) ?_)|refine FU rfl rfl rfl rfl rfl (by repeat' first|exact EvL.nil rfl|apply EvL.cons rfl) ?_|refine JE rfl rfl rfl (by repeat' first|exact EvL.nil rfl|apply EvL.cons rfl) ?_|refine FU rfl rfl rfl (CT (by assumption)) rfl (by repeat' first|exact EvL.nil rfl|apply EvL.cons rfl) ?_)
  | ((with_reducible refine Lk ?_);refine JA inferInstance rfl rfl rfl (by simp) rfl rfl rfl ?_)
  | ((with_reducible refine ML ?_);((with_reducible refine Cn ?_);refine Qf λhq=>AmW _ _ _ rfl rfl rfl rfl rfl rfl rfl (by first|(simp;done)|(simp;omega)) (by first|rfl|exact TI _ _ rfl|exact TI _ _ (by simp)|exact FG _ _ _|simp[List.map_take]) rfl rfl (by simp) (by first|rfl|exact Rt _ _ rfl|exact Rt _ _ (by simp)) (λ_=>rfl) rfl hq ?_))
  | ((with_reducible refine MO ?_);refine MG rfl (by repeat' first|apply EvP.cons rfl|exact EvP.nil rfl) rfl (by repeat' first|exact EvL.nil rfl|apply EvL.cons rfl) ?_)
  | ((with_reducible refine MQ ?_);refine Ke rfl rfl ?_)
  | ((with_reducible refine Nb ?_);((with_reducible refine Cn ?_);refine Qf λhq=>MH inferInstance rfl rfl rfl rfl hq rfl ?_))
  | ((with_reducible refine JN ?_);refine Ir rfl rfl rfl ?_)
  | ((with_reducible refine Lm ?_);refine KY rfl rfl rfl ?_)
  | ((with_reducible refine Lp ?_);refine KZ rfl rfl rfl (by repeat' first|exact EvL.nil rfl|apply EvL.cons rfl) ?_)
  | ((with_reducible refine MS ?_);first|refine JB rfl rfl rfl ?_|refine JC rfl rfl rfl ?_)
  | ((with_reducible refine MR ?_);refine Kf rfl rfl rfl rfl (by repeat' first|exact trivial|refine⟨rfl,?_⟩) rfl ?_)
  | ((with_reducible refine MZ ?_);refine Kj rfl rfl rfl ?_)
  | ((with_reducible refine Na ?_);refine Kk rfl rfl rfl ?_)
  | ((with_reducible refine Nd ?_);((with_reducible refine Cn ?_);first|refine Qf λhq=>Fj rfl rfl rfl (λ_=>rfl) rfl hq ?_|refine Qf λhq=>Fk rfl rfl rfl (λ_=>rfl) rfl hq ?_|refine Qf λhq=>AfW (by first|rfl|simp) rfl rfl rfl rfl rfl hq ?_|refine Qf λhq=>EB (by first|rfl|simp) rfl rfl rfl rfl rfl hq ?_|refine Qf λhq=>HB rfl rfl rfl rfl (λ_=>rfl) rfl hq ?_))
  | ((with_reducible refine Lq ?_);refine FK (by kernel_rfl) ?_)
  )
 exact h.h):p:=f ⟨⟩ ⟨hq⟩
theorem B (h:p:=by
 repeat' first
 | ((with_reducible refine MU ?_);first|((with_reducible refine OI ?_);refine Px rfl ?_ ?_)|refine Kn rfl ?_)
 | ((with_reducible refine Oc ?_);refine LP rfl rfl ?_)
 | with_reducible refine Km ?_
 | ((with_reducible refine Ln ?_);first|refine Jo rfl rfl ?_|refine Hy rfl rfl ?_)
 | ((with_reducible refine MW ?_);first|((with_reducible refine Dq ?_);refine Rl λq hq=>FT rfl rfl rfl (CT hq) rfl ?_)|refine FT rfl rfl rfl rfl rfl ?_|refine JD rfl rfl rfl ?_|refine FT rfl rfl rfl (CT (by assumption)) rfl ?_)
 | ((with_reducible refine MN ?_);first|((with_reducible refine Cn ?_);first|refine Qf λhq=>FY rfl rfl rfl rfl (by first|exact hq|exact⟨rfl,hq⟩) ?_|refine Qf λhq=>Dx rfl rfl rfl rfl hq ?_)|refine FY rfl rfl rfl rfl (by first|exact rfl|exact trivial|assumption|decide|exact⟨rfl,by assumption⟩|exact⟨rfl,by decide⟩) ?_|refine Dx rfl rfl rfl rfl trivial ?_)
 | with_reducible refine LV ?_
 | with_reducible refine LS ?_
 | with_reducible refine Ko ?_
 | ((with_reducible refine MM ?_);first|refine Kc rfl rfl ?_|((with_reducible refine Cn ?_);refine Qf λhq=>Gq rfl rfl rfl hq ?_)|refine HT inferInstance rfl rfl ?_|refine Hx rfl rfl ?_|refine Gr (by first|rfl|simp) rfl rfl rfl ?_|refine Hw (by first|rfl|simp) rfl rfl rfl ?_|refine FH rfl rfl rfl ?_)
 | with_reducible refine EC ?_
 | with_reducible refine Gx ?_
 | with_reducible refine FQ ?_
 | with_reducible refine Jr ?_
 | with_reducible refine Kq ?_
 | with_reducible refine LU ?_
 | with_reducible refine Kp ?_
 | with_reducible refine Gv ?_
 | with_reducible refine Gw ?_
 | with_reducible refine FO ?_
 | with_reducible refine FL ?_
 | with_reducible refine FP ?_
 | with_reducible refine Fm ?_
 | with_reducible refine FN ?_
 | ((with_reducible refine Oj ?_);refine FM rfl ?_)
 | ((with_reducible refine Ok ?_);refine Fl rfl ?_)
 | ((with_reducible refine Ob ?_);first|refine AbB rfl ?_ ?_|refine FR rfl ?_|refine Fo rfl ?_)
 | ((with_reducible refine Lr ?_);first|refine Fi rfl rfl rfl rfl ?_|refine EA rfl rfl rfl rfl ?_)
 | ((with_reducible refine Ll ?_);first|((with_reducible refine Dq ?_);first|(refine EZ rfl rfl rfl rfl rfl ?_ ?_ (λ_=>rfl) λ_ _=>?_;(· simp);(· (repeat' first|exact⟨rfl,(by first|rfl|(simp only[Mk];rfl)|(simp only[OV];rfl)|(simp only[Mk,OV];rfl))⟩|refine exP ?_|refine exU ?_|apply Exists.intro|(dsimp only;exact⟨rfl,(by first|rfl|(simp only[Mk];rfl)|(simp only[OV];rfl)|(simp only[Mk,OV];rfl))⟩))))|(refine GX rfl rfl rfl rfl rfl ?_ ?_ λ_ _=>?_;(· simp);(· (repeat' first|exact⟨rfl,(by first|rfl|(simp only[Mk];rfl)|(simp only[OV];rfl)|(simp only[Mk,OV];rfl))⟩|refine exP ?_|refine exU ?_|apply Exists.intro|(dsimp only;exact⟨rfl,(by first|rfl|(simp only[Mk];rfl)|(simp only[OV];rfl)|(simp only[Mk,OV];rfl))⟩))))|(refine GW rfl rfl rfl rfl rfl ?_ ?_ (λ_=>rfl) λ_ _=>?_;(· simp);(· (repeat' first|exact⟨rfl,(by first|rfl|(simp only[Mk];rfl)|(simp only[OV];rfl)|(simp only[Mk,OV];rfl))⟩|refine exP ?_|refine exU ?_|apply Exists.intro|(dsimp only;exact⟨rfl,(by first|rfl|(simp only[Mk];rfl)|(simp only[OV];rfl)|(simp only[Mk,OV];rfl))⟩))))|(refine FZ rfl rfl rfl rfl rfl ?_ ?_ λ_ _=>?_;(· simp);(· (repeat' first|exact⟨rfl,(by first|rfl|(simp only[Mk];rfl)|(simp only[OV];rfl)|(simp only[Mk,OV];rfl))⟩|refine exP ?_|refine exU ?_|apply Exists.intro|(dsimp only;exact⟨rfl,(by first|rfl|(simp only[Mk];rfl)|(simp only[OV];rfl)|(simp only[Mk,OV];rfl))⟩))))|(refine GV rfl rfl rfl rfl rfl ?_ ?_ λ_ _=>?_;(· simp);(· (repeat' first|exact⟨rfl,(by first|rfl|(simp only[Mk];rfl)|(simp only[OV];rfl)|(simp only[Mk,OV];rfl))⟩|refine exP ?_|refine exU ?_|apply Exists.intro|(dsimp only;exact⟨rfl,(by first|rfl|(simp only[Mk];rfl)|(simp only[OV];rfl)|(simp only[Mk,OV];rfl))⟩)))))|(refine Fa rfl rfl rfl rfl rfl (by assumption) ?_ ?_ rfl ?_;(· simp);(· (repeat' first|exact⟨rfl,(by first|rfl|(simp only[Mk];rfl)|(simp only[OV];rfl)|(simp only[Mk,OV];rfl))⟩|refine exP ?_|refine exU ?_|apply Exists.intro|(dsimp only;exact⟨rfl,(by first|rfl|(simp only[Mk];rfl)|(simp only[OV];rfl)|(simp only[Mk,OV];rfl))⟩))))|(refine Ha rfl rfl rfl rfl rfl (by assumption) ?_ ?_ ?_;(· simp);(· (repeat' first|exact⟨rfl,(by first|rfl|(simp only[Mk];rfl)|(simp only[OV];rfl)|(simp only[Mk,OV];rfl))⟩|refine exP ?_|refine exU ?_|apply Exists.intro|(dsimp only;exact⟨rfl,(by first|rfl|(simp only[Mk];rfl)|(simp only[OV];rfl)|(simp only[Mk,OV];rfl))⟩))))|(refine GZ rfl rfl rfl rfl rfl (by assumption) ?_ ?_ rfl ?_;(· simp);(· (repeat' first|exact⟨rfl,(by first|rfl|(simp only[Mk];rfl)|(simp only[OV];rfl)|(simp only[Mk,OV];rfl))⟩|refine exP ?_|refine exU ?_|apply Exists.intro|(dsimp only;exact⟨rfl,(by first|rfl|(simp only[Mk];rfl)|(simp only[OV];rfl)|(simp only[Mk,OV];rfl))⟩))))|(refine Ga rfl rfl rfl rfl rfl (by assumption) ?_ ?_ ?_;(· simp);(· (repeat' first|exact⟨rfl,(by first|rfl|(simp only[Mk];rfl)|(simp only[OV];rfl)|(simp only[Mk,OV];rfl))⟩|refine exP ?_|refine exU ?_|apply Exists.intro|(dsimp only;exact⟨rfl,(by first|rfl|(simp only[Mk];rfl)|(simp only[OV];rfl)|(simp only[Mk,OV];rfl))⟩))))|(refine GY rfl rfl rfl rfl rfl (by assumption) ?_ ?_ ?_;(· simp);(· (repeat' first|exact⟨rfl,(by first|rfl|(simp only[Mk];rfl)|(simp only[OV];rfl)|(simp only[Mk,OV];rfl))⟩|refine exP ?_|refine exU ?_|apply Exists.intro|(dsimp only;exact⟨rfl,(by first|rfl|(simp only[Mk];rfl)|(simp only[OV];rfl)|(simp only[Mk,OV];rfl))⟩))))|((with_reducible refine Cn ?_);first|refine Qf λhq=>Hz rfl rfl rfl rfl rfl (by first|rfl|simp) rfl hq rfl ?_|refine Qf λhq=>Jp rfl rfl rfl rfl rfl (by first|rfl|simp) rfl hq rfl ?_|refine Qf λhq=>FJ rfl rfl rfl rfl rfl (by first|rfl|simp) rfl hq (by exact En _) rfl ?_))
 | ((with_reducible refine MT ?_);refine Kh rfl rfl rfl ?_)
 | ((with_reducible refine MY ?_);first|refine HA rfl rfl ?_|refine Gt rfl rfl ?_|refine Gs rfl rfl ?_|refine Gu rfl rfl ?_)
 | ((with_reducible refine MV ?_);first|((with_reducible refine Dq ?_);refine Rl λq hq=>DK rfl rfl rfl hq rfl ?_)|((with_reducible refine Cn ?_);refine Qf λhq=>Zy (by first|rfl|simp) rfl rfl rfl rfl hq ?_)|refine DK rfl rfl rfl (by assumption) rfl ?_)
 | ((with_reducible refine Oi ?_);refine LR rfl rfl rfl rfl trivial ?_)
 | ((with_reducible refine MP ?_);refine Kd rfl rfl rfl rfl rfl ?_)
 | ((with_reducible refine Nc ?_);refine Kl rfl ?_)
 | ((with_reducible refine Oh ?_);first|((with_reducible refine Dq ?_);refine Rl λq hq=>Uz rfl rfl rfl rfl rfl rfl rfl (by simp) hq rfl rfl rfl rfl rfl ?_)|refine MI rfl rfl rfl rfl rfl rfl rfl rfl rfl ?_|refine MJ rfl rfl rfl rfl rfl rfl rfl rfl rfl (by repeat' first|exact EvL.nil rfl|apply EvL.cons rfl) ?_|refine Uz rfl rfl rfl rfl rfl rfl rfl (by simp) (by assumption) rfl rfl rfl rfl rfl ?_)
 | ((with_reducible refine MX ?_);first|((with_reducible refine Dq ?_);refine Rl λq hq=>FU rfl rfl rfl (CT hq) rfl (by repeat' first|exact EvL.nil rfl|apply EvL.cons rfl) ?_)|refine FU rfl rfl rfl rfl rfl (by repeat' first|exact EvL.nil rfl|apply EvL.cons rfl) ?_|refine JE rfl rfl rfl (by repeat' first|exact EvL.nil rfl|apply EvL.cons rfl) ?_|refine FU rfl rfl rfl (CT (by assumption)) rfl (by repeat' first|exact EvL.nil rfl|apply EvL.cons rfl) ?_)
 | ((with_reducible refine Lk ?_);refine JA inferInstance rfl rfl rfl (by simp) rfl rfl rfl ?_)
 | ((with_reducible refine ML ?_);((with_reducible refine Cn ?_);refine Qf λhq=>AmW _ _ _ rfl rfl rfl rfl rfl rfl rfl (by first|(simp;done)|(simp;omega)) (by first|rfl|exact TI _ _ rfl|exact TI _ _ (by simp)|exact FG _ _ _|simp[List.map_take]) rfl rfl (by simp) (by first|rfl|exact Rt _ _ rfl|exact Rt _ _ (by simp)) (λ_=>rfl) rfl hq ?_))
 | ((with_reducible refine MO ?_);refine MG rfl (by repeat' first|apply EvP.cons rfl|exact EvP.nil rfl) rfl (by repeat' first|exact EvL.nil rfl|apply EvL.cons rfl) ?_)
 | ((with_reducible refine MQ ?_);refine Ke rfl rfl ?_)
 | ((with_reducible refine Nb ?_);((with_reducible refine Cn ?_);refine Qf λhq=>MH inferInstance rfl rfl rfl rfl hq rfl ?_))
 | ((with_reducible refine JN ?_);refine Ir rfl rfl rfl ?_)
 | ((with_reducible refine Lm ?_);refine KY rfl rfl rfl ?_)
 | ((with_reducible refine Lp ?_);refine KZ rfl rfl rfl (by repeat' first|exact EvL.nil rfl|apply EvL.cons rfl) ?_)
 | ((with_reducible refine MS ?_);first|refine JB rfl rfl rfl ?_|refine JC rfl rfl rfl ?_)
 | ((with_reducible refine MR ?_);refine Kf rfl rfl rfl rfl (by repeat' first|exact trivial|refine⟨rfl,?_⟩) rfl ?_)
 | ((with_reducible refine MZ ?_);refine Kj rfl rfl rfl ?_)
 | ((with_reducible refine Na ?_);refine Kk rfl rfl rfl ?_)
 | ((with_reducible refine Nd ?_);((with_reducible refine Cn ?_);first|refine Qf λhq=>Fj rfl rfl rfl (λ_=>rfl) rfl hq ?_|refine Qf λhq=>Fk rfl rfl rfl (λ_=>rfl) rfl hq ?_|refine Qf λhq=>AfW (by first|rfl|simp) rfl rfl rfl rfl rfl hq ?_|refine Qf λhq=>EB (by first|rfl|simp) rfl rfl rfl rfl rfl hq ?_|refine Qf λhq=>HB rfl rfl rfl rfl (λ_=>rfl) rfl hq ?_))
 | ((with_reducible refine Lq ?_);refine FK (by kernel_rfl) ?_)
 | ((with_reducible refine Og ?_);exact Akg rfl (by first|(simp;done)|(simp;omega)|rfl|(simp[QA,Qu];done)) (by first|rfl|(simp only[Mk];rfl)|(simp only[OV];rfl)|(simp only[Mk,OV];rfl)) rfl (by first|(simp;done)|(simp;omega)|rfl|(simp[QA,Qu];done)) (by first|rfl|(simp only[Mk];rfl)|(simp only[OV];rfl)|(simp only[Mk,OV];rfl)))
 | ((with_reducible refine Ny ?_);exact Sm rfl (by first|(simp;done)|(simp;omega)|rfl|(simp[QA,Qu];done)) (by first|rfl|(simp only[Mk];rfl)|(simp only[OV];rfl)|(simp only[Mk,OV];rfl)) rfl (by first|(simp;done)|(simp;omega)|rfl|(simp[QA,Qu];done)) (by first|rfl|(simp only[Mk];rfl)|(simp only[OV];rfl)|(simp only[Mk,OV];rfl)) (by decide))
 | ((with_reducible refine Ls ?_);exact KM rfl (by first|(simp;done)|(simp;omega)|rfl|(simp[QA,Qu];done)) (by first|rfl|(simp only[Mk];rfl)|(simp only[OV];rfl)|(simp only[Mk,OV];rfl)) rfl (by first|(simp;done)|(simp;omega)|rfl|(simp[QA,Qu];done)) (by first|rfl|(simp only[Mk];rfl)|(simp only[OV];rfl)|(simp only[Mk,OV];rfl)))
 | ((with_reducible refine KE ?_);exact HP rfl (by first|(simp;done)|(simp;omega)|rfl|(simp[QA,Qu];done)) (by first|rfl|(simp only[Mk];rfl)|(simp only[OV];rfl)|(simp only[Mk,OV];rfl)) rfl (by first|(simp;done)|(simp;omega)|rfl|(simp[QA,Qu];done)) (by first|rfl|(simp only[Mk];rfl)|(simp only[OV];rfl)|(simp only[Mk,OV];rfl)) (by decide))
 | ((with_reducible refine Oe ?_);exact NI rfl (by first|(simp;done)|(simp;omega)|rfl|(simp[QA,Qu];done)) (by first|rfl|(simp only[Mk];rfl)|(simp only[OV];rfl)|(simp only[Mk,OV];rfl)) rfl (by first|(simp;done)|(simp;omega)|rfl|(simp[QA,Qu];done)) rfl (by first|(simp;done)|(simp;omega)|rfl|(simp[QA,Qu];done)) (congrArg D.sl (Rt _ _ (by first|rfl|simp))) rfl)
 | ((with_reducible refine Od ?_);exact NH rfl (by first|(simp;done)|(simp;omega)|rfl|(simp[QA,Qu];done)) rfl (by first|(simp;done)|(simp;omega)|rfl|(simp[QA,Qu];done)) (by first|rfl|(simp only[Mk];rfl)|(simp only[OV];rfl)|(simp only[Mk,OV];rfl)) rfl (by first|(simp;done)|(simp;omega)|rfl|(simp[QA,Qu];done)) (by first|rfl|(simp only[Mk];rfl)|(simp only[OV];rfl)|(simp only[Mk,OV];rfl)))
 | ((with_reducible refine Of ?_);exact KN (by decide) (by decide) rfl (by first|(simp;done)|(simp;omega)|rfl|(simp[QA,Qu];done)) rfl (by first|(simp;done)|(simp;omega)|rfl|(simp[QA,Qu];done)) rfl (by first|(simp;done)|(simp;omega)|rfl|(simp[QA,Qu];done)) rfl (by first|(simp;done)|(simp;omega)|rfl|(simp[QA,Qu];done)) (by first|rfl|(simp only[Mk];rfl)|(simp only[OV];rfl)|(simp only[Mk,OV];rfl)) rfl (by first|(simp;done)|(simp;omega)|rfl|(simp[QA,Qu];done)) rfl)
 | with_reducible refine OG ?_
 | with_reducible refine It ?_
 | with_reducible refine Ju ?_
 | with_reducible refine NV ?_
 | refine Ni (by assumption) rfl ?_ ?_
 | refine AaD ?_ ?_
 | exact trivial
 | refine⟨rfl,?_⟩
 | refine⟨QT rfl (by simp),?_⟩
 | refine⟨PS rfl,?_⟩
 | refine⟨Aar (Aap _ rfl),?_⟩
 | refine⟨Aar (Aaq rfl (by first|rfl|simp) rfl (by first|exact .head _|exact .tail _ (.head _)|exact .tail _ (.tail _ (.head _))|exact .tail _ (.tail _ (.tail _ (.head _))))),?_⟩
 | refine⟨Aar (Fu rfl (by omega) rfl (by first|exact .head _|exact .tail _ (.head _)|exact .tail _ (.tail _ (.head _))|exact .tail _ (.tail _ (.tail _ (.head _))))),?_⟩
 | refine⟨Afn rfl (by repeat' first|exact trivial|refine⟨WQ rfl,?_⟩|refine⟨Aap _ rfl,?_⟩|refine⟨Aaq rfl (by first|rfl|simp) rfl (by first|exact .head _|exact .tail _ (.head _)|exact .tail _ (.tail _ (.head _))|exact .tail _ (.tail _ (.tail _ (.head _)))),?_⟩|refine⟨Fu rfl (by omega) rfl (by first|exact .head _|exact .tail _ (.head _)|exact .tail _ (.tail _ (.head _))|exact .tail _ (.tail _ (.tail _ (.head _)))),?_⟩),?_⟩
 | refine⟨.inl rfl,?_⟩
 | refine⟨.inr ⟨_,_,_,_,rfl,rfl,rfl,rfl,Afn rfl (by repeat' first|exact trivial|refine⟨WQ rfl,?_⟩|refine⟨Aap _ rfl,?_⟩|refine⟨Aaq rfl (by first|rfl|simp) rfl (by first|exact .head _|exact .tail _ (.head _)|exact .tail _ (.tail _ (.head _))|exact .tail _ (.tail _ (.tail _ (.head _)))),?_⟩|refine⟨Fu rfl (by omega) rfl (by first|exact .head _|exact .tail _ (.head _)|exact .tail _ (.tail _ (.head _))|exact .tail _ (.tail _ (.tail _ (.head _)))),?_⟩)⟩,?_⟩
 | refine⟨.inr ⟨_,_,_,_,rfl,rfl,rfl,rfl,Aar (Aap _ rfl)⟩,?_⟩
 | refine⟨.inr ⟨_,_,_,_,rfl,rfl,rfl,rfl,Aar (Aaq rfl (by first|rfl|simp) rfl (by first|exact .head _|exact .tail _ (.head _)|exact .tail _ (.tail _ (.head _))|exact .tail _ (.tail _ (.tail _ (.head _)))))⟩,?_⟩
 | refine exP ?_
 | refine exU ?_
 | apply Exists.intro
 ):p:=h
inductive FrL:List D->List D->Prop
 | nil:FrL [] []
 | same (c:D) {l l':List D} (h:FrL l l'):FrL (c::l) (c::l')
 | row {s ty:Nat} {es l l':List D} (hp:∀ q∈es,Az q=true) (h:FrL l l'):FrL (.row s ty es::l) (.sl es::l')
theorem FrL.frr:∀ {cs cs':List D},FrL cs cs'->cs'.length=cs.length/\∀ (j:Nat) c c',cs[j]? =some c->cs'[j]? =some c'->c'=c\/∃ s ty es,c= .row s ty es/\(∀ q∈es,Az q=true)/\c'= .sl es
 | _,_,.nil=>⟨rfl,λj c c' h=>by simp at h⟩
 | _,_,.same c h=>by
  obtain⟨h1,h2⟩:=h.frr
  grind
 | _,_,.row (s:=s) (ty:=ty) (es:=es) hp h=>by
  obtain⟨h1,h2⟩:=h.frr
  grind
theorem Mh {R:D->D->Prop} {z z':D} (h:R z z'):Each R [z] [z']:=by
 refine⟨rfl,λi e e' h1 h2=>?_⟩
 grind
theorem Atb {cs cs':List D} (h:FrL cs cs'):Each Frr [.agg cs] [.agg cs']:=Mh h.frr
inductive IC:List D->List D->Prop
 | nil:IC [] []
 | same {c:D} (hc:plain c=true) {l l':List D} (h:IC l l'):IC (c::l) (c::l')
 | row {s ty:Nat} {l l':List D} (hs:0<s) (h:IC l l'):IC (.nils::l) (.row s ty []::l')
section
variable {Γ:Aq} {X:Type} {K:KR X} {t:Option X} {e:List (Nat×D)} {o:List (Nat×Ab)} {n nv:Nat} {d:Bool} {acc:List Co}
 {r:List As} {g:Option (Nat×Bool)} {af:List Nat} {α:Type} {x y:Arg} {s ty gi vi off:Nat} {z z':D} {l:List α} {en:α->D}
theorem Akk {g' v' q s' ty':Nat} (hg:gOn e g=true) (hx:Aa e x=some (.optr gi vi 0 off)) (hy:Aa e y=some (.osl g' v' 0 q)) (hq:q=l.length) (ho:lkO o gi=some (vi,⟨false,true,s,ty,[z]⟩)) (ho':lkO o g'=some (v',⟨false,false,s',ty',l.map en⟩))
  (hp:∀ q,Az (en q)=true) (hb:Nat.ble (off+1) (cells z).length=true) (hz:AA z off [.row s' ty' (l.map en)]=z')
  (h:TrO Γ r (nv+1) ⟨e,(gi,some (vi,⟨false,true,s,ty,[z']⟩))::(g',none)::o,n⟩ d (acc++[(gK g++(rdK x++(rdK y++[.o gi,.o g'])),[.o gi,.o g'],af)]) K t) (hrg:Ac gi=true:=by rfl) (_hne:Nat.beq g' gi=false:=by rfl) :
  TrO Γ (⟨none,.st 1 x y,g,af⟩::r) nv ⟨e,o,n⟩ d acc K t:=by
 subst hq;have hne':g'≠gi:=λh=>by simp_all
 have hpl:=AaO (l:=l) (en:=en) hp;refine Ty (i:=0) (v:=.osl g' v' 0 l.length) (cs':=[.row s' ty' (l.map en)]) (wo:=[(g',none)]) (rk:=[.o g']) (z:=z) (es':=[z'])
  (c:=(v'=v'/\false=false/\l.length<=(l.map en).length/\∀ e∈l.map en,Az e=true)/\True/\([]:List (Nat×Ab)).all (λx=>([(g',none)]:List (Nat×Ab)).all λy=>x.1 != y.1)=true)
  hg hx hy rfl ho ?_ ?_ ⟨⟨rfl,rfl,by simp,hpl⟩,trivial,rfl⟩ rfl rfl rfl hb (by simp[hz]) (by simp[hne']) (by simp_all) hrg
 all_goals simp_all[cells,AG,Bu]
end
section
variable {α:Type} {c:α->List D} {w:Nat}
variable (hw:∀ q,(c q).length=w)
 include hw
end
section
variable {Γ:Aq} {X:Type} {K:KR X} {t:Option X} {e:List (Nat×D)} {o:List (Nat×Ab)} {n nv:Nat} {d:Bool} {acc:List Co}
 {r:List As} {dst:Nat} {g:Option (Nat×Bool)} {af:List Nat} {α:Type}
variable {x y:Arg} {v z z':D} {s ty gi vi off w j:Nat} {fz var:Bool} {l:List α} {c:α->List D} {q q':α}
end
open Go
section
variable {Γ:Aq} {R:Type} {K:R->Au->S->Prop} {t:Option R} {σ τ:S} {b:Qe}
def HE (Γ:Aq) (b:Qe) (Q:Au->S->Prop):Nat->S->Prop
 | 0,_=>False
 | m+1,σ=>DWp Γ b (Au.then (λτ=>∃ τ',Chg τ τ'/\HE Γ b Q m τ') Q) σ
theorem HE.loop {Q:Au->S->Prop} (h:HE Γ b Q m σ):DWp Γ (.loop b) Q σ:=by
 refine⟨{ p:Nat×S // HE Γ b Q p.1 p.2 },λp=>p.1.2,λp=>p.1.1,⟨(m,σ),h⟩,.refl _,?_⟩
 rintro⟨⟨k,σ⟩,h⟩;simp only at h;cases k with
 | zero=>exact h.elim
 | succ k =>
  refine Bo b _ _ _ (λe τ hq=>?_) h
  cases e with
  | normal =>
   obtain⟨τ',h1,h2⟩:=hq;exact⟨⟨(k,τ'),h2⟩,Nat.lt_succ_self k,h1⟩
  | exit id=>exact hq
  | ret=>exact hq
def kUn (Γ:Aq) (b:Qe) (m:Nat) (K:R->Au->S->Prop):R->Au->S->Prop:=λr e τ =>
 match e with
 | .normal=>∃ τ',Chg τ τ'/\HE Γ b (K r) m τ'
 | e=>K r e τ
theorem Ng (h:Tr Γ b (kUn Γ b m K) σ t):∀ r,t=some r->HE Γ b (K r) (m+1) σ:=λr hr =>
 Bo b _ _ _ (λe τ hq=>by
  cases e with
  | normal=>exact hq
  | exit id=>exact hq
  | ret=>exact hq) (h r hr)
theorem Avu (m:Nat) (h:Tr Γ b (kUn Γ b m K) σ t):Tr Γ (.loop b) K σ t:=λr hr=>(Ng h r hr).loop
theorem Agm (h:Tr Γ b (kUn Γ b m K) τ t):TrX .normal (kUn Γ b (m+1) K) τ t:=λr hr=>⟨_,.refl _,Ng h r hr⟩
theorem AsW {id:Nat} (h:TrX (.exit id) K τ t):TrX (.exit id) (kUn Γ b m K) τ t:=h
theorem Alc {ops:List As} {nv:Nat} {d:Bool} {acc:List Co} {K:KR R}:TrO Γ ops nv σ d acc K none:=λ_ hr=>nomatch hr
end
section
variable {α:Type} {Γ:Aq} {X:Type} {K:KR X} {t:Option X} {r:List As} {nv n:Nat} {e:List (Nat×D)} {o:List (Nat×Ab)} {d:Bool} {acc:List Co} {g:Option (Nat×Bool)} {af:List Nat} {dst:Nat} {x y:Arg} {w:D} {gi vi ty:Nat}
inductive AyL where
 | i (n:Int)
 | u (n:Int)
 | s (l:List UInt8)
 deriving DecidableEq,Inhabited
end
section
variable {A B:Type} {Γ:Aq} {X:Type} {K:KR X} {t:Option X} {r:List As} {nv n:Nat} {e:List (Nat×D)} {o:List (Nat×Ab)} {d:Bool} {acc:List Co} {g:Option (Nat×Bool)} {af:List Nat} {dst q:Nat} {x y fa:Arg} {gi vi ty len:Nat} {caps ds:List D} {c:Prop} {w:List (Nat×Ab)} {ps:List (Nat×Nat×Own)} {rk:List Key}
 {ptr:List (Nat×(Nat×Nat))} {enc:A->List D} {dec:List D->A} {f:A->Option B} {encR:B->D} {encE:B->List D} {b:B}
theorem LO {sp:Spec} {dst:Option Nat} {c2:Prop} {we:List (Nat×D)} {wo:List (Nat×Ab)} (hg:gOn e g=true) (hf:Aa e fa=some (.clo (4096+q) caps)) (hΓ:Γ q=some sp) (hr:(Af sp.ptr 0 caps).run ⟨e,o,n⟩=(c,ds,w,ps))
  (hk:(Af sp.ptr 0 caps).rd ⟨e,o,n⟩=rk) (hco:AY dst nv sp c ds w ps=⟨c2,we,wo⟩) (hc:c2)
  (h:TrO Γ r (nv+1) ⟨we++e,wo++o,n⟩ d (acc++[(gK g++(rdK fa++rk),we.map (λx=>.e x.1)++wo.map (λx=>.o x.1),af)]) K t) (hin:BJ sp.kind=none:=by rfl) (hkb:Nat.blt q 4096=true:=by rfl) :
  TrO Γ (⟨dst,.call fa [],g,af⟩::r) nv ⟨e,o,n⟩ d acc K t:=by
 have hΓ':Γ (q+4096*AJ [])=some sp:=hΓ;refine Al hg (c:=c2) (we:=we) (wo:=wo) (rd:=rdK fa++rk) ?_ ?_ hc h
 ·simp only[evalOp,R.run_bind,Bg,Option.getD_some,hf,HQ,hkb,AK,R.AN,hΓ',hin,List.nil_append,hr,R.run_pure,hco]
 ·simp only[evalOp,R.BP,Bg,Ev,Option.getD_some,hf,HQ,hkb,AK,R.AN,R.Fy,hΓ',hin,List.nil_append,hr,hk,R.Ex,List.append_nil]
theorem AcU (a:A) (hg:gOn e g=true) (hf:Aa e fa=some (.clo (4096+q) caps)) (hΓ:Γ q=some (Pd ptr .val enc dec f encR encE)) (hde:∀ a,dec (enc a)=a) (hr:(Af ptr 0 caps).run ⟨e,o,n⟩=(c,ds,w,ps))
  (hk:(Af ptr 0 caps).rd ⟨e,o,n⟩=rk) (hc:c) (hds:ds=enc a) (hb:f a=some b)
  (h:TrO Γ r (nv+1) ⟨(dst,encR b)::e,(Ak ps (encE b)++w)++o,n⟩ d (acc++[(gK g++(rdK fa++rk),.e dst::(Ak ps (encE b)++w).map (λx=>.o x.1),af)]) K t) (hkb:Nat.blt q 4096=true:=by rfl) :
  TrO Γ (⟨some dst,.call fa [],g,af⟩::r) nv ⟨e,o,n⟩ d acc K t:=by
 subst hds;refine LO (hkb:=hkb) hg hf hΓ (sp:=Pd ptr .val enc dec f encR encE) hr hk (c2:=c/\∃ a' b',enc a=enc a'/\f a'=some b') (we:=[(dst,encR b)]) (wo:=Ak ps (encE b)++w) ?_ ⟨hc,a,b,rfl,hb⟩ h;simp only[AY,Cc hde hb,DY hde hb,Ad];rfl
section
attribute [local simp] evalOp Ad AD strip
theorem Aws {parts:List (Nat×Nat×Arg)} {rs:List (Nat×Nat×D)} {cs:List D} (hg:gOn e g=true) (hp:Cf e parts=rs) (hf:DM len rs=true) (hl:Nat.blt 0 len=true) (hz:Dp (List.replicate len .nilf) rs=cs)
  (h:TrO Γ r (nv+1) ⟨(dst,.vsl dst nv len)::e,(dst,some (nv,⟨false,true,len,ty,[.agg cs]⟩))::o,n⟩ d (acc++[(gK g++Cw parts,[.e dst,.o dst],af)]) K t) :
  TrO Γ (⟨some dst,.bldV ty len parts,g,af⟩::r) nv ⟨e,o,n⟩ d acc K t:=by
 have hl':0<len:=by simp_all
 exact Al hg (c:=CZ len rs/\0<len) (we:=[(dst,.vsl dst nv len)]) (wo:=[(dst,some (nv,⟨false,true,len,ty,[.agg cs]⟩))]) (rd:=Cw parts) (by simp_all[Ee]) (by simp[EO]) ⟨EH hf,hl'⟩ h
theorem AmX {k:IntKind} {a:Int} (hg:gOn e g=true) (hx:Aa e x=some (.vsl gi vi len)) (hy:Aa e y=some (.int k a)) (hi:0<=a/\a<len)
  (h:TrO Γ r (nv+1) ⟨(dst,.optr gi vi 0 a.toNat)::e,o,n⟩ d (acc++[(gK g++(rdK x++rdK y),[.e dst],af)]) K t) :
  TrO Γ (⟨some dst,.ixA 1 x y,g,af⟩::r) nv ⟨e,o,n⟩ d acc K t :=
 Al hg (c:=True) (we:=[(dst,.optr gi vi 0 a.toNat)]) (wo:=[]) (rd:=rdK x++rdK y) (by simp_all) (by simp_all) trivial h
theorem AsU (hg:gOn e g=true) (hx:Aa e x=some (.vsl gi vi len)) (h:TrO Γ r (nv+1) ⟨(dst,.int .i64 len)::e,o,n⟩ d (acc++[(gK g++rdK x,[.e dst],af)]) K t) :
  TrO Γ (⟨some dst,.len false x,g,af⟩::r) nv ⟨e,o,n⟩ d acc K t :=
 Al hg (c:=True) (we:=[(dst,.int .i64 len)]) (wo:=[]) (rd:=rdK x) (by simp[hx]) (by simp[hx]) trivial h
end
end
open Go.Sort
theorem IV {w:World} {b off ty n:Nat} {C:Array Value} {zs l':List Int} {os:Array Obj} (hl:l'.length=zs.length) (hb:b<w.heap.size) (hC:w.heap[b]? =some (.cells C ty (0,0))) (hcell:∀ (j:Nat) x,zs[j]? =some x->C[off+j]? =some (.int .i64 x)) :
  (grow (putRow (aA .i64) (Sort.ahead w n) b off l'.toArray) os).os=w.os/\(grow (putRow (aA .i64) (Sort.ahead w n) b off l'.toArray) os).tape=w.tape/\(grow (putRow (aA .i64) (Sort.ahead w n) b off l'.toArray) os).output=w.output /\
   w.heap.size<=(grow (putRow (aA .i64) (Sort.ahead w n) b off l'.toArray) os).heap.size/\(∀ b',b'<w.heap.size->b'≠b->(grow (putRow (aA .i64) (Sort.ahead w n) b off l'.toArray) os).heap[b']? =w.heap[b']?) /\
   ∃ C',(grow (putRow (aA .i64) (Sort.ahead w n) b off l'.toArray) os).heap[b]? =some (.cells C' ty (0,0))/\C'.size=C.size/\(∀ k,(k<off\/off+zs.length<=k)->C'[k]? =C[k]?)/\∀ (j:Nat) x,l'[j]? =some x->C'[off+j]? =some (.int .i64 x):=by
 have hheap:∀ k,k<w.heap.size->(grow (putRow (aA .i64) (Sort.ahead w n) b off l'.toArray) os).heap[k]? =if b=k then(w.heap[k]?).map (onCells (putCells (aA .i64) off l'.toArray))else w.heap[k]?:=by
  grind [grow,putRow,mapBlock,Sort.ahead]
 refine⟨rfl,rfl,rfl,?_,λb' hb' hne=>?_,putCells (aA .i64) off l'.toArray C,?_,?_,?_,?_⟩
 ·simp_all
 ·grind
 ·rw[hheap b hb,if_pos rfl,hC];rfl
 ·simp[putCells]
 ·intro k hk;simp only[putCells,Array.getElem?_mapIdx]
  grind
 simp_all[aAA,putCells]
theorem AnH {P:Program} {r:Bool} {fl:List Int->List Int} {fk:List Int->Nat} (h0:∀ zs,(fl zs).length=zs.length/\fk zs<=zs.length) (he:∀ (w:World) (a:Option Addr) (cap:Nat),Calls P f #[.slice a 0 cap] w λe w'=>e= .returned (if r then .slice a 0 cap else .tuple #[])/\w'=w) (hcon:∀ (blk off cap:Nat) (zs:List Int) (w:World),Holds (aA .i64) w blk off zs.toArray->blk<w.heap.size->zs.length<4611686018427387904->zs.length<=cap ->
   Calls P f #[.slice (some ⟨blk,off,none⟩) zs.length cap] w λe w'=>e= .returned (if r then .slice (some ⟨blk,off,none⟩) (fk zs) cap else .tuple #[]) /\
    ∃ n os,w'=grow (putRow (aA .i64) (Sort.ahead w n) blk off (fl zs).toArray) os):IE P f (inQ r fl fk):=by
 refine⟨λzs ks _=>h0 zs,λw a cap ks hks=>by obtain rfl:ks=[]:=hks;exact he w a cap,λw b off cap ty C zs ks hks hpos hbig hcap hC hcell=>?_⟩
 obtain rfl:ks=[]:=hks;have hb:b<w.heap.size:=(aAD.1 hC).1;have hH:Holds (aA .i64) w b off zs.toArray:=by
  intro j hj
  grind [World.cell?,World.frozen?]
 refine(hcon b off cap zs w hH hb hbig hcap).mono ?_;rintro e w' ⟨rfl,n,os,rfl⟩;exact⟨rfl,IV (h0 zs).1 hb hC hcell⟩
def AuL (r:Bool) (fl:List Int->List Int) (fk:List Int->Nat):Spec:=⟨[],.inpl (inQ r fl fk),λ_=>False,λ_=>.top,λ_=>[]⟩
theorem AjG (zs:List Int):(Lib.compact zs).length<=zs.length:=by
 grind [Lib.compact,Lib.compactUpTo]
def AdH (zs:List Int):List Int:=Lib.compact zs++List.replicate (zs.length-(Lib.compact zs).length) 0
theorem En (zs:List Int):(AdH zs).take (Lib.compact zs).length=Lib.compact zs:=by simp[AdH]
def Aah (zs:List Int):List Int:=zs.mergeSort λx y=>decide (x<=y)
@[simp] theorem Asa (zs:List Int):(Aah zs).length=zs.length:=List.length_mergeSort zs
theorem AnQ (zs:List Int):(AdH zs).length=zs.length:=by
 grind [AjG,AdH]
open Go.Proofs
def Ald (x:Int):Option Int:=chk (0<=x/\x<18446744073709551616) (some ((Lib.ctz 64 x.toNat:Nat):Int))
def DU (a:Int):List D:=[.int .u64 a]
def EW (ds:List D):Int:=uI (ds.getD 0 .top)
theorem Kr (a:Int):EW (DU a)=a:=rfl
instance:PA DU EW:=⟨Kr⟩
def LX (b:Int):D:=.int .i64 b
def LW (_b:Int):List D:=[]
def Asm:Dw.Spec:=Pd [] .ground DU EW (λa=>Ald a) LX LW
theorem MC:CG=Lib.deBruijn64tab:=by decide
theorem Avv {P:Program} {g:Nat} (he:Ei P f) (hg:P.globalNamed "math/bits.deBruijn64tab" = some g) (h:∀ (x:Nat) (w:World),x<18446744073709551616->(x≠0->TabAt g Lib.deBruijn64tab w)->Calls P f #[.int .u64 (x:Int)] w λe w'=>e= .returned (.int .i64 (Lib.ctz 64 x:Nat))/\w'=w):Pa P f Asm:=by
 intro F0 hG;refine⟨he,λq hq=>(by cases hq),λ_ _ w F ds vs M hsub hF hfin hA hp=>?_,λφ hφ=>(by cases hφ),hG⟩
 obtain⟨a,b,rfl,hb⟩:=hp;have hr:0<=a/\a<18446744073709551616:=by
  grind [Ald,chk]
 have hfa:Ald a=some ((Lib.ctz 64 a.toNat:Nat):Int):=by grind [Ald,chk]
 have hb':(λa=>Ald a) a=some ((Lib.ctz 64 a.toNat:Nat):Int):=hfa
 cases hA with
 | ptr j d ds xs M m hp=>cases hp
 | val j d ds x xs M hp hn hx hr' =>
  cases hx;cases hr';have ht:a.toNat≠0->TabAt g Lib.deBruijn64tab w:=λ_ j hj=>by
   have hj':j<64:=by
    have:Lib.deBruijn64tab.length=64:=by decide
    omega
   rw[<- MC];exact hF _ _ _ (hsub _ _ _ (hG.tz hg j hj'))
  have key:=h a.toNat w (by omega) ht
  have e1:((a.toNat:Nat):Int)=a:=by omega
  rw[e1]at key;refine key.mono ?_;rintro e w' ⟨rfl,rfl⟩;refine⟨_,F,λ_ _ _=>False,λ_=>False,rfl,hF,hfin,Stp.refl _ _ _,?_,⟨λk m hm=>by simp at hm,λ_ _ _ h=>h.elim,λ_ _ _ h=>h.elim,λ_ _ _ _ _ h=>h.elim,λ_ _ _ _ h=>h.elim⟩,λ_ _ _ h=>h.elim⟩
  show Fro F ((Pd [] .ground DU EW (λa=>Ald a) LX LW).res (DU a)) _
  rw[Cc Kr hb'];exact .int _ _
def Aih (x:Int):Option Int:=chk (0<=x/\x<=18446744073709551615) (some ((Lib.bitLen x.toNat:Nat):Int))
def Dc (a:Int):List D:=[.int .u64 a]
def DI (ds:List D):Int:=uI (ds.getD 0 .top)
theorem Ic (a:Int):DI (Dc a)=a:=rfl
instance:PA Dc DI:=⟨Ic⟩
def Ja (b:Int):D:=.int .i64 b
def IZ (_b:Int):List D:=[]
def Aoc:Dw.Spec:=Pd [] .ground Dc DI (λa=>Aih a) Ja IZ
theorem AsG {P:Program} (he:Ei P f) (h:∀ (x:Int) (w:World),0<=x->x<=18446744073709551615->Calls P f #[.int .u64 x] w λe w'=>e= .returned (.int .i64 (Lib.bitLen x.toNat:Nat))/\w'=w):Pa P f Aoc:=by
 intro F0 hG;refine⟨he,λq hq=>(by cases hq),λ_ _ w F ds vs M hsub hF hfin hA hp=>?_,λφ hφ=>(by cases hφ),hG⟩
 obtain⟨a,b,rfl,hb⟩:=hp;have hr:0<=a/\a<=18446744073709551615:=by
  grind [Aih,chk]
 have hb':(λa=>Aih a) a=some ((Lib.bitLen a.toNat:Nat):Int):=by grind [Aih,chk]
 cases hA with
 | ptr j d ds xs M m hp=>cases hp
 | val j d ds x xs M hp hn hx hr' =>
  cases hx;cases hr';refine(h a w hr.1 hr.2).mono ?_;rintro e w' ⟨rfl,rfl⟩;refine⟨_,F,λ_ _ _=>False,λ_=>False,rfl,hF,hfin,Stp.refl _ _ _,?_,⟨λk m hm=>by simp at hm,λ_ _ _ h=>h.elim,λ_ _ _ h=>h.elim,λ_ _ _ _ _ h=>h.elim,λ_ _ _ _ h=>h.elim⟩,λ_ _ _ h=>h.elim⟩
  show Fro F ((Pd [] .ground Dc DI (λa=>Aih a) Ja IZ).res (Dc a)) _
  rw[Cc Ic hb'];exact .int _ _
def findF:Nat->List Int->Nat->Option (List Int×Int)
 | 0,_,_=>none
 | k+1,u,s=>(u[s]?).bind λx=>if x=(s:Int)then some (u,(s:Int))else if 0<=x/\x<s then(u[x.toNat]?).bind λz=>if 0<=z/\z<s then findF k (u.set s z) z.toNat else none else none
def Wa (u:List Int) (s:Int):Option (List Int×Int):=if 0<=s then findF (s.toNat+1) u s.toNat else none
theorem HY:∀ {k:Nat} {u:List Int} {s:Nat} {r:List Int×Int},findF k u s=some r->r.1.length=u.length
 | 0,_,_,_,h=>by cases h
 | k+1,u,s,r,h=>by
  simp only[findF,aAF]at h;obtain⟨x,_,h⟩:=h;split at h
  ·cases h;rfl
  ·split at h
   ·simp only[aAF]at h;obtain⟨z,_,h⟩:=h;split at h
    ·have:=HY h;simp_all
    ·cases h
   ·cases h
theorem QF {u:List Int} {s:Int} {r:List Int×Int} (h:Wa u s=some r):r.1.length=u.length:=by
 grind [Wa,HY]
def AsZ:Dw.Spec:=⟨[],.inpl (fiQ Wa),λ_=>False,λ_=>.top,λ_=>[]⟩
theorem find_spec {P:Program} (he:Ei P f) (h:∀ (blk off cap:Nat) (d:Array Int) (s0:Nat) (r:List Int×Int) (w:World),Holds (aA .i64) w blk off d->(∃ k,findF k d.toList s0=some r) ->
  Calls P f #[.slice (some ⟨blk,off,none⟩) d.size cap,.int .i64 s0] w λe w'=>e= .returned (.int .i64 r.2)/\w'=putRow (aA .i64) w blk off r.1.toArray):Pa P f AsZ:=λ_ hG =>
 ⟨he,λq hq=>by
  cases hq;refine⟨λzs ks hp=>?_,λw a cap ks hp=>?_,λw b off cap ty C zs ks hp hpos hbig hcap hC hcell=>?_⟩
  ·obtain⟨k,r,rfl,hr,hl⟩:=hp;simp_all[fiQ]
  ·obtain⟨k,r,rfl,hr,hl⟩:=hp
   grind [Wa,findF]
  ·obtain⟨k,r,rfl,hr,hl⟩:=hp;have hb:b<w.heap.size:=(aAD.1 hC).1;have hH:Holds (aA .i64) w b off zs.toArray:=by
    intro j hj
    grind [World.cell?,World.frozen?]
   have hk:∃ n:Nat,k=n:=by
    grind [Wa]
   obtain⟨n,rfl⟩:=hk;have hF:∃ k,findF k zs.toArray.toList n=some r:=by
    unfold Wa at hr;rw[if_pos (by omega),Int.toNat_natCast]at hr
    grind
   have key:=h b off cap zs.toArray n r w hH hF;have e2:(fiQ Wa).fl zs [(n:Int)]=r.1:=by grind [fiQ]
   have e3:(fiQ Wa).out zs [(n:Int)]= .int .i64 r.2:=by grind [fiQ,Cp.out]
   rw[e2,e3];simp only[List.size_toArray]at key;refine key.mono ?_;rintro e w' ⟨rfl,rfl⟩;have row:=IV (w:=w) (n:=0) (os:=#[]) hl hb hC hcell;have eg:grow (putRow (aA .i64) (Sort.ahead w 0) b off r.1.toArray) #[]=putRow (aA .i64) w b off r.1.toArray:=by simp_all
   rw[eg]at row
   exact⟨rfl,row⟩,(λh=>by cases h),(λφ hφ=>by cases hφ),hG⟩
open Go.RowKit
theorem JH [Decidable p] {x:Option α} {b:α} (h:chk p x=some b):p/\x=some b:=by
 grind [chk]
def Zj {α:Type} (l:List α):Option (List α):=chk (l.length<=16777216) (some l)
abbrev AlQ {α:Type} (l:List α):Option (List α):=Zj l
abbrev Ara {α:Type} (l:List α):Option (List α):=Zj l
abbrev Arc {α:Type} (l:List α):Option (List α):=Zj l
theorem Ld {l b:List α} (h:Zj l=some b):b=l:=by
 obtain⟨_,h⟩:=JH h;cases h;rfl
def Wx {α:Type} (en:α->D) (l:List α):List D:=[.sl (l.map en)]
def Abg {α:Type} (u:D->α) (ds:List D):List α:=(uL u) (ds.getD 0 .top)
theorem Aoy (en:α->D) (u:D->α) (h:∀ x,u (en x)=x) (l:List α):Abg u (Wx en l)=l:=by simp[Abg,Wx,Qh h]
def Akv {α:Type} (en:α->D) (l:List α):D:=.sl (l.map en)
theorem Ov {F:Fz} {w:World} {s ty n:Nat} {v:Value} {xs:List Value} {es:List D} {b0:Nat} (hs:0<s) (hn:es.length=n) (hen:∀ e∈es,(cells e).length=s) (hown:w.ownsRow b0 ty s v n xs)
  (hx:∀ (i j:Nat) e d,es[i]? =some e->(cells e)[j]? =some d->∃ x,xs[i*s+j]? =some x/\x.oneCell'=true/\Fro F d x) :
  ∃ L:Loc,v= .slice (L.b.map λb=>⟨b,0,none⟩) es.length L.cap/\Ax F noB w L ⟨false,false,s,ty,es⟩/\∀ b,L.b=some b->b0<=b/\b<w.heap.size:=by
 subst hn;obtain⟨hl,⟨hv,h0⟩|⟨g,cap,cur,hv,hb,hg,hc,hm,hcs,ht⟩⟩:=hown
 ·refine⟨⟨none,0,s⟩,by simp_all,⟨rfl,hs,by simp_all,Nat.zero_le _,hen,rfl,rfl⟩,λb hb=>by cases hb⟩
 ·refine⟨⟨some g,cap,s⟩,hv,⟨rfl,hs,hc,hm,hen,cur,hg,hcs,λi j e d he hd=>?_⟩,λb hb'=>?_⟩
  all_goals grind
theorem AkC {P:Program} {s ty:Nat} {en:α->D} {u:D->α} (hu:∀ x,u (en x)=x) (he:Ei P f) (hs:0<s) (hen:∀ x,(cells (en x)).length=s) (h0:∀ (c:Nat) (w:World),Calls P f #[.slice none 0 c] w λe w'=>e= .returned (.slice none 0 0)/\w'=w) (h:∀ (a:Addr) (n c:Nat) (xs:List Value) (w:World),n<=16777216->xs.length=n*s->(∀ (j:Nat) x,xs[j]? =some x->w.cell? (a.add j)=some x)->(∀ x∈xs,x.oneCell'=true) ->
   Calls P f #[.slice (some a) n c] w λe w'=>∃ v',e= .returned v'/\w'.ownsRow w.heap.size ty s v' n xs/\Below w.heap.size w w') :
  Pa P f (Pd [] (.row s ty) (Wx en) (Abg u) (λa=>Zj a) (Akv en) noE):=by
 intro F0 hG;refine⟨he,λq hq=>(by cases hq),λ_ _ w F ds vs M hsub hF hfin hA hp=>?_,λφ hφ=>(by cases hφ),hG⟩
 obtain⟨l,b,rfl,hb⟩:=hp;have hM:=DE rfl hA;subst hM;have hres:(Pd [] (.row s ty) (Wx en) (Abg u) (λa=>Zj a) (Akv en) noE).res (Wx en l)= .sl (b.map en):=Cc (Aoy en u hu) hb
 have hbl:=Ld hb;subst hbl;obtain⟨hlen,_⟩:=JH hb;have fin:∀ (v':Value) (w':World) (xs:List Value),w'.ownsRow w.heap.size ty s v' b.length xs->Below w.heap.size w w' ->
   (∀ (i j:Nat) e d,(b.map en)[i]? =some e->(cells e)[j]? =some d->∃ x,xs[i*s+j]? =some x/\x.oneCell'=true/\Fro F d x) ->
   Cr (Pd [] (.row s ty) (Wx en) (Abg u) (λa=>Zj a) (Akv en) noE) w F (Wx en b) [] (.returned v') w':=by
  intro v' w' xs hown hw hx;obtain⟨L,l1,l2,l3⟩:=Ov hs (List.length_map ..) (λe he=>by grind) hown hx
  refine⟨v',F,λ_ _ _=>False,λ_=>True,rfl,λb i x hx=>?_,λb i x hx=>Nat.lt_of_lt_of_le (hfin b i x hx) hw.size,⟨hw.os,hw.tape,hw.output,hw.size,λb hb _=>hw.block b hb,Ag.refl _,λ_ _ _ _=>rfl⟩,?_,
   ⟨λk m hm=>by simp at hm,λ_ _ _ h=>h.elim,λ_ _ _ h=>h.elim,λ_ _ _ _ _ h=>h.elim,λ_ _ _ _ h=>h.elim⟩,λ_ _ _ h=>h.elim⟩
  ·rw[hw.cell (p:=⟨b,i,none⟩) (hfin b i x hx)];exact hF b i x hx
  ·rw[hres];refine⟨b.map en,L,rfl,l1,l2,λk hk=>⟨(l3 k hk).1,(l3 k hk).2,λi=>?_,trivial⟩⟩
   cases hFk:F k i with
   | none=>rfl
   | some x=>grind
 cases hA with
 | val j d ds x' xs M hp hn hx hr' =>
  cases hr';generalize hes:b.map en=es at hx;have zero:∀ a c,b=[]->Calls P f #[.slice a 0 c] w (Cr (Pd [] (.row s ty) (Wx en) (Abg u) (λa=>Zj a) (Akv en) noE) w F (Wx en b) []):=by
   intro a c e;rcases a with _|a
   ·refine(h0 c w).mono ?_;rintro e' w' ⟨rfl,rfl⟩;exact fin _ _ [] (by grind [World.ownsRow_nil]) (Below.refl _ _) λi j e' d he=>by simp_all
   ·refine(h a 0 c [] w (Nat.zero_le _) (Nat.zero_mul s).symm (λj x hj=>by simp at hj) (λx hx=>by cases hx)).mono ?_
    grind
  cases hx with
  | sl0 a c=>simp_all
  | sl es p o c k vf hc hk hcl h1 hv =>
   subst hes;rw[List.length_map]at hc ⊢;rcases Nat.eq_zero_or_pos b.length with h0'|h0'
   ·simp_all
   have hks:k=s:=by
    have:=hk (en (b[0]'h0')) (List.mem_map.2 ⟨_,List.getElem_mem h0',rfl⟩);simp_all
   subst hks;have cel:∀ i j:Nat,i<b.length->j<k->∃ e d,(b.map en)[i]? =some e/\(cells e)[j]? =some d:=λi j hi hj=>by
    simp_all
   let xs:List Value:=(List.range (b.length*k)).map λq=>vf (q / k) (q % k)
   have hxs:∀ (q:Nat) x,xs[q]? =some x->q<b.length*k/\x=vf (q / k) (q % k):=λq x hx=>by
    grind
   have hq:∀ q,q<b.length*k->q / k<b.length/\q % k<k:=λq hq=>⟨Nat.div_lt_of_lt_mul (by rw[Nat.mul_comm];exact hq),Nat.mod_lt _ hs⟩
   refine(h ⟨p,o,none⟩ b.length c xs w hlen (by simp[xs]) (λq x hx=>?_) (λx hx=>?_)).mono ?_
   ·obtain⟨q1,rfl⟩:=hxs q x hx;obtain⟨q2,q3⟩:=hq q q1;obtain⟨e,d,e1,e2⟩:=cel _ _ q2 q3;have:=hF _ _ _ (hcl _ _ e d e1 e2);rw[Nat.add_assoc,Nat.div_add_mod' q k]at this;rw[Addr.add_lit];exact this
   ·obtain⟨q,hq'⟩:=List.getElem?_of_mem hx;obtain⟨q1,rfl⟩:=hxs q x hq';obtain⟨q2,q3⟩:=hq q q1;obtain⟨e,d,e1,e2⟩:=cel _ _ q2 q3;exact h1 _ _ e d e1 e2
   ·rintro e' w' ⟨v',rfl,h2,h3⟩;refine fin _ _ xs h2 h3 λi j e d he hd=>⟨vf i j,?_,h1 i j e d he hd,hv i j e d he hd⟩
    have hi:i<b.length:=by have:=(aAA.1 he).1;simpa using this
    have hj:j<k:=by
     have:=(aAA.1 hd).1;rw[hk e (List.mem_of_getElem? he)]at this;exact this
    have hlt:i*k+j<b.length*k:=by
     have:(i+1)*k<=b.length*k:=Nat.mul_le_mul_right k hi;rw[Nat.add_mul,Nat.one_mul]at this;omega
    have hd1:(i*k+j) / k=i:=by rw[Nat.add_comm,Nat.add_mul_div_right _ _ hs,Nat.div_eq_of_lt hj,Nat.zero_add]
    have hd2:(i*k+j) % k=j:=by rw[Nat.add_comm,Nat.add_mul_mod_self_right,Nat.mod_eq_of_lt hj]
    simp only[xs,List.getElem?_map,List.getElem?_range hlt,Option.map_some,hd1,hd2]
theorem rf {α:Sort _} {a:α}:a=a:=rfl
abbrev M (d s:Nat):As:=⟨some d,.mv (.t s),none,[]⟩
abbrev P (d:Nat) (o:DOp):As:=⟨some d,o,none,[]⟩
abbrev T (n:Nat):Arg:=.t n
abbrev C (n:Int):Arg:=.c (.int .i64 n)
abbrev Av (n:Int):D:=.int .i64 n
abbrev AkE (n:Int):D:=.int .u64 n
abbrev dW (v s t:Nat) (l:List D):Option (Nat×Own):=some (v,⟨false,false,s,t,l⟩)
abbrev dV (v s t:Nat) (d:D):Option (Nat×Own):=some (v,⟨false,true,s,t,[d]⟩)
theorem UZ {Γ:Aq} {X:Type} {c c':Qe} {K:X->Au->S->Prop} {σ:S} {t:Option X} (h:Tr Γ c' K σ t) (e:c=c':=by conv=>lhs;cbv):Tr Γ c K σ t:=e▸h
theorem hX {e E:List (Nat×D)} {o O:List (Nat×Ab)} {n:Nat} (hE:Gy e E:=by repeat first|exact trivial|refine And.intro rfl ?_) (hO:Gz o O:=by repeat first|exact trivial|refine And.intro rfl ?_):Has ⟨e,o,n⟩ E O:=AaD hE hO
theorem hY {e E:List (Nat×D)} {o O:List (Nat×Ab)} {n:Nat} (hE:Gy e E:=by repeat first|exact trivial|refine And.intro (by first|rfl|(simp[AU,frp];done)|(simp[AU,frp,Ck];done)|(simp[AU,frp,Ck,nbq];done)|(simp[AU,lkO,frp,Ck,frO];done)|(simp[AU,lkO,frp,Ck,frO];rfl)|(simp[AU,lkO,frp,Ck,frO,nbq];done)) ?_) (hO:Gz o O:=by repeat first|exact trivial|refine And.intro (by first|rfl|(simp[AU,frp];done)|(simp[AU,frp,Ck];done)|(simp[AU,frp,Ck,nbq];done)|(simp[AU,lkO,frp,Ck,frO];done)|(simp[AU,lkO,frp,Ck,frO];rfl)|(simp[AU,lkO,frp,Ck,frO,nbq];done)) ?_):Has ⟨e,o,n⟩ E O:=AaD hE hO
theorem hV (g:Nat) {v s ty n:Nat} {z:D} {e E:List (Nat×D)} {o O:List (Nat×Ab)} (ho:lkO o g=some (v,⟨false,true,s,ty,[z]⟩)) (h:Has ⟨e.map (λp=>(p.1,frp g v z p.2)),(g,none)::o.map (λp=>(p.1,frO g v z p.2)),n⟩ E O) (hc:(cells z).all QA=true:=by first|rfl|(simp[cells,frp,Ck,QA];done)):Has ⟨e,o,n⟩ E O:=Mi ho hc h
open Go.ChangeShapes Go.WideShapes Go.ChangeAt Go.RowKit
theorem Aru {P:Program} {laid:List (String×DataW Unit)} {W:World} {t e:TypeId} (h:laidMetH P laid W) (hl:laid=[("math/bits.deBruijn64tab",.agg (CG.map λn:Nat=>.lit (.int .u8 (n:Int))))])
  (hn:(laid.all λx=>x.2.handleName?.isNone)=true) (ht:∀ g,P.globalNamed "math/bits.deBruijn64tab" = some g->(P.globals[g]?).map (·.type)=some t)
  (ha:P.underlying t=some (.array 64 e)) (he:P.underlying e=some (.int .u8)) (hc:P.cellsOf e=1)
  (hno:((DG.drop 1).all λe=>(P.globalNamed e.1).isNone)=true:=by kernel_rfl):Afh P (ZR W):=by
 have key:∀ g,P.globalNamed "math/bits.deBruijn64tab" = some g->∀ j,j<64->ZR W g j=some (.int .u8 (CG.getD j 0)):=by
  rw[MakeChecks.laidMetH_plain _ _ _ hn]at h;subst hl;obtain⟨ps,⟨g0,t0,cs0,f0,p0,q0,hg0,ht0,hv0,hd0,_⟩,_⟩:=h;intro g hg j hj;obtain rfl:=Option.some.inj (hg.symm.trans hg0);obtain rfl:=Option.some.inj ((ht _ hg0).symm.trans ht0);obtain⟨xs,m,rfl,hx,hlen,hn64,hel⟩:=DataW.trod_array ha hd0;simp only[Prod.mk.injEq,DataW.agg.injEq]at hx;have hj':=hel j hj;rw[hc]at hj';have hxj:xs[j]? =some (xs[j]'(by omega)):=aAE _
  rw[hxj]at hj';obtain⟨k,e1,e2,_⟩:=DataW.trod_int he hj';have hk:((xs.map (·.1))[j]?)=some (.lit (.int .u8 k)):=by
   simp_all
  rw[<- hx.1]at hk;have ht64:CG.length=64:=by decide
  rw[List.getElem?_map,aAE (show j<CG.length by omega),Option.map_some]at hk
  have hkk:k=((CG[j]'(by omega):Nat):Int):=by simp_all
  have hcell:=World.var?_cell hg0 hv0 j;have hcs:cs0.toList[j]? =some (.int .u8 k):=by
   have h0:((cs0.toList.drop (j*1)).take 1)[0]? =some (.int .u8 k):=by rw[e1];rfl
   grind
  show W.cell? ⟨g,j,none⟩=_;simp_all
 intro x hx g hg j d hd;rcases List.mem_cons.1 hx with rfl|hx
 ·have hj:j<64:=by simpa[CG]using(aAA.1 hd).1
  refine⟨_,key g hg j hj,rfl,?_⟩;have hl:CG.length=64:=by decide
  have hd':d= .int .u8 (CG.getD j 0:Nat):=by
   simp_all
  subst hd';exact .int _ _
 ·have:=List.all_eq_true.1 hno x hx;simp_all
def WW (w:Int):Prop:=0<=w/\w<18446744073709551616
def Afj (w:Int) (j:Nat):Bool:=w.toNat.testBit j
theorem Du {w:Int} (h:WW w):(aAB IntKind.u64.bits w).toNat=w.toNat:=by
 show(aAB 64 w).toNat=w.toNat;have:=h.1;have:=h.2
 grind
theorem AhC {n:Nat} (h:n<18446744073709551616):IntKind.u64.wrap (n:Int)=n:=by
 grind [IntKind.wrap,IntKind.signed,IntKind.bits]
theorem Avw {n:Int} (h:WW n):IntKind.u64.wrap n=n:=by
 have:=h.1;have:=h.2
 grind [IntKind.wrap,IntKind.signed,IntKind.bits]
theorem WW.nat {n:Nat} (h:n<18446744073709551616):WW (n:Int):=⟨by omega,by omega⟩
theorem WW.toNat_lt {w:Int} (h:WW w):w.toNat<18446744073709551616:=by have:=h.1;have:=h.2;omega
theorem Kt (b:BitVec IntKind.u64.bits):b.toNat<18446744073709551616:=b.isLt
theorem Ayg {x y:Int} (hx:WW x) (hy:WW y):IntKind.u64.wrap ((aAB IntKind.u64.bits x ||| aAB IntKind.u64.bits y).toNat:Nat)=((x.toNat ||| y.toNat:Nat):Int):=by
 grind [AhC,Kt,Du]
theorem Awy {x y:Int} (hx:WW x) (hy:WW y):IntKind.u64.wrap ((aAB IntKind.u64.bits x &&& aAB IntKind.u64.bits y).toNat:Nat)=((x.toNat &&& y.toNat:Nat):Int):=by
 grind [AhC,Kt,Du]
def Are (x y:Nat):Nat:=x &&& (18446744073709551615-y)
theorem AqM {x y:Int} (hx:WW x) (hy:WW y):IntKind.u64.wrap ((aAB IntKind.u64.bits x &&& ~~~ aAB IntKind.u64.bits y).toNat:Nat)=((Are x.toNat y.toNat:Nat):Int):=by
 rw[AhC (Kt _),BitVec.toNat_and,BitVec.toNat_not,Du hx,Du hy];rfl
theorem Arf {x y j:Nat} (hx:x<18446744073709551616) (hy:y<18446744073709551616):(Are x y).testBit j=(x.testBit j&& !y.testBit j):=by
 unfold Are;rw[Nat.testBit_and]
 by_cases hj:j<64
 ·have e:18446744073709551615-y=2 ^ 64-(y+1):=by omega
  rw[e,Nat.testBit_two_pow_sub_succ (by omega)]
  simp[hj]
 ·have:x.testBit j=false:=Nat.testBit_lt_two_pow (Nat.lt_of_lt_of_le hx (Nat.pow_le_pow_right (by decide:0<2) (show 64<=j by omega)))
  simp[this]
theorem Apf {x y:Nat} (hx:x<18446744073709551616):x &&& y<18446744073709551616:=Nat.lt_of_le_of_lt Nat.and_le_left hx
theorem AuT {x y:Nat} (hx:x<18446744073709551616) (hy:y<18446744073709551616):x ||| y<18446744073709551616:=by
 have:=Nat.or_lt_two_pow (n:=64) (x:=x) (y:=y) (by omega) (by omega)
 omega
theorem Awb {x:Nat} (h0:0<x) (h:x<18446744073709551616) :
  Lib.ctz 64 x<64/\x.testBit (Lib.ctz 64 x)=true/\(∀ j,j<Lib.ctz 64 x->x.testBit j=false)/\∀ j,(x &&& (x-1)).testBit j=(x.testBit j&&decide (j≠Lib.ctz 64 x)):=by
 unfold Lib.ctz;rw[if_neg (by omega)]
 obtain⟨m,hm,hk⟩:=Lib.ctzFrom_spec 64 x h0 (by omega)
 generalize Lib.ctzFrom 64 x=k at hm hk;have hp:0<2 ^ k:=Nat.two_pow_pos k;have e1:x=2 ^ (k+1)*m+2 ^ k:=by grind
 have e2:x-1=2 ^ (k+1)*m+(2 ^ k-1):=by omega
 have b1:2 ^ k<2 ^ (k+1):=by omega
 have t1:∀ j,x.testBit j=if j<k+1 then decide (k=j)else m.testBit (j-(k+1)):=by
  intro j;rw[e1,aAC _ b1,Nat.testBit_two_pow]
 have t2:∀ j,(x-1).testBit j=if j<k+1 then decide (j<k)else m.testBit (j-(k+1)):=by
  intro j;rw[e2,aAC _ (by omega),Nat.testBit_two_pow_sub_one]
 refine⟨hk,by simp_all,λj hj=>by grind,λj=>?_⟩
 grind
end Go.Dw
