/-
  THE LAYER: symbolic semantics of compiled code, and programs on typed data.
-/
import Derived.Test.YtilmapojncgflaaGreatDoorDc
import Derived.Sort.Row
import Derived.Sort.Grow
import Derived.Lib.SlicesCompact
import Derived.Shelf.Spec.TrailingZeros
import Derived.Lib.BitFns
import Derived.Below
import Derived.LaidMore
import Derived.OpenShut
import Derived.MakeChecks
import Derived.Lib.TrailingZeros
import Derived.KernelRfl
open Array renaming getElem?_eq_some_iff->aAD
open BitVec renaming ofInt->aAB
open List renaming getElem?_eq_some_iff->aAA,getElem?_eq_getElem->aAE
open Nat renaming testBit_two_pow_mul_add->aAC
open Option renaming bind_eq_some_iff->aAF
open Go.Value renaming int->aA
namespace Go.Dw
variable {p:Prop} {m f:Nat} {α:Type}
structure Fz' (gs:List Nat):Prop
theorem wf (gs:List Nat) (h:Fz' gs->p):p:=h ⟨⟩
theorem Nf {e E:List (Nat×D)} {o O:List (Nat×Ab)} {n:Nat} {gs:List Nat} (_:Fz' gs) (hw:(gs.all λg=>match lkO o g with|some (_,p)=>!p.var|none=>false)=true) (hE:Iv e o n (HI o gs) E) (hO:Iw e o n (HI o gs) O):Has ⟨e,o,n⟩ E O:=NR gs hw hE hO
section
variable {Γ:Aq} {X Y:Type} {K:KR X} {KK:X->Au->S->Prop} {t t1 t2:Option X} {m0:Option Y} {kt:Y->Option X} {pp:Prop} [Decidable pp] {bb wt:Bool} {σ:S} {nv tt m m2 m3:Nat} {d:Bool} {acc:List Cn}
 {r:List As} {dst:Option Nat} {g:Option (Nat×Bool)} {af:List Nat} {op:DOp} {x y z:Arg} {xs:List Arg} {bo:BinOp} {uo:UnOp} {k:IntKind} {sl:Option (Nat×Nat)} {dd:D} {ds:List D} {ps:List (Nat×Arg)} {ps2:List (Nat×Nat×Arg)} {lo hi:Option Arg} {c1 c2:Qi} {ex:Au} {ptr:List (Nat×(Nat×Nat))} {encR:Y->D} {encE:Y->List D} {r0:AQ} {rs:List AQ} {tB:Option Y} {ι γ:Type} {E:ι->γ->List (Nat×D)} {O:ι->γ->List (Nat×Ab)} {j:ι->Option X}
theorem MR (h:TrO Γ (⟨dst,op,some (tt,wt),af⟩::r) nv σ d acc K t):TrO Γ (⟨dst,op,some (tt,wt),af⟩::r) nv σ d acc K t:=h
theorem Dp (h:TrO Γ r nv σ d acc K (Option.bind m0 kt)):TrO Γ r nv σ d acc K (Option.bind m0 kt):=h
theorem Cm (h:TrO Γ r nv σ d acc K (chk pp t)):TrO Γ r nv σ d acc K (chk pp t):=h
theorem OE (h:TrO Γ r nv σ d acc K (bif bb then t1 else t2)):TrO Γ r nv σ d acc K (bif bb then t1 else t2):=h
theorem NY (h:Tr Γ (.cond x c1 c2) KK σ t):Tr Γ (.cond x c1 c2) KK σ t:=h
theorem Od (h:TrX ex (Bx ptr .val [r0] encR encE) σ tB):TrX ex (Bx ptr .val [r0] encR encE) σ tB:=h
theorem Lp (h:TrX ex (Bx ptr .ground [r0] encR encE) σ tB):TrX ex (Bx ptr .ground [r0] encR encE) σ tB:=h
theorem Nv (h:TrX ex (Bx ptr .val rs encR encE) σ tB):TrX ex (Bx ptr .val rs encR encE) σ tB:=h
theorem KA (h:TrX ex (Bx ptr .ground rs encR encE) σ tB):TrX ex (Bx ptr .ground rs encR encE) σ tB:=h
theorem Ob (h:TrX ex (Bx ptr (.row m m2) rs encR encE) σ tB):TrX ex (Bx ptr (.row m m2) rs encR encE) σ tB:=h
theorem Oa (h:TrX ex (Bx ptr (.ptr m m2) rs encR encE) σ tB):TrX ex (Bx ptr (.ptr m m2) rs encR encE) σ tB:=h
theorem Oc (h:TrX ex (Bx ptr (.tupPtr m m2 m3) rs encR encE) σ tB):TrX ex (Bx ptr (.tupPtr m m2 m3) rs encR encE) σ tB:=h
theorem Og (h:TrX (.exit m) (GD m2 KK) σ t):TrX (.exit m) (GD m2 KK) σ t:=h
theorem Oh (h:TrX (.exit m) (Ds m2 E O j KK) σ t):TrX (.exit m) (Ds m2 E O j KK) σ t:=h
theorem Lm (h:TrO Γ [] nv σ true acc K t):TrO Γ [] nv σ true acc K t:=h
theorem NZ (h:TrO Γ (⟨dst,.mv x,g,af⟩::r) nv σ d acc K t):TrO Γ (⟨dst,.mv x,g,af⟩::r) nv σ d acc K t:=h
theorem Lk (h:TrO Γ (⟨dst,.fldA m x,g,af⟩::r) nv σ d acc K t):TrO Γ (⟨dst,.fldA m x,g,af⟩::r) nv σ d acc K t:=h
theorem MT (h:TrO Γ (⟨dst,.ld m false x,g,af⟩::r) nv σ d acc K t):TrO Γ (⟨dst,.ld m false x,g,af⟩::r) nv σ d acc K t:=h
theorem MU (h:TrO Γ (⟨dst,.ld m true x,g,af⟩::r) nv σ d acc K t):TrO Γ (⟨dst,.ld m true x,g,af⟩::r) nv σ d acc K t:=h
theorem MK (h:TrO Γ (⟨dst,.bin bo x y,g,af⟩::r) nv σ d acc K t):TrO Γ (⟨dst,.bin bo x y,g,af⟩::r) nv σ d acc K t:=h
theorem MJ (h:TrO Γ (⟨dst,.asg x sl,g,af⟩::r) nv σ d acc K t):TrO Γ (⟨dst,.asg x sl,g,af⟩::r) nv σ d acc K t:=h
theorem Ln (h:TrO Γ (⟨dst,.pick x y z,g,af⟩::r) nv σ d acc K t):TrO Γ (⟨dst,.pick x y z,g,af⟩::r) nv σ d acc K t:=h
theorem Li (h:TrO Γ (⟨dst,.call x xs,g,af⟩::r) nv σ d acc K t):TrO Γ (⟨dst,.call x xs,g,af⟩::r) nv σ d acc K t:=h
theorem MQ (h:TrO Γ (⟨dst,.ext x m,g,af⟩::r) nv σ d acc K t):TrO Γ (⟨dst,.ext x m,g,af⟩::r) nv σ d acc K t:=h
theorem MV (h:TrO Γ (⟨dst,.len bb x,g,af⟩::r) nv σ d acc K t):TrO Γ (⟨dst,.len bb x,g,af⟩::r) nv σ d acc K t:=h
theorem MS (h:TrO Γ (⟨dst,.ixA m x y,g,af⟩::r) nv σ d acc K t):TrO Γ (⟨dst,.ixA m x y,g,af⟩::r) nv σ d acc K t:=h
theorem Of (h:TrO Γ (⟨dst,.un uo x,g,af⟩::r) nv σ d acc K t):TrO Γ (⟨dst,.un uo x,g,af⟩::r) nv σ d acc K t:=h
theorem MM (h:TrO Γ (⟨dst,.box x m m2,g,af⟩::r) nv σ d acc K t):TrO Γ (⟨dst,.box x m m2,g,af⟩::r) nv σ d acc K t:=h
theorem MZ (h:TrO Γ (⟨dst,.new dd m m2,g,af⟩::r) nv σ d acc K t):TrO Γ (⟨dst,.new dd m m2,g,af⟩::r) nv σ d acc K t:=h
theorem Oe (h:TrO Γ (⟨dst,.st m x y,g,af⟩::r) nv σ d acc K t):TrO Γ (⟨dst,.st m x y,g,af⟩::r) nv σ d acc K t:=h
theorem Lh (h:TrO Γ (⟨dst,.bldS m m2 dd m3 ps,g,af⟩::r) nv σ d acc K t):TrO Γ (⟨dst,.bldS m m2 dd m3 ps,g,af⟩::r) nv σ d acc K t:=h
theorem MI (h:TrO Γ (⟨dst,.app m m2 m3 x y,g,af⟩::r) nv σ d acc K t):TrO Γ (⟨dst,.app m m2 m3 x y,g,af⟩::r) nv σ d acc K t:=h
theorem ML (h:TrO Γ (⟨dst,.bld ds ps2,g,af⟩::r) nv σ d acc K t):TrO Γ (⟨dst,.bld ds ps2,g,af⟩::r) nv σ d acc K t:=h
theorem MN (h:TrO Γ (⟨dst,.cvt k x,g,af⟩::r) nv σ d acc K t):TrO Γ (⟨dst,.cvt k x,g,af⟩::r) nv σ d acc K t:=h
theorem MY (h:TrO Γ (⟨dst,.mkS m m2 m3 dd x y,g,af⟩::r) nv σ d acc K t):TrO Γ (⟨dst,.mkS m m2 m3 dd x y,g,af⟩::r) nv σ d acc K t:=h
theorem JK (h:TrO Γ (⟨dst,.nilck x,g,af⟩::r) nv σ d acc K t):TrO Γ (⟨dst,.nilck x,g,af⟩::r) nv σ d acc K t:=h
theorem Lj (h:TrO Γ (⟨dst,.fld m m2 false x,g,af⟩::r) nv σ d acc K t):TrO Γ (⟨dst,.fld m m2 false x,g,af⟩::r) nv σ d acc K t:=h
theorem Ll (h:TrO Γ (⟨dst,.fld m m2 true x,g,af⟩::r) nv σ d acc K t):TrO Γ (⟨dst,.fld m m2 true x,g,af⟩::r) nv σ d acc K t:=h
theorem MP (h:TrO Γ (⟨dst,.eqB bb x y,g,af⟩::r) nv σ d acc K t):TrO Γ (⟨dst,.eqB bb x y,g,af⟩::r) nv σ d acc K t:=h
theorem MO (h:TrO Γ (⟨dst,.eqA m bb x y,g,af⟩::r) nv σ d acc K t):TrO Γ (⟨dst,.eqA m bb x y,g,af⟩::r) nv σ d acc K t:=h
theorem MW (h:TrO Γ (⟨dst,.max xs,g,af⟩::r) nv σ d acc K t):TrO Γ (⟨dst,.max xs,g,af⟩::r) nv σ d acc K t:=h
theorem MX (h:TrO Γ (⟨dst,.min xs,g,af⟩::r) nv σ d acc K t):TrO Γ (⟨dst,.min xs,g,af⟩::r) nv σ d acc K t:=h
theorem Na (h:TrO Γ (⟨dst,.slc m x lo hi,g,af⟩::r) nv σ d acc K t):TrO Γ (⟨dst,.slc m x lo hi,g,af⟩::r) nv σ d acc K t:=h
end
structure Hid (p:Prop):Prop where
 h:p
theorem A (n:Nat) {q:Prop} (hq:q) (f:Ct n->Hid q->p:=by
 intro c h
 repeat (
  replace c:=Ct.dec c
  first
  | ((with_reducible refine MR ?_);refine Kk rfl ?_)
  | ((with_reducible refine NZ ?_);refine LM rfl rfl ?_)
  | with_reducible refine Kj ?_
  | ((with_reducible refine Lk ?_);first|refine Jl rfl rfl ?_|refine Hv rfl rfl ?_)
  | ((with_reducible refine MT ?_);first|((with_reducible refine Dp ?_);refine Ra λq hq=>FP rfl rfl rfl (CS hq) rfl ?_)|refine FP rfl rfl rfl rfl rfl ?_|refine JA rfl rfl rfl ?_|refine FP rfl rfl rfl (CS (by assumption)) rfl ?_)
  | ((with_reducible refine MK ?_);first|((with_reducible refine Cm ?_);first|refine Qe λhq=>FV rfl rfl rfl rfl (by first|exact hq|exact⟨rfl,hq⟩) ?_|refine Qe λhq=>Dv rfl rfl rfl rfl hq ?_)|refine FV rfl rfl rfl rfl (by first|exact rfl|exact trivial|assumption|decide|exact⟨rfl,by assumption⟩|exact⟨rfl,by decide⟩) ?_|refine Dv rfl rfl rfl rfl trivial ?_)
  | with_reducible refine LR ?_
  | with_reducible refine LP ?_
  | with_reducible refine Kl ?_
  | ((with_reducible refine MJ ?_);first|refine JZ rfl rfl ?_|((with_reducible refine Cm ?_);refine Qe λhq=>Gm rfl rfl rfl hq ?_)|refine HQ inferInstance rfl rfl ?_|refine Hu rfl rfl ?_|refine Gn (by first|rfl|simp) rfl rfl rfl ?_|refine Ht (by first|rfl|simp) rfl rfl rfl ?_|refine FE rfl rfl rfl ?_)
  | with_reducible refine EA ?_
  | with_reducible refine Gu ?_
  | with_reducible refine FN ?_
  | with_reducible refine Jo ?_
  | with_reducible refine Kn ?_
  | with_reducible refine LQ ?_
  | with_reducible refine Km ?_
  | with_reducible refine Gs ?_
  | with_reducible refine Gt ?_
  | with_reducible refine FL ?_
  | with_reducible refine FI ?_
  | with_reducible refine FM ?_
  | with_reducible refine Fk ?_
  | with_reducible refine FK ?_
  | ((with_reducible refine Og ?_);refine FJ rfl ?_)
  | ((with_reducible refine Oh ?_);refine Fj rfl ?_)
  | ((with_reducible refine NY ?_);first|refine FO rfl ?_|refine Fl rfl ?_)
  | ((with_reducible refine Ln ?_);first|refine Fg rfl rfl rfl rfl ?_|refine Ez rfl rfl rfl rfl ?_)
  | ((with_reducible refine Li ?_);first|((with_reducible refine Dp ?_);first|(refine EX rfl rfl rfl rfl rfl ?_ ?_ (λ_=>rfl) λ_ _=>?_;(· simp);(· (repeat' first|exact⟨rfl,(by first|rfl|(simp only[Lo];rfl)|(simp only[OQ];rfl)|(simp only[Lo,OQ];rfl))⟩|refine exP ?_|refine exU ?_|apply Exists.intro|(dsimp only;exact⟨rfl,(by first|rfl|(simp only[Lo];rfl)|(simp only[OQ];rfl)|(simp only[Lo,OQ];rfl))⟩))))|(refine GU rfl rfl rfl rfl rfl ?_ ?_ λ_ _=>?_;(· simp);(· (repeat' first|exact⟨rfl,(by first|rfl|(simp only[Lo];rfl)|(simp only[OQ];rfl)|(simp only[Lo,OQ];rfl))⟩|refine exP ?_|refine exU ?_|apply Exists.intro|(dsimp only;exact⟨rfl,(by first|rfl|(simp only[Lo];rfl)|(simp only[OQ];rfl)|(simp only[Lo,OQ];rfl))⟩))))|(refine GS rfl rfl rfl rfl rfl ?_ ?_ (λ_=>rfl) λ_ _=>?_;(· simp);(· (repeat' first|exact⟨rfl,(by first|rfl|(simp only[Lo];rfl)|(simp only[OQ];rfl)|(simp only[Lo,OQ];rfl))⟩|refine exP ?_|refine exU ?_|apply Exists.intro|(dsimp only;exact⟨rfl,(by first|rfl|(simp only[Lo];rfl)|(simp only[OQ];rfl)|(simp only[Lo,OQ];rfl))⟩))))|(refine FW rfl rfl rfl rfl rfl ?_ ?_ λ_ _=>?_;(· simp);(· (repeat' first|exact⟨rfl,(by first|rfl|(simp only[Lo];rfl)|(simp only[OQ];rfl)|(simp only[Lo,OQ];rfl))⟩|refine exP ?_|refine exU ?_|apply Exists.intro|(dsimp only;exact⟨rfl,(by first|rfl|(simp only[Lo];rfl)|(simp only[OQ];rfl)|(simp only[Lo,OQ];rfl))⟩))))|(refine GR rfl rfl rfl rfl rfl ?_ ?_ λ_ _=>?_;(· simp);(· (repeat' first|exact⟨rfl,(by first|rfl|(simp only[Lo];rfl)|(simp only[OQ];rfl)|(simp only[Lo,OQ];rfl))⟩|refine exP ?_|refine exU ?_|apply Exists.intro|(dsimp only;exact⟨rfl,(by first|rfl|(simp only[Lo];rfl)|(simp only[OQ];rfl)|(simp only[Lo,OQ];rfl))⟩)))))|(refine EY rfl rfl rfl rfl rfl (by assumption) ?_ ?_ rfl ?_;(· simp);(· (repeat' first|exact⟨rfl,(by first|rfl|(simp only[Lo];rfl)|(simp only[OQ];rfl)|(simp only[Lo,OQ];rfl))⟩|refine exP ?_|refine exU ?_|apply Exists.intro|(dsimp only;exact⟨rfl,(by first|rfl|(simp only[Lo];rfl)|(simp only[OQ];rfl)|(simp only[Lo,OQ];rfl))⟩))))|(refine GX rfl rfl rfl rfl rfl (by assumption) ?_ ?_ ?_;(· simp);(· (repeat' first|exact⟨rfl,(by first|rfl|(simp only[Lo];rfl)|(simp only[OQ];rfl)|(simp only[Lo,OQ];rfl))⟩|refine exP ?_|refine exU ?_|apply Exists.intro|(dsimp only;exact⟨rfl,(by first|rfl|(simp only[Lo];rfl)|(simp only[OQ];rfl)|(simp only[Lo,OQ];rfl))⟩))))|(refine GW rfl rfl rfl rfl rfl (by assumption) ?_ ?_ rfl ?_;(· simp);(· (repeat' first|exact⟨rfl,(by first|rfl|(simp only[Lo];rfl)|(simp only[OQ];rfl)|(simp only[Lo,OQ];rfl))⟩|refine exP ?_|refine exU ?_|apply Exists.intro|(dsimp only;exact⟨rfl,(by first|rfl|(simp only[Lo];rfl)|(simp only[OQ];rfl)|(simp only[Lo,OQ];rfl))⟩))))|(refine FX rfl rfl rfl rfl rfl (by assumption) ?_ ?_ ?_;(· simp);(· (repeat' first|exact⟨rfl,(by first|rfl|(simp only[Lo];rfl)|(simp only[OQ];rfl)|(simp only[Lo,OQ];rfl))⟩|refine exP ?_|refine exU ?_|apply Exists.intro|(dsimp only;exact⟨rfl,(by first|rfl|(simp only[Lo];rfl)|(simp only[OQ];rfl)|(simp only[Lo,OQ];rfl))⟩))))|(refine GV rfl rfl rfl rfl rfl (by assumption) ?_ ?_ ?_;(· simp);(· (repeat' first|exact⟨rfl,(by first|rfl|(simp only[Lo];rfl)|(simp only[OQ];rfl)|(simp only[Lo,OQ];rfl))⟩|refine exP ?_|refine exU ?_|apply Exists.intro|(dsimp only;exact⟨rfl,(by first|rfl|(simp only[Lo];rfl)|(simp only[OQ];rfl)|(simp only[Lo,OQ];rfl))⟩))))|((with_reducible refine Cm ?_);first|refine Qe λhq=>Hw rfl rfl rfl rfl rfl (by first|rfl|simp) rfl hq rfl ?_|refine Qe λhq=>Jm rfl rfl rfl rfl rfl (by first|rfl|simp) rfl hq rfl ?_|refine Qe λhq=>FG rfl rfl rfl rfl rfl (by first|rfl|simp) rfl hq (by exact Em _) rfl ?_))
  | ((with_reducible refine MQ ?_);refine Ke rfl rfl rfl ?_)
  | ((with_reducible refine MV ?_);first|refine Hx rfl rfl ?_|refine Gq rfl rfl ?_|refine Gp rfl rfl ?_|refine Gr rfl rfl ?_)
  | ((with_reducible refine MS ?_);first|((with_reducible refine Dp ?_);refine Ra λq hq=>DJ rfl rfl rfl hq rfl ?_)|((with_reducible refine Cm ?_);refine Qe λhq=>ZR (by first|rfl|simp) rfl rfl rfl rfl hq ?_)|refine DJ rfl rfl rfl (by assumption) rfl ?_)
  | ((with_reducible refine Of ?_);refine LO rfl rfl rfl rfl trivial ?_)
  | ((with_reducible refine MM ?_);refine Ka rfl rfl rfl rfl rfl ?_)
  | ((with_reducible refine MZ ?_);refine Ki rfl ?_)
  | ((with_reducible refine Oe ?_);first|((with_reducible refine Dp ?_);refine Ra λq hq=>TC rfl rfl rfl rfl rfl rfl rfl (by simp) hq rfl rfl rfl rfl rfl ?_)|refine MF rfl rfl rfl rfl rfl rfl rfl rfl rfl ?_|refine MG rfl rfl rfl rfl rfl rfl rfl rfl rfl (by repeat' first|exact EvL.nil rfl|apply EvL.cons rfl) ?_|refine TC rfl rfl rfl rfl rfl rfl rfl (by simp) (by assumption) rfl rfl rfl rfl rfl ?_)
  | ((with_reducible refine MU ?_);first|((with_reducible refine Dp ?_);refine Ra λq hq=>FQ rfl rfl rfl (CS hq) rfl (by repeat' first|exact EvL.nil rfl|apply EvL.cons rfl) ?_)|refine FQ rfl rfl rfl rfl rfl (by repeat' first|exact EvL.nil rfl|apply EvL.cons rfl) ?_|refine JB rfl rfl rfl (by repeat' first|exact EvL.nil rfl|apply EvL.cons rfl) ?_|refine FQ rfl rfl rfl (CS (by assumption)) rfl (by repeat' first|exact EvL.nil rfl|apply EvL.cons rfl) ?_)
  | ((with_reducible refine Lh ?_);refine Jx inferInstance rfl rfl rfl (by simp) rfl rfl rfl ?_)
  | ((with_reducible refine MI ?_);((with_reducible refine Cm ?_);refine Qe λhq=>Akq _ _ _ rfl rfl rfl rfl rfl rfl rfl (by first|(simp;done)|(simp;omega)) (by first|rfl|exact SP _ _ rfl|exact SP _ _ (by simp)|exact AiK _ _ _|simp[List.map_take]) rfl rfl (by simp) (by first|rfl|exact QO _ _ rfl|exact QO _ _ (by simp)) (λ_=>rfl) rfl hq ?_))
  | ((with_reducible refine ML ?_);refine MD rfl (by repeat' first|apply EvP.cons rfl|exact EvP.nil rfl) rfl (by repeat' first|exact EvL.nil rfl|apply EvL.cons rfl) ?_)
  | ((with_reducible refine MN ?_);refine Kb rfl rfl ?_)
  | ((with_reducible refine MY ?_);((with_reducible refine Cm ?_);refine Qe λhq=>ME inferInstance rfl rfl rfl rfl hq rfl ?_))
  | ((with_reducible refine JK ?_);refine Io rfl rfl rfl ?_)
  | ((with_reducible refine Lj ?_);refine KV rfl rfl rfl ?_)
  | ((with_reducible refine Ll ?_);refine KW rfl rfl rfl (by repeat' first|exact EvL.nil rfl|apply EvL.cons rfl) ?_)
  | ((with_reducible refine MP ?_);first|refine Jy rfl rfl rfl ?_|refine Jz rfl rfl rfl ?_)
  | ((with_reducible refine MO ?_);refine Kc rfl rfl rfl rfl (by repeat' first|exact trivial|refine⟨rfl,?_⟩) rfl ?_)
  | ((with_reducible refine MW ?_);refine Kg rfl rfl rfl ?_)
  | ((with_reducible refine MX ?_);refine Kh rfl rfl rfl ?_)
  | ((with_reducible refine Na ?_);((with_reducible refine Cm ?_);first|refine Qe λhq=>Fh rfl rfl rfl (λ_=>rfl) rfl hq ?_|refine Qe λhq=>Fi rfl rfl rfl (λ_=>rfl) rfl hq ?_|refine Qe λhq=>AbQ (by first|rfl|simp) rfl rfl rfl rfl rfl hq ?_|refine Qe λhq=>Agh (by first|rfl|simp) rfl rfl rfl rfl rfl hq ?_|refine Qe λhq=>Hy rfl rfl rfl rfl (λ_=>rfl) rfl hq ?_))
  | ((with_reducible refine Lm ?_);refine FH (by kernel_rfl) ?_)
  )
 exact h.h):p:=f ⟨⟩ ⟨hq⟩
theorem B (h:p:=by
 repeat' first
 | ((with_reducible refine MR ?_);first|((with_reducible refine OE ?_);refine Pj rfl ?_ ?_)|refine Kk rfl ?_)
 | ((with_reducible refine NZ ?_);refine LM rfl rfl ?_)
 | with_reducible refine Kj ?_
 | ((with_reducible refine Lk ?_);first|refine Jl rfl rfl ?_|refine Hv rfl rfl ?_)
 | ((with_reducible refine MT ?_);first|((with_reducible refine Dp ?_);refine Ra λq hq=>FP rfl rfl rfl (CS hq) rfl ?_)|refine FP rfl rfl rfl rfl rfl ?_|refine JA rfl rfl rfl ?_|refine FP rfl rfl rfl (CS (by assumption)) rfl ?_)
 | ((with_reducible refine MK ?_);first|((with_reducible refine Cm ?_);first|refine Qe λhq=>FV rfl rfl rfl rfl (by first|exact hq|exact⟨rfl,hq⟩) ?_|refine Qe λhq=>Dv rfl rfl rfl rfl hq ?_)|refine FV rfl rfl rfl rfl (by first|exact rfl|exact trivial|assumption|decide|exact⟨rfl,by assumption⟩|exact⟨rfl,by decide⟩) ?_|refine Dv rfl rfl rfl rfl trivial ?_)
 | with_reducible refine LR ?_
 | with_reducible refine LP ?_
 | with_reducible refine Kl ?_
 | ((with_reducible refine MJ ?_);first|refine JZ rfl rfl ?_|((with_reducible refine Cm ?_);refine Qe λhq=>Gm rfl rfl rfl hq ?_)|refine HQ inferInstance rfl rfl ?_|refine Hu rfl rfl ?_|refine Gn (by first|rfl|simp) rfl rfl rfl ?_|refine Ht (by first|rfl|simp) rfl rfl rfl ?_|refine FE rfl rfl rfl ?_)
 | with_reducible refine EA ?_
 | with_reducible refine Gu ?_
 | with_reducible refine FN ?_
 | with_reducible refine Jo ?_
 | with_reducible refine Kn ?_
 | with_reducible refine LQ ?_
 | with_reducible refine Km ?_
 | with_reducible refine Gs ?_
 | with_reducible refine Gt ?_
 | with_reducible refine FL ?_
 | with_reducible refine FI ?_
 | with_reducible refine FM ?_
 | with_reducible refine Fk ?_
 | with_reducible refine FK ?_
 | ((with_reducible refine Og ?_);refine FJ rfl ?_)
 | ((with_reducible refine Oh ?_);refine Fj rfl ?_)
 | ((with_reducible refine NY ?_);first|refine ZS rfl ?_ ?_|refine FO rfl ?_|refine Fl rfl ?_)
 | ((with_reducible refine Ln ?_);first|refine Fg rfl rfl rfl rfl ?_|refine Ez rfl rfl rfl rfl ?_)
 | ((with_reducible refine Li ?_);first|((with_reducible refine Dp ?_);first|(refine EX rfl rfl rfl rfl rfl ?_ ?_ (λ_=>rfl) λ_ _=>?_;(· simp);(· (repeat' first|exact⟨rfl,(by first|rfl|(simp only[Lo];rfl)|(simp only[OQ];rfl)|(simp only[Lo,OQ];rfl))⟩|refine exP ?_|refine exU ?_|apply Exists.intro|(dsimp only;exact⟨rfl,(by first|rfl|(simp only[Lo];rfl)|(simp only[OQ];rfl)|(simp only[Lo,OQ];rfl))⟩))))|(refine GU rfl rfl rfl rfl rfl ?_ ?_ λ_ _=>?_;(· simp);(· (repeat' first|exact⟨rfl,(by first|rfl|(simp only[Lo];rfl)|(simp only[OQ];rfl)|(simp only[Lo,OQ];rfl))⟩|refine exP ?_|refine exU ?_|apply Exists.intro|(dsimp only;exact⟨rfl,(by first|rfl|(simp only[Lo];rfl)|(simp only[OQ];rfl)|(simp only[Lo,OQ];rfl))⟩))))|(refine GS rfl rfl rfl rfl rfl ?_ ?_ (λ_=>rfl) λ_ _=>?_;(· simp);(· (repeat' first|exact⟨rfl,(by first|rfl|(simp only[Lo];rfl)|(simp only[OQ];rfl)|(simp only[Lo,OQ];rfl))⟩|refine exP ?_|refine exU ?_|apply Exists.intro|(dsimp only;exact⟨rfl,(by first|rfl|(simp only[Lo];rfl)|(simp only[OQ];rfl)|(simp only[Lo,OQ];rfl))⟩))))|(refine FW rfl rfl rfl rfl rfl ?_ ?_ λ_ _=>?_;(· simp);(· (repeat' first|exact⟨rfl,(by first|rfl|(simp only[Lo];rfl)|(simp only[OQ];rfl)|(simp only[Lo,OQ];rfl))⟩|refine exP ?_|refine exU ?_|apply Exists.intro|(dsimp only;exact⟨rfl,(by first|rfl|(simp only[Lo];rfl)|(simp only[OQ];rfl)|(simp only[Lo,OQ];rfl))⟩))))|(refine GR rfl rfl rfl rfl rfl ?_ ?_ λ_ _=>?_;(· simp);(· (repeat' first|exact⟨rfl,(by first|rfl|(simp only[Lo];rfl)|(simp only[OQ];rfl)|(simp only[Lo,OQ];rfl))⟩|refine exP ?_|refine exU ?_|apply Exists.intro|(dsimp only;exact⟨rfl,(by first|rfl|(simp only[Lo];rfl)|(simp only[OQ];rfl)|(simp only[Lo,OQ];rfl))⟩)))))|(refine EY rfl rfl rfl rfl rfl (by assumption) ?_ ?_ rfl ?_;(· simp);(· (repeat' first|exact⟨rfl,(by first|rfl|(simp only[Lo];rfl)|(simp only[OQ];rfl)|(simp only[Lo,OQ];rfl))⟩|refine exP ?_|refine exU ?_|apply Exists.intro|(dsimp only;exact⟨rfl,(by first|rfl|(simp only[Lo];rfl)|(simp only[OQ];rfl)|(simp only[Lo,OQ];rfl))⟩))))|(refine GX rfl rfl rfl rfl rfl (by assumption) ?_ ?_ ?_;(· simp);(· (repeat' first|exact⟨rfl,(by first|rfl|(simp only[Lo];rfl)|(simp only[OQ];rfl)|(simp only[Lo,OQ];rfl))⟩|refine exP ?_|refine exU ?_|apply Exists.intro|(dsimp only;exact⟨rfl,(by first|rfl|(simp only[Lo];rfl)|(simp only[OQ];rfl)|(simp only[Lo,OQ];rfl))⟩))))|(refine GW rfl rfl rfl rfl rfl (by assumption) ?_ ?_ rfl ?_;(· simp);(· (repeat' first|exact⟨rfl,(by first|rfl|(simp only[Lo];rfl)|(simp only[OQ];rfl)|(simp only[Lo,OQ];rfl))⟩|refine exP ?_|refine exU ?_|apply Exists.intro|(dsimp only;exact⟨rfl,(by first|rfl|(simp only[Lo];rfl)|(simp only[OQ];rfl)|(simp only[Lo,OQ];rfl))⟩))))|(refine FX rfl rfl rfl rfl rfl (by assumption) ?_ ?_ ?_;(· simp);(· (repeat' first|exact⟨rfl,(by first|rfl|(simp only[Lo];rfl)|(simp only[OQ];rfl)|(simp only[Lo,OQ];rfl))⟩|refine exP ?_|refine exU ?_|apply Exists.intro|(dsimp only;exact⟨rfl,(by first|rfl|(simp only[Lo];rfl)|(simp only[OQ];rfl)|(simp only[Lo,OQ];rfl))⟩))))|(refine GV rfl rfl rfl rfl rfl (by assumption) ?_ ?_ ?_;(· simp);(· (repeat' first|exact⟨rfl,(by first|rfl|(simp only[Lo];rfl)|(simp only[OQ];rfl)|(simp only[Lo,OQ];rfl))⟩|refine exP ?_|refine exU ?_|apply Exists.intro|(dsimp only;exact⟨rfl,(by first|rfl|(simp only[Lo];rfl)|(simp only[OQ];rfl)|(simp only[Lo,OQ];rfl))⟩))))|((with_reducible refine Cm ?_);first|refine Qe λhq=>Hw rfl rfl rfl rfl rfl (by first|rfl|simp) rfl hq rfl ?_|refine Qe λhq=>Jm rfl rfl rfl rfl rfl (by first|rfl|simp) rfl hq rfl ?_|refine Qe λhq=>FG rfl rfl rfl rfl rfl (by first|rfl|simp) rfl hq (by exact Em _) rfl ?_))
 | ((with_reducible refine MQ ?_);refine Ke rfl rfl rfl ?_)
 | ((with_reducible refine MV ?_);first|refine Hx rfl rfl ?_|refine Gq rfl rfl ?_|refine Gp rfl rfl ?_|refine Gr rfl rfl ?_)
 | ((with_reducible refine MS ?_);first|((with_reducible refine Dp ?_);refine Ra λq hq=>DJ rfl rfl rfl hq rfl ?_)|((with_reducible refine Cm ?_);refine Qe λhq=>ZR (by first|rfl|simp) rfl rfl rfl rfl hq ?_)|refine DJ rfl rfl rfl (by assumption) rfl ?_)
 | ((with_reducible refine Of ?_);refine LO rfl rfl rfl rfl trivial ?_)
 | ((with_reducible refine MM ?_);refine Ka rfl rfl rfl rfl rfl ?_)
 | ((with_reducible refine MZ ?_);refine Ki rfl ?_)
 | ((with_reducible refine Oe ?_);first|((with_reducible refine Dp ?_);refine Ra λq hq=>TC rfl rfl rfl rfl rfl rfl rfl (by simp) hq rfl rfl rfl rfl rfl ?_)|refine MF rfl rfl rfl rfl rfl rfl rfl rfl rfl ?_|refine MG rfl rfl rfl rfl rfl rfl rfl rfl rfl (by repeat' first|exact EvL.nil rfl|apply EvL.cons rfl) ?_|refine TC rfl rfl rfl rfl rfl rfl rfl (by simp) (by assumption) rfl rfl rfl rfl rfl ?_)
 | ((with_reducible refine MU ?_);first|((with_reducible refine Dp ?_);refine Ra λq hq=>FQ rfl rfl rfl (CS hq) rfl (by repeat' first|exact EvL.nil rfl|apply EvL.cons rfl) ?_)|refine FQ rfl rfl rfl rfl rfl (by repeat' first|exact EvL.nil rfl|apply EvL.cons rfl) ?_|refine JB rfl rfl rfl (by repeat' first|exact EvL.nil rfl|apply EvL.cons rfl) ?_|refine FQ rfl rfl rfl (CS (by assumption)) rfl (by repeat' first|exact EvL.nil rfl|apply EvL.cons rfl) ?_)
 | ((with_reducible refine Lh ?_);refine Jx inferInstance rfl rfl rfl (by simp) rfl rfl rfl ?_)
 | ((with_reducible refine MI ?_);((with_reducible refine Cm ?_);refine Qe λhq=>Akq _ _ _ rfl rfl rfl rfl rfl rfl rfl (by first|(simp;done)|(simp;omega)) (by first|rfl|exact SP _ _ rfl|exact SP _ _ (by simp)|exact AiK _ _ _|simp[List.map_take]) rfl rfl (by simp) (by first|rfl|exact QO _ _ rfl|exact QO _ _ (by simp)) (λ_=>rfl) rfl hq ?_))
 | ((with_reducible refine ML ?_);refine MD rfl (by repeat' first|apply EvP.cons rfl|exact EvP.nil rfl) rfl (by repeat' first|exact EvL.nil rfl|apply EvL.cons rfl) ?_)
 | ((with_reducible refine MN ?_);refine Kb rfl rfl ?_)
 | ((with_reducible refine MY ?_);((with_reducible refine Cm ?_);refine Qe λhq=>ME inferInstance rfl rfl rfl rfl hq rfl ?_))
 | ((with_reducible refine JK ?_);refine Io rfl rfl rfl ?_)
 | ((with_reducible refine Lj ?_);refine KV rfl rfl rfl ?_)
 | ((with_reducible refine Ll ?_);refine KW rfl rfl rfl (by repeat' first|exact EvL.nil rfl|apply EvL.cons rfl) ?_)
 | ((with_reducible refine MP ?_);first|refine Jy rfl rfl rfl ?_|refine Jz rfl rfl rfl ?_)
 | ((with_reducible refine MO ?_);refine Kc rfl rfl rfl rfl (by repeat' first|exact trivial|refine⟨rfl,?_⟩) rfl ?_)
 | ((with_reducible refine MW ?_);refine Kg rfl rfl rfl ?_)
 | ((with_reducible refine MX ?_);refine Kh rfl rfl rfl ?_)
 | ((with_reducible refine Na ?_);((with_reducible refine Cm ?_);first|refine Qe λhq=>Fh rfl rfl rfl (λ_=>rfl) rfl hq ?_|refine Qe λhq=>Fi rfl rfl rfl (λ_=>rfl) rfl hq ?_|refine Qe λhq=>AbQ (by first|rfl|simp) rfl rfl rfl rfl rfl hq ?_|refine Qe λhq=>Agh (by first|rfl|simp) rfl rfl rfl rfl rfl hq ?_|refine Qe λhq=>Hy rfl rfl rfl rfl (λ_=>rfl) rfl hq ?_))
 | ((with_reducible refine Lm ?_);refine FH (by kernel_rfl) ?_)
 | ((with_reducible refine Od ?_);exact Aeg rfl (by first|(simp;done)|(simp;omega)|rfl|(simp[Qr,Qm];done)) (by first|rfl|(simp only[Lo];rfl)|(simp only[OQ];rfl)|(simp only[Lo,OQ];rfl)) rfl (by first|(simp;done)|(simp;omega)|rfl|(simp[Qr,Qm];done)) (by first|rfl|(simp only[Lo];rfl)|(simp only[OQ];rfl)|(simp only[Lo,OQ];rfl)))
 | ((with_reducible refine Nv ?_);exact Sq rfl (by first|(simp;done)|(simp;omega)|rfl|(simp[Qr,Qm];done)) (by first|rfl|(simp only[Lo];rfl)|(simp only[OQ];rfl)|(simp only[Lo,OQ];rfl)) rfl (by first|(simp;done)|(simp;omega)|rfl|(simp[Qr,Qm];done)) (by first|rfl|(simp only[Lo];rfl)|(simp only[OQ];rfl)|(simp only[Lo,OQ];rfl)) (by decide))
 | ((with_reducible refine Lp ?_);exact KI rfl (by first|(simp;done)|(simp;omega)|rfl|(simp[Qr,Qm];done)) (by first|rfl|(simp only[Lo];rfl)|(simp only[OQ];rfl)|(simp only[Lo,OQ];rfl)) rfl (by first|(simp;done)|(simp;omega)|rfl|(simp[Qr,Qm];done)) (by first|rfl|(simp only[Lo];rfl)|(simp only[OQ];rfl)|(simp only[Lo,OQ];rfl)))
 | ((with_reducible refine KA ?_);exact HM rfl (by first|(simp;done)|(simp;omega)|rfl|(simp[Qr,Qm];done)) (by first|rfl|(simp only[Lo];rfl)|(simp only[OQ];rfl)|(simp only[Lo,OQ];rfl)) rfl (by first|(simp;done)|(simp;omega)|rfl|(simp[Qr,Qm];done)) (by first|rfl|(simp only[Lo];rfl)|(simp only[OQ];rfl)|(simp only[Lo,OQ];rfl)) (by decide))
 | ((with_reducible refine Ob ?_);exact NF rfl (by first|(simp;done)|(simp;omega)|rfl|(simp[Qr,Qm];done)) (by first|rfl|(simp only[Lo];rfl)|(simp only[OQ];rfl)|(simp only[Lo,OQ];rfl)) rfl (by first|(simp;done)|(simp;omega)|rfl|(simp[Qr,Qm];done)) rfl (by first|(simp;done)|(simp;omega)|rfl|(simp[Qr,Qm];done)) (congrArg D.sl (QO _ _ (by first|rfl|simp))) rfl)
 | ((with_reducible refine Oa ?_);exact ND rfl (by first|(simp;done)|(simp;omega)|rfl|(simp[Qr,Qm];done)) rfl (by first|(simp;done)|(simp;omega)|rfl|(simp[Qr,Qm];done)) (by first|rfl|(simp only[Lo];rfl)|(simp only[OQ];rfl)|(simp only[Lo,OQ];rfl)) rfl (by first|(simp;done)|(simp;omega)|rfl|(simp[Qr,Qm];done)) (by first|rfl|(simp only[Lo];rfl)|(simp only[OQ];rfl)|(simp only[Lo,OQ];rfl)))
 | ((with_reducible refine Oc ?_);exact KJ (by decide) (by decide) rfl (by first|(simp;done)|(simp;omega)|rfl|(simp[Qr,Qm];done)) rfl (by first|(simp;done)|(simp;omega)|rfl|(simp[Qr,Qm];done)) rfl (by first|(simp;done)|(simp;omega)|rfl|(simp[Qr,Qm];done)) rfl (by first|(simp;done)|(simp;omega)|rfl|(simp[Qr,Qm];done)) (by first|rfl|(simp only[Lo];rfl)|(simp only[OQ];rfl)|(simp only[Lo,OQ];rfl)) rfl (by first|(simp;done)|(simp;omega)|rfl|(simp[Qr,Qm];done)) rfl)
 | with_reducible refine OC ?_
 | with_reducible refine Iq ?_
 | with_reducible refine Jr ?_
 | with_reducible refine NS ?_
 | refine Nf (by assumption) rfl ?_ ?_
 | refine YX ?_ ?_
 | exact trivial
 | refine⟨rfl,?_⟩
 | refine⟨QV rfl (by simp),?_⟩
 | refine⟨PL rfl,?_⟩
 | refine⟨AaN (AaM _ rfl),?_⟩
 | refine⟨AaN (YW rfl (by first|rfl|simp) rfl (by first|exact .head _|exact .tail _ (.head _)|exact .tail _ (.tail _ (.head _))|exact .tail _ (.tail _ (.tail _ (.head _))))),?_⟩
 | refine⟨AaN (Fs rfl (by omega) rfl (by first|exact .head _|exact .tail _ (.head _)|exact .tail _ (.tail _ (.head _))|exact .tail _ (.tail _ (.tail _ (.head _))))),?_⟩
 | refine⟨Adw rfl (by repeat' first|exact trivial|refine⟨Xa rfl,?_⟩|refine⟨AaM _ rfl,?_⟩|refine⟨YW rfl (by first|rfl|simp) rfl (by first|exact .head _|exact .tail _ (.head _)|exact .tail _ (.tail _ (.head _))|exact .tail _ (.tail _ (.tail _ (.head _)))),?_⟩|refine⟨Fs rfl (by omega) rfl (by first|exact .head _|exact .tail _ (.head _)|exact .tail _ (.tail _ (.head _))|exact .tail _ (.tail _ (.tail _ (.head _)))),?_⟩),?_⟩
 | refine⟨.inl rfl,?_⟩
 | refine⟨.inr ⟨_,_,_,_,rfl,rfl,rfl,rfl,Adw rfl (by repeat' first|exact trivial|refine⟨Xa rfl,?_⟩|refine⟨AaM _ rfl,?_⟩|refine⟨YW rfl (by first|rfl|simp) rfl (by first|exact .head _|exact .tail _ (.head _)|exact .tail _ (.tail _ (.head _))|exact .tail _ (.tail _ (.tail _ (.head _)))),?_⟩|refine⟨Fs rfl (by omega) rfl (by first|exact .head _|exact .tail _ (.head _)|exact .tail _ (.tail _ (.head _))|exact .tail _ (.tail _ (.tail _ (.head _)))),?_⟩)⟩,?_⟩
 | refine⟨.inr ⟨_,_,_,_,rfl,rfl,rfl,rfl,AaN (AaM _ rfl)⟩,?_⟩
 | refine⟨.inr ⟨_,_,_,_,rfl,rfl,rfl,rfl,AaN (YW rfl (by first|rfl|simp) rfl (by first|exact .head _|exact .tail _ (.head _)|exact .tail _ (.tail _ (.head _))|exact .tail _ (.tail _ (.tail _ (.head _)))))⟩,?_⟩
 | refine exP ?_
 | refine exU ?_
 | apply Exists.intro
 ):p:=h
inductive FrL:List D->List D->Prop
 | nil:FrL [] []
 | same (c:D) {l l':List D} (h:FrL l l'):FrL (c::l) (c::l')
 | row {s ty:Nat} {es l l':List D} (hp:∀ q∈es,Az q=true) (h:FrL l l'):FrL (.row s ty es::l) (.sl es::l')
theorem FrL.frr:∀ {cs cs':List D},FrL cs cs'->cs'.length=cs.length/\∀ (j:Nat) c c',cs[j]? =some c->cs'[j]? =some c'->c'=c\/∃ s ty es,c= .row s ty es/\(∀ q∈es,Az q=true)/\c'= .sl es
 | _,_,.nil=>⟨rfl,λj c c' h=>by simp at h⟩
 | _,_,.same c h=>by
  obtain⟨h1,h2⟩:=h.frr
  grind
 | _,_,.row (s:=s) (ty:=ty) (es:=es) hp h=>by
  obtain⟨h1,h2⟩:=h.frr
  grind
theorem Me {R:D->D->Prop} {z z':D} (h:R z z'):Each R [z] [z']:=by
 refine⟨rfl,λi e e' h1 h2=>?_⟩
 grind
theorem Atb {cs cs':List D} (h:FrL cs cs'):Each Frr [.agg cs] [.agg cs']:=Me h.frr
inductive Iz:List D->List D->Prop
 | nil:Iz [] []
 | same {c:D} (hc:plain c=true) {l l':List D} (h:Iz l l'):Iz (c::l) (c::l')
 | row {s ty:Nat} {l l':List D} (hs:0<s) (h:Iz l l'):Iz (.nils::l) (.row s ty []::l')
section
variable {Γ:Aq} {X:Type} {K:KR X} {t:Option X} {e:List (Nat×D)} {o:List (Nat×Ab)} {n nv:Nat} {d:Bool} {acc:List Cn}
 {r:List As} {g:Option (Nat×Bool)} {af:List Nat} {α:Type} {x y:Arg} {s ty gi vi off:Nat} {z z':D} {l:List α} {en:α->D}
theorem Aks {g' v' q s' ty':Nat} (hg:gOn e g=true) (hx:Aa e x=some (.optr gi vi 0 off)) (hy:Aa e y=some (.osl g' v' 0 q)) (hq:q=l.length) (ho:lkO o gi=some (vi,⟨false,true,s,ty,[z]⟩)) (ho':lkO o g'=some (v',⟨false,false,s',ty',l.map en⟩))
  (hp:∀ q,Az (en q)=true) (hb:Nat.ble (off+1) (cells z).length=true) (hz:Qu z off [.row s' ty' (l.map en)]=z')
  (h:TrO Γ r (nv+1) ⟨e,(gi,some (vi,⟨false,true,s,ty,[z']⟩))::(g',none)::o,n⟩ d (acc++[(gK g++(rdK x++(rdK y++[.o gi,.o g'])),[.o gi,.o g'],af)]) K t) (hrg:Ac gi=true:=by rfl) (_hne:Nat.beq g' gi=false:=by rfl) :
  TrO Γ (⟨none,.st 1 x y,g,af⟩::r) nv ⟨e,o,n⟩ d acc K t:=by
 subst hq;have hne':g'≠gi:=λh=>by simp_all
 have hpl:=Abf (l:=l) (en:=en) hp;refine TD (i:=0) (v:=.osl g' v' 0 l.length) (cs':=[.row s' ty' (l.map en)]) (wo:=[(g',none)]) (rk:=[.o g']) (z:=z) (es':=[z'])
  (c:=(v'=v'/\false=false/\l.length<=(l.map en).length/\∀ e∈l.map en,Az e=true)/\True/\([]:List (Nat×Ab)).all (λx=>([(g',none)]:List (Nat×Ab)).all λy=>x.1 != y.1)=true)
  hg hx hy rfl ho ?_ ?_ ⟨⟨rfl,rfl,by simp,hpl⟩,trivial,rfl⟩ rfl rfl rfl hb (by simp[hz]) (by simp[hne']) (by simp_all) hrg
 all_goals simp_all[cells,AF,Bs]
end
section
variable {α:Type} {c:α->List D} {w:Nat}
variable (hw:∀ q,(c q).length=w)
 include hw
end
section
variable {Γ:Aq} {X:Type} {K:KR X} {t:Option X} {e:List (Nat×D)} {o:List (Nat×Ab)} {n nv:Nat} {d:Bool} {acc:List Cn}
 {r:List As} {dst:Nat} {g:Option (Nat×Bool)} {af:List Nat} {α:Type}
variable {x y:Arg} {v z z':D} {s ty gi vi off w j:Nat} {fz var:Bool} {l:List α} {c:α->List D} {q q':α}
end
open Go
section
variable {Γ:Aq} {R:Type} {K:R->Au->S->Prop} {t:Option R} {σ τ:S} {b:Qi}
def HB (Γ:Aq) (b:Qi) (Q:Au->S->Prop):Nat->S->Prop
 | 0,_=>False
 | m+1,σ=>DWp Γ b (Au.then (λτ=>∃ τ',Chg τ τ'/\HB Γ b Q m τ') Q) σ
theorem HB.loop {Q:Au->S->Prop} (h:HB Γ b Q m σ):DWp Γ (.loop b) Q σ:=by
 refine⟨{ p:Nat×S // HB Γ b Q p.1 p.2 },λp=>p.1.2,λp=>p.1.1,⟨(m,σ),h⟩,.refl _,?_⟩
 rintro⟨⟨k,σ⟩,h⟩;simp only at h;cases k with
 | zero=>exact h.elim
 | succ k =>
  refine Bn b _ _ _ (λe τ hq=>?_) h
  cases e with
  | normal =>
   obtain⟨τ',h1,h2⟩:=hq;exact⟨⟨(k,τ'),h2⟩,Nat.lt_succ_self k,h1⟩
  | exit id=>exact hq
  | ret=>exact hq
def kUn (Γ:Aq) (b:Qi) (m:Nat) (K:R->Au->S->Prop):R->Au->S->Prop:=λr e τ =>
 match e with
 | .normal=>∃ τ',Chg τ τ'/\HB Γ b (K r) m τ'
 | e=>K r e τ
theorem Nc (h:Tr Γ b (kUn Γ b m K) σ t):∀ r,t=some r->HB Γ b (K r) (m+1) σ:=λr hr =>
 Bn b _ _ _ (λe τ hq=>by
  cases e with
  | normal=>exact hq
  | exit id=>exact hq
  | ret=>exact hq) (h r hr)
theorem Avo (m:Nat) (h:Tr Γ b (kUn Γ b m K) σ t):Tr Γ (.loop b) K σ t:=λr hr=>(Nc h r hr).loop
theorem Agv (h:Tr Γ b (kUn Γ b m K) τ t):TrX .normal (kUn Γ b (m+1) K) τ t:=λr hr=>⟨_,.refl _,Nc h r hr⟩
theorem AsW {id:Nat} (h:TrX (.exit id) K τ t):TrX (.exit id) (kUn Γ b m K) τ t:=h
theorem Ali {ops:List As} {nv:Nat} {d:Bool} {acc:List Cn} {K:KR R}:TrO Γ ops nv σ d acc K none:=λ_ hr=>nomatch hr
end
section
variable {α:Type} {Γ:Aq} {X:Type} {K:KR X} {t:Option X} {r:List As} {nv n:Nat} {e:List (Nat×D)} {o:List (Nat×Ab)} {d:Bool} {acc:List Cn} {g:Option (Nat×Bool)} {af:List Nat} {dst:Nat} {x y:Arg} {w:D} {gi vi ty:Nat}
inductive AyE where
 | i (n:Int)
 | u (n:Int)
 | s (l:List UInt8)
 deriving DecidableEq,Inhabited
end
section
variable {A B:Type} {Γ:Aq} {X:Type} {K:KR X} {t:Option X} {r:List As} {nv n:Nat} {e:List (Nat×D)} {o:List (Nat×Ab)} {d:Bool} {acc:List Cn} {g:Option (Nat×Bool)} {af:List Nat} {dst q:Nat} {x y fa:Arg} {gi vi ty len:Nat} {caps ds:List D} {c:Prop} {w:List (Nat×Ab)} {ps:List (Nat×Nat×Own)} {rk:List Key}
 {ptr:List (Nat×(Nat×Nat))} {enc:A->List D} {dec:List D->A} {f:A->Option B} {encR:B->D} {encE:B->List D} {b:B}
theorem LL {sp:Spec} {dst:Option Nat} {c2:Prop} {we:List (Nat×D)} {wo:List (Nat×Ab)} (hg:gOn e g=true) (hf:Aa e fa=some (.clo (4096+q) caps)) (hΓ:Γ q=some sp) (hr:(Af sp.ptr 0 caps).run ⟨e,o,n⟩=(c,ds,w,ps))
  (hk:(Af sp.ptr 0 caps).rd ⟨e,o,n⟩=rk) (hco:AX dst nv sp c ds w ps=⟨c2,we,wo⟩) (hc:c2)
  (h:TrO Γ r (nv+1) ⟨we++e,wo++o,n⟩ d (acc++[(gK g++(rdK fa++rk),we.map (λx=>.e x.1)++wo.map (λx=>.o x.1),af)]) K t) (hin:BI sp.kind=none:=by rfl) (hkb:Nat.blt q 4096=true:=by rfl) :
  TrO Γ (⟨dst,.call fa [],g,af⟩::r) nv ⟨e,o,n⟩ d acc K t:=by
 have hΓ':Γ (q+4096*AH [])=some sp:=hΓ;refine Al hg (c:=c2) (we:=we) (wo:=wo) (rd:=rdK fa++rk) ?_ ?_ hc h
 ·simp only[evalOp,R.run_bind,Bf,Option.getD_some,hf,HN,hkb,AJ,R.AM,hΓ',hin,List.nil_append,hr,R.run_pure,hco]
 ·simp only[evalOp,R.BO,Bf,Eu,Option.getD_some,hf,HN,hkb,AJ,R.AM,R.Fw,hΓ',hin,List.nil_append,hr,hk,R.Ew,List.append_nil]
theorem Adi (a:A) (hg:gOn e g=true) (hf:Aa e fa=some (.clo (4096+q) caps)) (hΓ:Γ q=some (OY ptr .val enc dec f encR encE)) (hde:∀ a,dec (enc a)=a) (hr:(Af ptr 0 caps).run ⟨e,o,n⟩=(c,ds,w,ps))
  (hk:(Af ptr 0 caps).rd ⟨e,o,n⟩=rk) (hc:c) (hds:ds=enc a) (hb:f a=some b)
  (h:TrO Γ r (nv+1) ⟨(dst,encR b)::e,(Ak ps (encE b)++w)++o,n⟩ d (acc++[(gK g++(rdK fa++rk),.e dst::(Ak ps (encE b)++w).map (λx=>.o x.1),af)]) K t) (hkb:Nat.blt q 4096=true:=by rfl) :
  TrO Γ (⟨some dst,.call fa [],g,af⟩::r) nv ⟨e,o,n⟩ d acc K t:=by
 subst hds;refine LL (hkb:=hkb) hg hf hΓ (sp:=OY ptr .val enc dec f encR encE) hr hk (c2:=c/\∃ a' b',enc a=enc a'/\f a'=some b') (we:=[(dst,encR b)]) (wo:=Ak ps (encE b)++w) ?_ ⟨hc,a,b,rfl,hb⟩ h;simp only[AX,Cb hde hb,DX hde hb,Ad];rfl
section
attribute [local simp] evalOp Ad AB strip
theorem Awk {parts:List (Nat×Nat×Arg)} {rs:List (Nat×Nat×D)} {cs:List D} (hg:gOn e g=true) (hp:Ce e parts=rs) (hf:DL len rs=true) (hl:Nat.blt 0 len=true) (hz:Dn (List.replicate len .nilf) rs=cs)
  (h:TrO Γ r (nv+1) ⟨(dst,.vsl dst nv len)::e,(dst,some (nv,⟨false,true,len,ty,[.agg cs]⟩))::o,n⟩ d (acc++[(gK g++Cv parts,[.e dst,.o dst],af)]) K t) :
  TrO Γ (⟨some dst,.bldV ty len parts,g,af⟩::r) nv ⟨e,o,n⟩ d acc K t:=by
 have hl':0<len:=by simp_all
 exact Al hg (c:=CY len rs/\0<len) (we:=[(dst,.vsl dst nv len)]) (wo:=[(dst,some (nv,⟨false,true,len,ty,[.agg cs]⟩))]) (rd:=Cv parts) (by simp_all[Ec]) (by simp[EM]) ⟨EF hf,hl'⟩ h
theorem Ane {k:IntKind} {a:Int} (hg:gOn e g=true) (hx:Aa e x=some (.vsl gi vi len)) (hy:Aa e y=some (.int k a)) (hi:0<=a/\a<len)
  (h:TrO Γ r (nv+1) ⟨(dst,.optr gi vi 0 a.toNat)::e,o,n⟩ d (acc++[(gK g++(rdK x++rdK y),[.e dst],af)]) K t) :
  TrO Γ (⟨some dst,.ixA 1 x y,g,af⟩::r) nv ⟨e,o,n⟩ d acc K t :=
 Al hg (c:=True) (we:=[(dst,.optr gi vi 0 a.toNat)]) (wo:=[]) (rd:=rdK x++rdK y) (by simp_all) (by simp_all) trivial h
theorem AsU (hg:gOn e g=true) (hx:Aa e x=some (.vsl gi vi len)) (h:TrO Γ r (nv+1) ⟨(dst,.int .i64 len)::e,o,n⟩ d (acc++[(gK g++rdK x,[.e dst],af)]) K t) :
  TrO Γ (⟨some dst,.len false x,g,af⟩::r) nv ⟨e,o,n⟩ d acc K t :=
 Al hg (c:=True) (we:=[(dst,.int .i64 len)]) (wo:=[]) (rd:=rdK x) (by simp[hx]) (by simp[hx]) trivial h
end
end
open Go.Sort
theorem IP {w:World} {b off ty n:Nat} {C:Array Value} {zs l':List Int} {os:Array Obj} (hl:l'.length=zs.length) (hb:b<w.heap.size) (hC:w.heap[b]? =some (.cells C ty (0,0))) (hcell:∀ (j:Nat) x,zs[j]? =some x->C[off+j]? =some (.int .i64 x)) :
  (grow (putRow (aA .i64) (Sort.ahead w n) b off l'.toArray) os).os=w.os/\(grow (putRow (aA .i64) (Sort.ahead w n) b off l'.toArray) os).tape=w.tape/\(grow (putRow (aA .i64) (Sort.ahead w n) b off l'.toArray) os).output=w.output /\
   w.heap.size<=(grow (putRow (aA .i64) (Sort.ahead w n) b off l'.toArray) os).heap.size/\(∀ b',b'<w.heap.size->b'≠b->(grow (putRow (aA .i64) (Sort.ahead w n) b off l'.toArray) os).heap[b']? =w.heap[b']?) /\
   ∃ C',(grow (putRow (aA .i64) (Sort.ahead w n) b off l'.toArray) os).heap[b]? =some (.cells C' ty (0,0))/\C'.size=C.size/\(∀ k,(k<off\/off+zs.length<=k)->C'[k]? =C[k]?)/\∀ (j:Nat) x,l'[j]? =some x->C'[off+j]? =some (.int .i64 x):=by
 have hheap:∀ k,k<w.heap.size->(grow (putRow (aA .i64) (Sort.ahead w n) b off l'.toArray) os).heap[k]? =if b=k then(w.heap[k]?).map (onCells (putCells (aA .i64) off l'.toArray))else w.heap[k]?:=by
  grind [grow,putRow,mapBlock,Sort.ahead]
 refine⟨rfl,rfl,rfl,?_,λb' hb' hne=>?_,putCells (aA .i64) off l'.toArray C,?_,?_,?_,?_⟩
 ·simp_all
 ·grind
 ·rw[hheap b hb,if_pos rfl,hC];rfl
 ·simp[putCells]
 ·intro k hk;simp only[putCells,Array.getElem?_mapIdx]
  grind
 simp_all[aAA,putCells]
theorem AnK {P:Program} {r:Bool} {fl:List Int->List Int} {fk:List Int->Nat} (h0:∀ zs,(fl zs).length=zs.length/\fk zs<=zs.length) (he:∀ (w:World) (a:Option Addr) (cap:Nat),Calls P f #[.slice a 0 cap] w λe w'=>e= .returned (if r then .slice a 0 cap else .tuple #[])/\w'=w) (hcon:∀ (blk off cap:Nat) (zs:List Int) (w:World),Holds (aA .i64) w blk off zs.toArray->blk<w.heap.size->zs.length<4611686018427387904->zs.length<=cap ->
   Calls P f #[.slice (some ⟨blk,off,none⟩) zs.length cap] w λe w'=>e= .returned (if r then .slice (some ⟨blk,off,none⟩) (fk zs) cap else .tuple #[]) /\
    ∃ n os,w'=grow (putRow (aA .i64) (Sort.ahead w n) blk off (fl zs).toArray) os):IB P f (inQ r fl fk):=by
 refine⟨λzs ks _=>h0 zs,λw a cap ks hks=>by obtain rfl:ks=[]:=hks;exact he w a cap,λw b off cap ty C zs ks hks hpos hbig hcap hC hcell=>?_⟩
 obtain rfl:ks=[]:=hks;have hb:b<w.heap.size:=(aAD.1 hC).1;have hH:Holds (aA .i64) w b off zs.toArray:=by
  intro j hj
  grind [World.cell?,World.frozen?]
 refine(hcon b off cap zs w hH hb hbig hcap).mono ?_;rintro e w' ⟨rfl,n,os,rfl⟩;exact⟨rfl,IP (h0 zs).1 hb hC hcell⟩
def AuG (r:Bool) (fl:List Int->List Int) (fk:List Int->Nat):Spec:=⟨[],.inpl (inQ r fl fk),λ_=>False,λ_=>.top,λ_=>[]⟩
theorem AjP (zs:List Int):(Lib.compact zs).length<=zs.length:=by
 grind [Lib.compact,Lib.compactUpTo]
def AdV (zs:List Int):List Int:=Lib.compact zs++List.replicate (zs.length-(Lib.compact zs).length) 0
theorem Em (zs:List Int):(AdV zs).take (Lib.compact zs).length=Lib.compact zs:=by simp[AdV]
def AaE (zs:List Int):List Int:=zs.mergeSort λx y=>decide (x<=y)
@[simp] theorem Ash (zs:List Int):(AaE zs).length=zs.length:=List.length_mergeSort zs
theorem AnX (zs:List Int):(AdV zs).length=zs.length:=by
 grind [AjP,AdV]
open Go.Proofs
def Alj (x:Int):Option Int:=chk (0<=x/\x<18446744073709551616) (some ((Lib.ctz 64 x.toNat:Nat):Int))
def DT (a:Int):List D:=[.int .u64 a]
def EU (ds:List D):Int:=uI (ds.getD 0 .top)
theorem Ko (a:Int):EU (DT a)=a:=rfl
instance:Py DT EU:=⟨Ko⟩
def LU (b:Int):D:=.int .i64 b
def LS (_b:Int):List D:=[]
def Ass:Dw.Spec:=OY [] .ground DT EU (λa=>Alj a) LU LS
theorem Mz:CF=Lib.deBruijn64tab:=by decide
theorem Avp {P:Program} {g:Nat} (he:Eh P f) (hg:P.globalNamed "math/bits.deBruijn64tab" = some g) (h:∀ (x:Nat) (w:World),x<18446744073709551616->(x≠0->TabAt g Lib.deBruijn64tab w)->Calls P f #[.int .u64 (x:Int)] w λe w'=>e= .returned (.int .i64 (Lib.ctz 64 x:Nat))/\w'=w):OW P f Ass:=by
 intro F0 hG;refine⟨he,λq hq=>(by cases hq),λ_ _ w F ds vs M hsub hF hfin hA hp=>?_,λφ hφ=>(by cases hφ),hG⟩
 obtain⟨a,b,rfl,hb⟩:=hp;have hr:0<=a/\a<18446744073709551616:=by
  grind [Alj,chk]
 have hfa:Alj a=some ((Lib.ctz 64 a.toNat:Nat):Int):=by grind [Alj,chk]
 have hb':(λa=>Alj a) a=some ((Lib.ctz 64 a.toNat:Nat):Int):=hfa
 cases hA with
 | ptr j d ds xs M m hp=>cases hp
 | val j d ds x xs M hp hn hx hr' =>
  cases hx;cases hr';have ht:a.toNat≠0->TabAt g Lib.deBruijn64tab w:=λ_ j hj=>by
   have hj':j<64:=by
    have:Lib.deBruijn64tab.length=64:=by decide
    omega
   rw[<- Mz];exact hF _ _ _ (hsub _ _ _ (hG.tz hg j hj'))
  have key:=h a.toNat w (by omega) ht
  have e1:((a.toNat:Nat):Int)=a:=by omega
  rw[e1]at key;refine key.mono ?_;rintro e w' ⟨rfl,rfl⟩;refine⟨_,F,λ_ _ _=>False,λ_=>False,rfl,hF,hfin,Stp.refl _ _ _,?_,⟨λk m hm=>by simp at hm,λ_ _ _ h=>h.elim,λ_ _ _ h=>h.elim,λ_ _ _ _ _ h=>h.elim,λ_ _ _ _ h=>h.elim⟩,λ_ _ _ h=>h.elim⟩
  show Fro F ((OY [] .ground DT EU (λa=>Alj a) LU LS).res (DT a)) _
  rw[Cb Ko hb'];exact .int _ _
def Aiq (x:Int):Option Int:=chk (0<=x/\x<=18446744073709551615) (some ((Lib.bitLen x.toNat:Nat):Int))
def Db (a:Int):List D:=[.int .u64 a]
def DH (ds:List D):Int:=uI (ds.getD 0 .top)
theorem HZ (a:Int):DH (Db a)=a:=rfl
instance:Py Db DH:=⟨HZ⟩
def IX (b:Int):D:=.int .i64 b
def IW (_b:Int):List D:=[]
def Aoj:Dw.Spec:=OY [] .ground Db DH (λa=>Aiq a) IX IW
theorem AsM {P:Program} (he:Eh P f) (h:∀ (x:Int) (w:World),0<=x->x<=18446744073709551615->Calls P f #[.int .u64 x] w λe w'=>e= .returned (.int .i64 (Lib.bitLen x.toNat:Nat))/\w'=w):OW P f Aoj:=by
 intro F0 hG;refine⟨he,λq hq=>(by cases hq),λ_ _ w F ds vs M hsub hF hfin hA hp=>?_,λφ hφ=>(by cases hφ),hG⟩
 obtain⟨a,b,rfl,hb⟩:=hp;have hr:0<=a/\a<=18446744073709551615:=by
  grind [Aiq,chk]
 have hb':(λa=>Aiq a) a=some ((Lib.bitLen a.toNat:Nat):Int):=by grind [Aiq,chk]
 cases hA with
 | ptr j d ds xs M m hp=>cases hp
 | val j d ds x xs M hp hn hx hr' =>
  cases hx;cases hr';refine(h a w hr.1 hr.2).mono ?_;rintro e w' ⟨rfl,rfl⟩;refine⟨_,F,λ_ _ _=>False,λ_=>False,rfl,hF,hfin,Stp.refl _ _ _,?_,⟨λk m hm=>by simp at hm,λ_ _ _ h=>h.elim,λ_ _ _ h=>h.elim,λ_ _ _ _ _ h=>h.elim,λ_ _ _ _ h=>h.elim⟩,λ_ _ _ h=>h.elim⟩
  show Fro F ((OY [] .ground Db DH (λa=>Aiq a) IX IW).res (Db a)) _
  rw[Cb HZ hb'];exact .int _ _
def findF:Nat->List Int->Nat->Option (List Int×Int)
 | 0,_,_=>none
 | k+1,u,s=>(u[s]?).bind λx=>if x=(s:Int)then some (u,(s:Int))else if 0<=x/\x<s then(u[x.toNat]?).bind λz=>if 0<=z/\z<s then findF k (u.set s z) z.toNat else none else none
def Wg (u:List Int) (s:Int):Option (List Int×Int):=if 0<=s then findF (s.toNat+1) u s.toNat else none
theorem HV:∀ {k:Nat} {u:List Int} {s:Nat} {r:List Int×Int},findF k u s=some r->r.1.length=u.length
 | 0,_,_,_,h=>by cases h
 | k+1,u,s,r,h=>by
  simp only[findF,aAF]at h;obtain⟨x,_,h⟩:=h;split at h
  ·cases h;rfl
  ·split at h
   ·simp only[aAF]at h;obtain⟨z,_,h⟩:=h;split at h
    ·have:=HV h;simp_all
    ·cases h
   ·cases h
theorem QD {u:List Int} {s:Int} {r:List Int×Int} (h:Wg u s=some r):r.1.length=u.length:=by
 grind [Wg,HV]
def AsZ:Dw.Spec:=⟨[],.inpl (fiQ Wg),λ_=>False,λ_=>.top,λ_=>[]⟩
theorem find_spec {P:Program} (he:Eh P f) (h:∀ (blk off cap:Nat) (d:Array Int) (s0:Nat) (r:List Int×Int) (w:World),Holds (aA .i64) w blk off d->(∃ k,findF k d.toList s0=some r) ->
  Calls P f #[.slice (some ⟨blk,off,none⟩) d.size cap,.int .i64 s0] w λe w'=>e= .returned (.int .i64 r.2)/\w'=putRow (aA .i64) w blk off r.1.toArray):OW P f AsZ:=λ_ hG =>
 ⟨he,λq hq=>by
  cases hq;refine⟨λzs ks hp=>?_,λw a cap ks hp=>?_,λw b off cap ty C zs ks hp hpos hbig hcap hC hcell=>?_⟩
  ·obtain⟨k,r,rfl,hr,hl⟩:=hp;simp_all[fiQ]
  ·obtain⟨k,r,rfl,hr,hl⟩:=hp
   grind [Wg,findF]
  ·obtain⟨k,r,rfl,hr,hl⟩:=hp;have hb:b<w.heap.size:=(aAD.1 hC).1;have hH:Holds (aA .i64) w b off zs.toArray:=by
    intro j hj
    grind [World.cell?,World.frozen?]
   have hk:∃ n:Nat,k=n:=by
    grind [Wg]
   obtain⟨n,rfl⟩:=hk;have hF:∃ k,findF k zs.toArray.toList n=some r:=by
    unfold Wg at hr;rw[if_pos (by omega),Int.toNat_natCast]at hr
    grind
   have key:=h b off cap zs.toArray n r w hH hF;have e2:(fiQ Wg).fl zs [(n:Int)]=r.1:=by grind [fiQ]
   have e3:(fiQ Wg).out zs [(n:Int)]= .int .i64 r.2:=by grind [fiQ,Co.out]
   rw[e2,e3];simp only[List.size_toArray]at key;refine key.mono ?_;rintro e w' ⟨rfl,rfl⟩;have row:=IP (w:=w) (n:=0) (os:=#[]) hl hb hC hcell;have eg:grow (putRow (aA .i64) (Sort.ahead w 0) b off r.1.toArray) #[]=putRow (aA .i64) w b off r.1.toArray:=by simp_all
   rw[eg]at row
   exact⟨rfl,row⟩,(λh=>by cases h),(λφ hφ=>by cases hφ),hG⟩
open Go.RowKit
theorem JE [Decidable p] {x:Option α} {b:α} (h:chk p x=some b):p/\x=some b:=by
 grind [chk]
def Zu {α:Type} (l:List α):Option (List α):=chk (l.length<=16777216) (some l)
abbrev AlY {α:Type} (l:List α):Option (List α):=Zu l
abbrev Arn {α:Type} (l:List α):Option (List α):=Zu l
abbrev Arp {α:Type} (l:List α):Option (List α):=Zu l
theorem La {l b:List α} (h:Zu l=some b):b=l:=by
 obtain⟨_,h⟩:=JE h;cases h;rfl
def WG {α:Type} (en:α->D) (l:List α):List D:=[.sl (l.map en)]
def Abr {α:Type} (u:D->α) (ds:List D):List α:=(uL u) (ds.getD 0 .top)
theorem AoI (en:α->D) (u:D->α) (h:∀ x,u (en x)=x) (l:List α):Abr u (WG en l)=l:=by simp[Abr,WG,Qb h]
def AkC {α:Type} (en:α->D) (l:List α):D:=.sl (l.map en)
theorem Oq {F:Fz} {w:World} {s ty n:Nat} {v:Value} {xs:List Value} {es:List D} {b0:Nat} (hs:0<s) (hn:es.length=n) (hen:∀ e∈es,(cells e).length=s) (hown:w.ownsRow b0 ty s v n xs)
  (hx:∀ (i j:Nat) e d,es[i]? =some e->(cells e)[j]? =some d->∃ x,xs[i*s+j]? =some x/\x.oneCell'=true/\Fro F d x) :
  ∃ L:Loc,v= .slice (L.b.map λb=>⟨b,0,none⟩) es.length L.cap/\Ax F noB w L ⟨false,false,s,ty,es⟩/\∀ b,L.b=some b->b0<=b/\b<w.heap.size:=by
 subst hn;obtain⟨hl,⟨hv,h0⟩|⟨g,cap,cur,hv,hb,hg,hc,hm,hcs,ht⟩⟩:=hown
 ·refine⟨⟨none,0,s⟩,by simp_all,⟨rfl,hs,by simp_all,Nat.zero_le _,hen,rfl,rfl⟩,λb hb=>by cases hb⟩
 ·refine⟨⟨some g,cap,s⟩,hv,⟨rfl,hs,hc,hm,hen,cur,hg,hcs,λi j e d he hd=>?_⟩,λb hb'=>?_⟩
  all_goals grind
theorem AkJ {P:Program} {s ty:Nat} {en:α->D} {u:D->α} (hu:∀ x,u (en x)=x) (he:Eh P f) (hs:0<s) (hen:∀ x,(cells (en x)).length=s) (h0:∀ (c:Nat) (w:World),Calls P f #[.slice none 0 c] w λe w'=>e= .returned (.slice none 0 0)/\w'=w) (h:∀ (a:Addr) (n c:Nat) (xs:List Value) (w:World),n<=16777216->xs.length=n*s->(∀ (j:Nat) x,xs[j]? =some x->w.cell? (a.add j)=some x)->(∀ x∈xs,x.oneCell'=true) ->
   Calls P f #[.slice (some a) n c] w λe w'=>∃ v',e= .returned v'/\w'.ownsRow w.heap.size ty s v' n xs/\Below w.heap.size w w') :
  OW P f (OY [] (.row s ty) (WG en) (Abr u) (λa=>Zu a) (AkC en) noE):=by
 intro F0 hG;refine⟨he,λq hq=>(by cases hq),λ_ _ w F ds vs M hsub hF hfin hA hp=>?_,λφ hφ=>(by cases hφ),hG⟩
 obtain⟨l,b,rfl,hb⟩:=hp;have hM:=DD rfl hA;subst hM;have hres:(OY [] (.row s ty) (WG en) (Abr u) (λa=>Zu a) (AkC en) noE).res (WG en l)= .sl (b.map en):=Cb (AoI en u hu) hb
 have hbl:=La hb;subst hbl;obtain⟨hlen,_⟩:=JE hb;have fin:∀ (v':Value) (w':World) (xs:List Value),w'.ownsRow w.heap.size ty s v' b.length xs->Below w.heap.size w w' ->
   (∀ (i j:Nat) e d,(b.map en)[i]? =some e->(cells e)[j]? =some d->∃ x,xs[i*s+j]? =some x/\x.oneCell'=true/\Fro F d x) ->
   Cq (OY [] (.row s ty) (WG en) (Abr u) (λa=>Zu a) (AkC en) noE) w F (WG en b) [] (.returned v') w':=by
  intro v' w' xs hown hw hx;obtain⟨L,l1,l2,l3⟩:=Oq hs (List.length_map ..) (λe he=>by grind) hown hx
  refine⟨v',F,λ_ _ _=>False,λ_=>True,rfl,λb i x hx=>?_,λb i x hx=>Nat.lt_of_lt_of_le (hfin b i x hx) hw.size,⟨hw.os,hw.tape,hw.output,hw.size,λb hb _=>hw.block b hb,Ag.refl _,λ_ _ _ _=>rfl⟩,?_,
   ⟨λk m hm=>by simp at hm,λ_ _ _ h=>h.elim,λ_ _ _ h=>h.elim,λ_ _ _ _ _ h=>h.elim,λ_ _ _ _ h=>h.elim⟩,λ_ _ _ h=>h.elim⟩
  ·rw[hw.cell (p:=⟨b,i,none⟩) (hfin b i x hx)];exact hF b i x hx
  ·rw[hres];refine⟨b.map en,L,rfl,l1,l2,λk hk=>⟨(l3 k hk).1,(l3 k hk).2,λi=>?_,trivial⟩⟩
   cases hFk:F k i with
   | none=>rfl
   | some x=>grind
 cases hA with
 | val j d ds x' xs M hp hn hx hr' =>
  cases hr';generalize hes:b.map en=es at hx;have zero:∀ a c,b=[]->Calls P f #[.slice a 0 c] w (Cq (OY [] (.row s ty) (WG en) (Abr u) (λa=>Zu a) (AkC en) noE) w F (WG en b) []):=by
   intro a c e;rcases a with _|a
   ·refine(h0 c w).mono ?_;rintro e' w' ⟨rfl,rfl⟩;exact fin _ _ [] (by grind [World.ownsRow_nil]) (Below.refl _ _) λi j e' d he=>by simp_all
   ·refine(h a 0 c [] w (Nat.zero_le _) (Nat.zero_mul s).symm (λj x hj=>by simp at hj) (λx hx=>by cases hx)).mono ?_
    grind
  cases hx with
  | sl0 a c=>simp_all
  | sl es p o c k vf hc hk hcl h1 hv =>
   subst hes;rw[List.length_map]at hc ⊢;rcases Nat.eq_zero_or_pos b.length with h0'|h0'
   ·simp_all
   have hks:k=s:=by
    have:=hk (en (b[0]'h0')) (List.mem_map.2 ⟨_,List.getElem_mem h0',rfl⟩);simp_all
   subst hks;have cel:∀ i j:Nat,i<b.length->j<k->∃ e d,(b.map en)[i]? =some e/\(cells e)[j]? =some d:=λi j hi hj=>by
    simp_all
   let xs:List Value:=(List.range (b.length*k)).map λq=>vf (q / k) (q % k)
   have hxs:∀ (q:Nat) x,xs[q]? =some x->q<b.length*k/\x=vf (q / k) (q % k):=λq x hx=>by
    grind
   have hq:∀ q,q<b.length*k->q / k<b.length/\q % k<k:=λq hq=>⟨Nat.div_lt_of_lt_mul (by rw[Nat.mul_comm];exact hq),Nat.mod_lt _ hs⟩
   refine(h ⟨p,o,none⟩ b.length c xs w hlen (by simp[xs]) (λq x hx=>?_) (λx hx=>?_)).mono ?_
   ·obtain⟨q1,rfl⟩:=hxs q x hx;obtain⟨q2,q3⟩:=hq q q1;obtain⟨e,d,e1,e2⟩:=cel _ _ q2 q3;have:=hF _ _ _ (hcl _ _ e d e1 e2);rw[Nat.add_assoc,Nat.div_add_mod' q k]at this;rw[Addr.add_lit];exact this
   ·obtain⟨q,hq'⟩:=List.getElem?_of_mem hx;obtain⟨q1,rfl⟩:=hxs q x hq';obtain⟨q2,q3⟩:=hq q q1;obtain⟨e,d,e1,e2⟩:=cel _ _ q2 q3;exact h1 _ _ e d e1 e2
   ·rintro e' w' ⟨v',rfl,h2,h3⟩;refine fin _ _ xs h2 h3 λi j e d he hd=>⟨vf i j,?_,h1 i j e d he hd,hv i j e d he hd⟩
    have hi:i<b.length:=by have:=(aAA.1 he).1;simpa using this
    have hj:j<k:=by
     have:=(aAA.1 hd).1;rw[hk e (List.mem_of_getElem? he)]at this;exact this
    have hlt:i*k+j<b.length*k:=by
     have:(i+1)*k<=b.length*k:=Nat.mul_le_mul_right k hi;rw[Nat.add_mul,Nat.one_mul]at this;omega
    have hd1:(i*k+j) / k=i:=by rw[Nat.add_comm,Nat.add_mul_div_right _ _ hs,Nat.div_eq_of_lt hj,Nat.zero_add]
    have hd2:(i*k+j) % k=j:=by rw[Nat.add_comm,Nat.add_mul_mod_self_right,Nat.mod_eq_of_lt hj]
    simp only[xs,List.getElem?_map,List.getElem?_range hlt,Option.map_some,hd1,hd2]
theorem rf {α:Sort _} {a:α}:a=a:=rfl
abbrev M (d s:Nat):As:=⟨some d,.mv (.t s),none,[]⟩
abbrev P (d:Nat) (o:DOp):As:=⟨some d,o,none,[]⟩
abbrev T (n:Nat):Arg:=.t n
abbrev C (n:Int):Arg:=.c (.int .i64 n)
abbrev Av (n:Int):D:=.int .i64 n
abbrev AkM (n:Int):D:=.int .u64 n
abbrev dW (v s t:Nat) (l:List D):Option (Nat×Own):=some (v,⟨false,false,s,t,l⟩)
abbrev dV (v s t:Nat) (d:D):Option (Nat×Own):=some (v,⟨false,true,s,t,[d]⟩)
theorem Va {Γ:Aq} {X:Type} {c c':Qi} {K:X->Au->S->Prop} {σ:S} {t:Option X} (h:Tr Γ c' K σ t) (e:c=c':=by conv=>lhs;cbv):Tr Γ c K σ t:=e▸h
theorem hX {e E:List (Nat×D)} {o O:List (Nat×Ab)} {n:Nat} (hE:Gv e E:=by repeat first|exact trivial|refine And.intro rfl ?_) (hO:Gw o O:=by repeat first|exact trivial|refine And.intro rfl ?_):Has ⟨e,o,n⟩ E O:=YX hE hO
theorem hY {e E:List (Nat×D)} {o O:List (Nat×Ab)} {n:Nat} (hE:Gv e E:=by repeat first|exact trivial|refine And.intro (by first|rfl|(simp[AR,frp];done)|(simp[AR,frp,Cj];done)|(simp[AR,frp,Cj,nbq];done)|(simp[AR,lkO,frp,Cj,frO];done)|(simp[AR,lkO,frp,Cj,frO];rfl)|(simp[AR,lkO,frp,Cj,frO,nbq];done)) ?_) (hO:Gw o O:=by repeat first|exact trivial|refine And.intro (by first|rfl|(simp[AR,frp];done)|(simp[AR,frp,Cj];done)|(simp[AR,frp,Cj,nbq];done)|(simp[AR,lkO,frp,Cj,frO];done)|(simp[AR,lkO,frp,Cj,frO];rfl)|(simp[AR,lkO,frp,Cj,frO,nbq];done)) ?_):Has ⟨e,o,n⟩ E O:=YX hE hO
theorem hV (g:Nat) {v s ty n:Nat} {z:D} {e E:List (Nat×D)} {o O:List (Nat×Ab)} (ho:lkO o g=some (v,⟨false,true,s,ty,[z]⟩)) (h:Has ⟨e.map (λp=>(p.1,frp g v z p.2)),(g,none)::o.map (λp=>(p.1,frO g v z p.2)),n⟩ E O) (hc:(cells z).all Qr=true:=by first|rfl|(simp[cells,frp,Cj,Qr];done)):Has ⟨e,o,n⟩ E O:=Mf ho hc h
open Go.ChangeShapes Go.WideShapes Go.ChangeAt Go.RowKit
theorem ArF {P:Program} {laid:List (String×DataW Unit)} {W:World} {t e:TypeId} (h:laidMetH P laid W) (hl:laid=[("math/bits.deBruijn64tab",.agg (CF.map λn:Nat=>.lit (.int .u8 (n:Int))))])
  (hn:(laid.all λx=>x.2.handleName?.isNone)=true) (ht:∀ g,P.globalNamed "math/bits.deBruijn64tab" = some g->(P.globals[g]?).map (·.type)=some t)
  (ha:P.underlying t=some (.array 64 e)) (he:P.underlying e=some (.int .u8)) (hc:P.cellsOf e=1)
  (hno:((DF.drop 1).all λe=>(P.globalNamed e.1).isNone)=true:=by kernel_rfl):Afr P (Aaj W):=by
 have key:∀ g,P.globalNamed "math/bits.deBruijn64tab" = some g->∀ j,j<64->Aaj W g j=some (.int .u8 (CF.getD j 0)):=by
  rw[MakeChecks.laidMetH_plain _ _ _ hn]at h;subst hl;obtain⟨ps,⟨g0,t0,cs0,f0,p0,q0,hg0,ht0,hv0,hd0,_⟩,_⟩:=h;intro g hg j hj;obtain rfl:=Option.some.inj (hg.symm.trans hg0);obtain rfl:=Option.some.inj ((ht _ hg0).symm.trans ht0);obtain⟨xs,m,rfl,hx,hlen,hn64,hel⟩:=DataW.trod_array ha hd0;simp only[Prod.mk.injEq,DataW.agg.injEq]at hx;have hj':=hel j hj;rw[hc]at hj';have hxj:xs[j]? =some (xs[j]'(by omega)):=aAE _
  rw[hxj]at hj';obtain⟨k,e1,e2,_⟩:=DataW.trod_int he hj';have hk:((xs.map (·.1))[j]?)=some (.lit (.int .u8 k)):=by
   simp_all
  rw[<- hx.1]at hk;have ht64:CF.length=64:=by decide
  rw[List.getElem?_map,aAE (show j<CF.length by omega),Option.map_some]at hk
  have hkk:k=((CF[j]'(by omega):Nat):Int):=by simp_all
  have hcell:=World.var?_cell hg0 hv0 j;have hcs:cs0.toList[j]? =some (.int .u8 k):=by
   have h0:((cs0.toList.drop (j*1)).take 1)[0]? =some (.int .u8 k):=by rw[e1];rfl
   grind
  show W.cell? ⟨g,j,none⟩=_;simp_all
 intro x hx g hg j d hd;rcases List.mem_cons.1 hx with rfl|hx
 ·have hj:j<64:=by simpa[CF]using(aAA.1 hd).1
  refine⟨_,key g hg j hj,rfl,?_⟩;have hl:CF.length=64:=by decide
  have hd':d= .int .u8 (CF.getD j 0:Nat):=by
   simp_all
  subst hd';exact .int _ _
 ·have:=List.all_eq_true.1 hno x hx;simp_all
def WW (w:Int):Prop:=0<=w/\w<18446744073709551616
def Aft (w:Int) (j:Nat):Bool:=w.toNat.testBit j
theorem Dt {w:Int} (h:WW w):(aAB IntKind.u64.bits w).toNat=w.toNat:=by
 show(aAB 64 w).toNat=w.toNat;have:=h.1;have:=h.2
 grind
theorem AhI {n:Nat} (h:n<18446744073709551616):IntKind.u64.wrap (n:Int)=n:=by
 grind [IntKind.wrap,IntKind.signed,IntKind.bits]
theorem Avq {n:Int} (h:WW n):IntKind.u64.wrap n=n:=by
 have:=h.1;have:=h.2
 grind [IntKind.wrap,IntKind.signed,IntKind.bits]
theorem WW.nat {n:Nat} (h:n<18446744073709551616):WW (n:Int):=⟨by omega,by omega⟩
theorem WW.toNat_lt {w:Int} (h:WW w):w.toNat<18446744073709551616:=by have:=h.1;have:=h.2;omega
theorem Kq (b:BitVec IntKind.u64.bits):b.toNat<18446744073709551616:=b.isLt
theorem AxZ {x y:Int} (hx:WW x) (hy:WW y):IntKind.u64.wrap ((aAB IntKind.u64.bits x ||| aAB IntKind.u64.bits y).toNat:Nat)=((x.toNat ||| y.toNat:Nat):Int):=by
 grind [AhI,Kq,Dt]
theorem Awq {x y:Int} (hx:WW x) (hy:WW y):IntKind.u64.wrap ((aAB IntKind.u64.bits x &&& aAB IntKind.u64.bits y).toNat:Nat)=((x.toNat &&& y.toNat:Nat):Int):=by
 grind [AhI,Kq,Dt]
def Arr (x y:Nat):Nat:=x &&& (18446744073709551615-y)
theorem AqZ {x y:Int} (hx:WW x) (hy:WW y):IntKind.u64.wrap ((aAB IntKind.u64.bits x &&& ~~~ aAB IntKind.u64.bits y).toNat:Nat)=((Arr x.toNat y.toNat:Nat):Int):=by
 rw[AhI (Kq _),BitVec.toNat_and,BitVec.toNat_not,Dt hx,Dt hy];rfl
theorem Ars {x y j:Nat} (hx:x<18446744073709551616) (hy:y<18446744073709551616):(Arr x y).testBit j=(x.testBit j&& !y.testBit j):=by
 unfold Arr;rw[Nat.testBit_and]
 by_cases hj:j<64
 ·have e:18446744073709551615-y=2 ^ 64-(y+1):=by omega
  rw[e,Nat.testBit_two_pow_sub_succ (by omega)]
  simp[hj]
 ·have:x.testBit j=false:=Nat.testBit_lt_two_pow (Nat.lt_of_lt_of_le hx (Nat.pow_le_pow_right (by decide:0<2) (show 64<=j by omega)))
  simp[this]
theorem Apo {x y:Nat} (hx:x<18446744073709551616):x &&& y<18446744073709551616:=Nat.lt_of_le_of_lt Nat.and_le_left hx
theorem AuO {x y:Nat} (hx:x<18446744073709551616) (hy:y<18446744073709551616):x ||| y<18446744073709551616:=by
 have:=Nat.or_lt_two_pow (n:=64) (x:=x) (y:=y) (by omega) (by omega)
 omega
theorem AvT {x:Nat} (h0:0<x) (h:x<18446744073709551616) :
  Lib.ctz 64 x<64/\x.testBit (Lib.ctz 64 x)=true/\(∀ j,j<Lib.ctz 64 x->x.testBit j=false)/\∀ j,(x &&& (x-1)).testBit j=(x.testBit j&&decide (j≠Lib.ctz 64 x)):=by
 unfold Lib.ctz;rw[if_neg (by omega)]
 obtain⟨m,hm,hk⟩:=Lib.ctzFrom_spec 64 x h0 (by omega)
 generalize Lib.ctzFrom 64 x=k at hm hk;have hp:0<2 ^ k:=Nat.two_pow_pos k;have e1:x=2 ^ (k+1)*m+2 ^ k:=by grind
 have e2:x-1=2 ^ (k+1)*m+(2 ^ k-1):=by omega
 have b1:2 ^ k<2 ^ (k+1):=by omega
 have t1:∀ j,x.testBit j=if j<k+1 then decide (k=j)else m.testBit (j-(k+1)):=by
  intro j;rw[e1,aAC _ b1,Nat.testBit_two_pow]
 have t2:∀ j,(x-1).testBit j=if j<k+1 then decide (j<k)else m.testBit (j-(k+1)):=by
  intro j;rw[e2,aAC _ (by omega),Nat.testBit_two_pow_sub_one]
 refine⟨hk,by simp_all,λj hj=>by grind,λj=>?_⟩
 grind
end Go.Dw
