import Derived.Test.YtmmchhpdaogopaaGreatDoorDxG
open List renaming replicate->aA
namespace Go.Proofs.YtmmchhpdaogopaaGreatDoor
open Go Go.Dw Go.Proofs
set_option maxRecDepth 100000
set_option maxHeartbeats 40000000
def Aad (f:Nat):D:=if f=0 then .nilf else .clo f []
noncomputable def Auc (l:List Nat) (i:Int):Option ((List Nat×Int)⊕List Nat) :=
 bif (decide (i<25))then
  chk (0<=i/\i<25)<|(l[i.toNat]?).bind λ_=>cnt (l.set i.toNat 160,IntKind.i64.wrap (i+1))
 else lft (chk (l=aA 25 160)<|some Zl)
noncomputable def Ard:Option (List Nat):=NZ (λs=>Auc s.1 s.2) (aA 25 0,0)
theorem Avy:NM Tryz.prog 98 (Ow [] .val Ajo Ajn (λ_=>Ard) (λl=>.agg (l.map Aad)) noE):=by
 refine fn2 0 NK Tryz.func98 ?_;intro a;unfold Ard;refine A 17 ?_;refine Rq (E:=λ(s:List Nat×Int) (g:Nat×Nat)=>[(0,.optr 0 g.1 0 0),(1,.optr 1 g.2 0 0),(3,.int .i64 s.2)]) (O:=λs g=>[(0,some (g.1,⟨false,true,25,140,[.agg ((aA 25 0).map Aad)]⟩)),(1,some (g.2,⟨false,true,25,140,[.agg (s.1.map Aad)]⟩))]) (body:=λs=>Auc s.1 s.2) (s:=(aA 25 0,0)) (_,_) (hX) ?_
 rintro⟨l,i⟩ ⟨v0,v1⟩ nn
 try dsimp only
 unfold Auc;refine A 6 ?_;refine QU rfl ?_ ?_
 ·refine A 12 ?_;refine Qd λhq=>Sb rfl rfl rfl hq ?_
  refine Px λy hy=>Arc (q:=y) (q':=160) (l:=l) (en:=Aad) (j:=i.toNat) (z':=.agg ((l.set i.toNat 160).map Aad)) (by simp) rfl rfl rfl rfl rfl hy rfl rfl rfl ?_
  refine A 7 ?_;exact Qx (s:=(l.set i.toNat 160,IntKind.i64.wrap (i+1))) (_,_) (hX)
 ·refine A 7 ?_;refine Qd λhl=>?_
  subst hl;refine Sb rfl rfl rfl (by decide) ?_
  refine UO (z':=.agg (([160,160,160,160,160,160,160,160,160,160,160,160,160,160,160,161,160,160,160,160,160,160,160,160,160]:List Nat).map Aad)) rfl rfl rfl rfl rfl rfl rfl rfl rfl ?_;refine A 4 ?_;refine Sb rfl rfl rfl (by decide) ?_
  refine UO (z':=.agg (([160,160,160,160,160,160,160,160,160,160,160,160,160,160,160,161,162,160,160,160,160,160,160,160,160]:List Nat).map Aad)) rfl rfl rfl rfl rfl rfl rfl rfl rfl ?_;refine A 4 ?_;refine Sb rfl rfl rfl (by decide) ?_
  refine UO (z':=.agg (([160,160,160,160,160,160,160,160,160,160,160,160,160,160,160,161,162,163,160,160,160,160,160,160,160]:List Nat).map Aad)) rfl rfl rfl rfl rfl rfl rfl rfl rfl ?_;refine A 4 ?_;refine Sb rfl rfl rfl (by decide) ?_
  refine UO (z':=.agg (([160,160,160,160,160,160,160,160,160,160,160,160,160,160,160,161,162,163,164,160,160,160,160,160,160]:List Nat).map Aad)) rfl rfl rfl rfl rfl rfl rfl rfl rfl ?_;refine A 4 ?_;refine Sb rfl rfl rfl (by decide) ?_
  refine UO (z':=.agg (([160,160,160,160,160,160,160,160,160,160,160,160,160,160,160,161,162,163,164,165,160,160,160,160,160]:List Nat).map Aad)) rfl rfl rfl rfl rfl rfl rfl rfl rfl ?_;refine A 4 ?_;refine AdG (v:=.agg (Zl.map Aad)) (z:=.agg (Zl.map Aad)) rfl rfl rfl rfl rfl rfl ?_;refine UO (z':=.agg (Zl.map Aad)) rfl rfl rfl rfl rfl rfl rfl rfl rfl ?_;refine A 4 ?_;refine Tz (b:=Zl) rfl ?_ rfl rfl ?_ rfl
  all_goals first|(simp;done)|(simp[Zl];done)
theorem Avx:Ard=some Zl:=Aah.2 ⟨26,by kernel_rfl⟩
theorem Aga:NM Tryz.prog 98 Xq:=by
 have e:(Ow [] .val Ajo Ajn (λ_=>Ard) (λl:List Nat=>.agg (l.map Aad)) noE)=Xq:=by
  unfold Xq Ow;simp[Avx,Yy,Zl,Aad,AgT,noE]
 exact e▸Avy
end Go.Proofs.YtmmchhpdaogopaaGreatDoor
