import Derived.Test.YtcaoepecbgggcaaGreatDoorDxG
open List renaming replicate->aA
namespace Go.Proofs.YtcaoepecbgggcaaGreatDoor
open Go Go.Dw Go.Proofs
set_option maxRecDepth 100000
set_option maxHeartbeats 40000000
def AaP (f:Nat):D:=if f=0 then .nilf else .clo f []
noncomputable def AwD (l:List Nat) (i:Int):Option ((List Nat×Int)⊕List Nat) :=
 bif (decide (i<25))then
  chk (0<=i/\i<25)<|(l[i.toNat]?).bind λ_=>cnt (l.set i.toNat 235,IntKind.i64.wrap (i+1))
 else lft (chk (l=aA 25 235)<|some ZY)
noncomputable def Ati:Option (List Nat):=NB (λs=>AwD s.1 s.2) (aA 25 0,0)
theorem AxQ:Ns Tryz.prog 177 (NU [] .val AkQ AkP (λ_=>Ati) (λl=>.agg (l.map AaP)) noE):=by
 refine fn2 0 Np Tryz.func177 ?_;intro a;unfold Ati;refine A 17 ?_;refine XG (E:=λ(s:List Nat×Int) (g:Nat×Nat)=>[(0,.optr 0 g.1 0 0),(1,.optr 1 g.2 0 0),(3,.int .i64 s.2)]) (O:=λs g=>[(0,some (g.1,⟨false,true,25,196,[.agg ((aA 25 0).map AaP)]⟩)),(1,some (g.2,⟨false,true,25,196,[.agg (s.1.map AaP)]⟩))]) (body:=λs=>AwD s.1 s.2) (s:=(aA 25 0,0)) (_,_) (hX) ?_
 rintro⟨l,i⟩ ⟨v0,v1⟩ nn
 try dsimp only
 unfold AwD;refine A 6 ?_;refine Vs rfl ?_ ?_
 ·refine A 12 ?_;refine QW λhq=>QA rfl rfl rfl hq ?_
  refine QN λy hy=>AiH (q:=y) (q':=235) (l:=l) (en:=AaP) (j:=i.toNat) (z':=.agg ((l.set i.toNat 235).map AaP)) (by simp) rfl rfl rfl rfl rfl hy rfl rfl rfl ?_
  refine A 7 ?_;exact UF (s:=(l.set i.toNat 235,IntKind.i64.wrap (i+1))) (_,_) (hX)
 ·refine A 7 ?_;refine QW λhl=>?_
  subst hl;refine QA rfl rfl rfl (by decide) ?_
  refine Vf (z':=.agg (([235,235,235,235,235,235,235,235,235,235,235,235,235,235,235,236,235,235,235,235,235,235,235,235,235]:List Nat).map AaP)) rfl rfl rfl rfl rfl rfl rfl rfl rfl ?_;refine A 4 ?_;refine QA rfl rfl rfl (by decide) ?_
  refine Vf (z':=.agg (([235,235,235,235,235,235,235,235,235,235,235,235,235,235,235,236,237,235,235,235,235,235,235,235,235]:List Nat).map AaP)) rfl rfl rfl rfl rfl rfl rfl rfl rfl ?_;refine A 4 ?_;refine QA rfl rfl rfl (by decide) ?_
  refine Vf (z':=.agg (([235,235,235,235,235,235,235,235,235,235,235,235,235,235,235,236,237,238,235,235,235,235,235,235,235]:List Nat).map AaP)) rfl rfl rfl rfl rfl rfl rfl rfl rfl ?_;refine A 4 ?_;refine QA rfl rfl rfl (by decide) ?_
  refine Vf (z':=.agg (([235,235,235,235,235,235,235,235,235,235,235,235,235,235,235,236,237,238,239,235,235,235,235,235,235]:List Nat).map AaP)) rfl rfl rfl rfl rfl rfl rfl rfl rfl ?_;refine A 4 ?_;refine QA rfl rfl rfl (by decide) ?_
  refine Vf (z':=.agg (([235,235,235,235,235,235,235,235,235,235,235,235,235,235,235,236,237,238,239,240,235,235,235,235,235]:List Nat).map AaP)) rfl rfl rfl rfl rfl rfl rfl rfl rfl ?_;refine A 4 ?_;refine Aey (v:=.agg (ZY.map AaP)) (z:=.agg (ZY.map AaP)) rfl rfl rfl rfl rfl rfl ?_;refine Vf (z':=.agg (ZY.map AaP)) rfl rfl rfl rfl rfl rfl rfl rfl rfl ?_;refine A 4 ?_;refine TN (b:=ZY) rfl ?_ rfl rfl ?_ rfl
  all_goals first|(simp;done)|(simp[ZY];done)
theorem AxP:Ati=some ZY:=Adi.2 ⟨26,by kernel_rfl⟩
theorem Ahv:Ns Tryz.prog 177 XU:=by
 have e:(NU [] .val AkQ AkP (λ_=>Ati) (λl:List Nat=>.agg (l.map AaP)) noE)=XU:=by
  unfold XU NU;simp[AxP,Zk,ZY,AaP,Ail,noE]
 exact e▸AxQ
end Go.Proofs.YtcaoepecbgggcaaGreatDoor
