import Derived.Test.YtcaoepecbgggcaaGreatDoorDxG
import Derived.KernelRfl
import Derived.Test.YtcaoepecbgggcaaGreatDoorDc
open List renaming replicate->aA
namespace Go.Proofs.YtcaoepecbgggcaaGreatDoor
open Go Go.Dw Go.Proofs
set_option maxRecDepth 100000
set_option maxHeartbeats 40000000
def AaI (f:Nat):D:=if f=0 then .nilf else .clo f []
noncomputable def AvE (l:List Nat) (i:Int):Option ((List Nat×Int)⊕List Nat) :=
 bif (decide (i<25))then
  chk (0<=i/\i<25)<|(l[i.toNat]?).bind λ_=>cnt (l.set i.toNat 235,IntKind.i64.wrap (i+1))
 else lft (chk (l=aA 25 235)<|some ZQ)
noncomputable def AsO:Option (List Nat):=NW (λs=>AvE s.1 s.2) (aA 25 0,0)
theorem Awz:NL Tryz.prog 177 (NN [] .val Ake Akd (λ_=>AsO) (λl=>.agg (l.map AaI)) noE):=by
 refine fn2 0 NG Tryz.func177 ?_;intro a;unfold AsO;refine A 17 ?_;refine Qm (E:=λ(s:List Nat×Int) (g:Nat×Nat)=>[(0,.optr 0 g.1 0 0),(1,.optr 1 g.2 0 0),(3,.int .i64 s.2)]) (O:=λs g=>[(0,some (g.1,⟨false,true,25,196,[.agg ((aA 25 0).map AaI)]⟩)),(1,some (g.2,⟨false,true,25,196,[.agg (s.1.map AaI)]⟩))]) (body:=λs=>AvE s.1 s.2) (s:=(aA 25 0,0)) (_,_) (hX) ?_
 rintro⟨l,i⟩ ⟨v0,v1⟩ nn
 try dsimp only
 unfold AvE;refine A 6 ?_;refine PX rfl ?_ ?_
 ·refine A 12 ?_;refine PQ λhq=>Qw rfl rfl rfl hq ?_
  refine OQ λy hy=>Aip (q:=y) (q':=235) (l:=l) (en:=AaI) (j:=i.toNat) (z':=.agg ((l.set i.toNat 235).map AaI)) (by simp) rfl rfl rfl rfl rfl hy rfl rfl rfl ?_
  refine A 7 ?_;exact PH (s:=(l.set i.toNat 235,IntKind.i64.wrap (i+1))) (_,_) (hX)
 ·refine A 7 ?_;refine PQ λhl=>?_
  subst hl;refine Qw rfl rfl rfl (by decide) ?_
  refine UX (z':=.agg (([235,235,235,235,235,235,235,235,235,235,235,235,235,235,235,236,235,235,235,235,235,235,235,235,235]:List Nat).map AaI)) rfl rfl rfl rfl rfl rfl rfl rfl rfl ?_;refine A 4 ?_;refine Qw rfl rfl rfl (by decide) ?_
  refine UX (z':=.agg (([235,235,235,235,235,235,235,235,235,235,235,235,235,235,235,236,237,235,235,235,235,235,235,235,235]:List Nat).map AaI)) rfl rfl rfl rfl rfl rfl rfl rfl rfl ?_;refine A 4 ?_;refine Qw rfl rfl rfl (by decide) ?_
  refine UX (z':=.agg (([235,235,235,235,235,235,235,235,235,235,235,235,235,235,235,236,237,238,235,235,235,235,235,235,235]:List Nat).map AaI)) rfl rfl rfl rfl rfl rfl rfl rfl rfl ?_;refine A 4 ?_;refine Qw rfl rfl rfl (by decide) ?_
  refine UX (z':=.agg (([235,235,235,235,235,235,235,235,235,235,235,235,235,235,235,236,237,238,239,235,235,235,235,235,235]:List Nat).map AaI)) rfl rfl rfl rfl rfl rfl rfl rfl rfl ?_;refine A 4 ?_;refine Qw rfl rfl rfl (by decide) ?_
  refine UX (z':=.agg (([235,235,235,235,235,235,235,235,235,235,235,235,235,235,235,236,237,238,239,240,235,235,235,235,235]:List Nat).map AaI)) rfl rfl rfl rfl rfl rfl rfl rfl rfl ?_;refine A 4 ?_;refine AeG (v:=.agg (ZQ.map AaI)) (z:=.agg (ZQ.map AaI)) rfl rfl rfl rfl rfl rfl ?_;refine UX (z':=.agg (ZQ.map AaI)) rfl rfl rfl rfl rfl rfl rfl rfl rfl ?_;refine A 4 ?_;refine Abm (b:=ZQ) rfl ?_ rfl rfl ?_ rfl
  all_goals first|(simp;done)|(simp[ZQ];done)
theorem Awy:AsO=some ZQ:=Adz.2 ⟨26,by kernel_rfl⟩
theorem Ahj:NL Tryz.prog 177 XK:=by
 have e:(NN [] .val Ake Akd (λ_=>AsO) (λl:List Nat=>.agg (l.map AaI)) noE)=XK:=by
  unfold XK NN;simp[Awy,Zd,ZQ,AaI,AhZ,noE]
 exact e▸Awz
end Go.Proofs.YtcaoepecbgggcaaGreatDoor
