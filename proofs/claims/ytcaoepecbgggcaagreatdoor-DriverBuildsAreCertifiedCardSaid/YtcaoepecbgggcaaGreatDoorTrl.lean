import Derived.Test.YtcaoepecbgggcaaGreatDoorDxG
open List renaming replicate->aA
namespace Go.Proofs.YtcaoepecbgggcaaGreatDoor
open Go Go.Dw Go.Proofs
set_option maxRecDepth 100000
set_option maxHeartbeats 40000000
def AaV (f:Nat):D:=if f=0 then .nilf else .clo f []
noncomputable def AwL (l:List Nat) (i:Int):Option ((List Nat×Int)⊕List Nat) :=
 bif (decide (i<25))then
  chk (0<=i/\i<25)<|(l[i.toNat]?).bind λ_=>cnt (l.set i.toNat 235,IntKind.i64.wrap (i+1))
 else lft (chk (l=aA 25 235)<|some Aae)
noncomputable def Aty:Option (List Nat):=NA (λs=>AwL s.1 s.2) (aA 25 0,0)
theorem Ayf:Nr Tryz.prog 177 (NO [] .val Alg Alf (λ_=>Aty) (λl=>.agg (l.map AaV)) noE):=by
 refine fn2 0 Np Tryz.func177 ?_;intro a;unfold Aty;refine A 17 ?_;refine QS (E:=λ(s:List Nat×Int) (g:Nat×Nat)=>[(0,.optr 0 g.1 0 0),(1,.optr 1 g.2 0 0),(3,.int .i64 s.2)]) (O:=λs g=>[(0,some (g.1,⟨false,true,25,196,[.agg ((aA 25 0).map AaV)]⟩)),(1,some (g.2,⟨false,true,25,196,[.agg (s.1.map AaV)]⟩))]) (body:=λs=>AwL s.1 s.2) (s:=(aA 25 0,0)) (_,_) (hX) ?_
 rintro⟨l,i⟩ ⟨v0,v1⟩ nn
 try dsimp only
 unfold AwL;refine A 6 ?_;refine Qs rfl ?_ ?_
 ·refine A 12 ?_;refine Qk λhq=>QG rfl rfl rfl hq ?_
  refine OO λy hy=>Ajb (q:=y) (q':=235) (l:=l) (en:=AaV) (j:=i.toNat) (z':=.agg ((l.set i.toNat 235).map AaV)) (by simp) rfl rfl rfl rfl rfl hy rfl rfl rfl ?_
  refine A 7 ?_;exact PY (s:=(l.set i.toNat 235,IntKind.i64.wrap (i+1))) (_,_) (hX)
 ·refine A 7 ?_;refine Qk λhl=>?_
  subst hl;refine QG rfl rfl rfl (by decide) ?_
  refine Va (z':=.agg (([235,235,235,235,235,235,235,235,235,235,235,235,235,235,235,236,235,235,235,235,235,235,235,235,235]:List Nat).map AaV)) rfl rfl rfl rfl rfl rfl rfl rfl rfl ?_;refine A 4 ?_;refine QG rfl rfl rfl (by decide) ?_
  refine Va (z':=.agg (([235,235,235,235,235,235,235,235,235,235,235,235,235,235,235,236,237,235,235,235,235,235,235,235,235]:List Nat).map AaV)) rfl rfl rfl rfl rfl rfl rfl rfl rfl ?_;refine A 4 ?_;refine QG rfl rfl rfl (by decide) ?_
  refine Va (z':=.agg (([235,235,235,235,235,235,235,235,235,235,235,235,235,235,235,236,237,238,235,235,235,235,235,235,235]:List Nat).map AaV)) rfl rfl rfl rfl rfl rfl rfl rfl rfl ?_;refine A 4 ?_;refine QG rfl rfl rfl (by decide) ?_
  refine Va (z':=.agg (([235,235,235,235,235,235,235,235,235,235,235,235,235,235,235,236,237,238,239,235,235,235,235,235,235]:List Nat).map AaV)) rfl rfl rfl rfl rfl rfl rfl rfl rfl ?_;refine A 4 ?_;refine QG rfl rfl rfl (by decide) ?_
  refine Va (z':=.agg (([235,235,235,235,235,235,235,235,235,235,235,235,235,235,235,236,237,238,239,240,235,235,235,235,235]:List Nat).map AaV)) rfl rfl rfl rfl rfl rfl rfl rfl rfl ?_;refine A 4 ?_;refine AeN (v:=.agg (Aae.map AaV)) (z:=.agg (Aae.map AaV)) rfl rfl rfl rfl rfl rfl ?_;refine Va (z':=.agg (Aae.map AaV)) rfl rfl rfl rfl rfl rfl rfl rfl rfl ?_;refine A 4 ?_;refine Uy (b:=Aae) rfl ?_ rfl rfl ?_ rfl
  all_goals first|(simp;done)|(simp[Aae];done)
theorem Aye:Aty=some Aae:=Adz.2 ⟨26,by kernel_rfl⟩
theorem AhN:Nr Tryz.prog 177 XS:=by
 have e:(NO [] .val Alg Alf (λ_=>Aty) (λl:List Nat=>.agg (l.map AaV)) noE)=XS:=by
  unfold XS NO;simp[Aye,Zk,Aae,AaV,AiG,noE]
 exact e▸Ayf
end Go.Proofs.YtcaoepecbgggcaaGreatDoor
