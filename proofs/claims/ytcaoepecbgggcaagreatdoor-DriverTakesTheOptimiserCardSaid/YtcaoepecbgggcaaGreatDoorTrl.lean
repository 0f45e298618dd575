import Derived.Test.YtcaoepecbgggcaaGreatDoorDxG
open List renaming replicate->aA
namespace Go.Proofs.YtcaoepecbgggcaaGreatDoor
open Go Go.Dw Go.Proofs
set_option maxRecDepth 100000
set_option maxHeartbeats 40000000
def AbC (f:Nat):D:=if f=0 then .nilf else .clo f []
noncomputable def Axj (l:List Nat) (i:Int):Option ((List Nat×Int)⊕List Nat) :=
 bif (decide (i<25))then
  chk (0<=i/\i<25)<|(l[i.toNat]?).bind λ_=>cnt (l.set i.toNat 235,IntKind.i64.wrap (i+1))
 else lft (chk (l=aA 25 235)<|some AaG)
noncomputable def Auz:Option (List Nat):=NW (λs=>Axj s.1 s.2) (aA 25 0,0)
theorem Ayj:NK Tryz.prog 177 (NO [] .val Alw Alv (λ_=>Auz) (λl=>.agg (l.map AbC)) noE):=by
 refine fn2 0 NG Tryz.func177 ?_;intro a;unfold Auz;refine A 17 ?_;refine Qb (E:=λ(s:List Nat×Int) (g:Nat×Nat)=>[(0,.optr 0 g.1 0 0),(1,.optr 1 g.2 0 0),(3,.int .i64 s.2)]) (O:=λs g=>[(0,some (g.1,⟨false,true,25,196,[.agg ((aA 25 0).map AbC)]⟩)),(1,some (g.2,⟨false,true,25,196,[.agg (s.1.map AbC)]⟩))]) (body:=λs=>Axj s.1 s.2) (s:=(aA 25 0,0)) (_,_) (hX) ?_
 rintro⟨l,i⟩ ⟨v0,v1⟩ nn
 try dsimp only
 unfold Axj;refine A 6 ?_;refine PL rfl ?_ ?_
 ·refine A 12 ?_;refine Qa λhq=>QD rfl rfl rfl hq ?_
  refine ON λy hy=>Ajy (q:=y) (q':=235) (l:=l) (en:=AbC) (j:=i.toNat) (z':=.agg ((l.set i.toNat 235).map AbC)) (by simp) rfl rfl rfl rfl rfl hy rfl rfl rfl ?_
  refine A 7 ?_;exact Pn (s:=(l.set i.toNat 235,IntKind.i64.wrap (i+1))) (_,_) (hX)
 ·refine A 7 ?_;refine Qa λhl=>?_
  subst hl;refine QD rfl rfl rfl (by decide) ?_
  refine Vn (z':=.agg (([235,235,235,235,235,235,235,235,235,235,235,235,235,235,235,236,235,235,235,235,235,235,235,235,235]:List Nat).map AbC)) rfl rfl rfl rfl rfl rfl rfl rfl rfl ?_;refine A 4 ?_;refine QD rfl rfl rfl (by decide) ?_
  refine Vn (z':=.agg (([235,235,235,235,235,235,235,235,235,235,235,235,235,235,235,236,237,235,235,235,235,235,235,235,235]:List Nat).map AbC)) rfl rfl rfl rfl rfl rfl rfl rfl rfl ?_;refine A 4 ?_;refine QD rfl rfl rfl (by decide) ?_
  refine Vn (z':=.agg (([235,235,235,235,235,235,235,235,235,235,235,235,235,235,235,236,237,238,235,235,235,235,235,235,235]:List Nat).map AbC)) rfl rfl rfl rfl rfl rfl rfl rfl rfl ?_;refine A 4 ?_;refine QD rfl rfl rfl (by decide) ?_
  refine Vn (z':=.agg (([235,235,235,235,235,235,235,235,235,235,235,235,235,235,235,236,237,238,239,235,235,235,235,235,235]:List Nat).map AbC)) rfl rfl rfl rfl rfl rfl rfl rfl rfl ?_;refine A 4 ?_;refine QD rfl rfl rfl (by decide) ?_
  refine Vn (z':=.agg (([235,235,235,235,235,235,235,235,235,235,235,235,235,235,235,236,237,238,239,240,235,235,235,235,235]:List Nat).map AbC)) rfl rfl rfl rfl rfl rfl rfl rfl rfl ?_;refine A 4 ?_;refine AfG (v:=.agg (AaG.map AbC)) (z:=.agg (AaG.map AbC)) rfl rfl rfl rfl rfl rfl ?_;refine Vn (z':=.agg (AaG.map AbC)) rfl rfl rfl rfl rfl rfl rfl rfl rfl ?_;refine A 4 ?_;refine Aaz (b:=AaG) rfl ?_ rfl rfl ?_ rfl
  all_goals first|(simp;done)|(simp[AaG];done)
theorem Ayi:Auz=some AaG:=Aeu.2 ⟨26,by kernel_rfl⟩
theorem Aiq:NK Tryz.prog 177 Yo:=by
 have e:(NO [] .val Alw Alv (λ_=>Auz) (λl:List Nat=>.agg (l.map AbC)) noE)=Yo:=by
  unfold Yo NO;simp[Ayi,ZP,AaG,AbC,Ajf,noE]
 exact e▸Ayj
end Go.Proofs.YtcaoepecbgggcaaGreatDoor
