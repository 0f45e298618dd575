import Derived.Test.YtcaoepecbgggcaaGreatDoorDxG
import Derived.KernelRfl
import Derived.Test.YtcaoepecbgggcaaGreatDoorDc
open List renaming replicate->aA
namespace Go.Proofs.YtcaoepecbgggcaaGreatDoor
open Go Go.Dw Go.Proofs
set_option maxRecDepth 100000
set_option maxHeartbeats 40000000
def Afb (f:Nat):D:=if f=0 then .nilf else .clo f []
noncomputable def Azg (l:List Nat) (i:Int):Option ((List Nat×Int)⊕List Nat) :=
 bif (decide (i<25))then
  chk (0<=i/\i<25)<|(l[i.toNat]?).bind λ_=>cnt (l.set i.toNat 235,IntKind.i64.wrap (i+1))
 else lft (chk (l=aA 25 235)<|some Adr)
noncomputable def AwT:Option (List Nat):=NU (λs=>Azg s.1 s.2) (aA 25 0,0)
theorem AAh:ND Tryz.prog 177 (NI [] .val Aqg Aqf (λ_=>AwT) (λl=>.agg (l.map Afb)) noE):=by
 refine fn2 0 NZ Tryz.func177 ?_;intro a;unfold AwT;refine A 17 ?_;refine Xu (E:=λ(s:List Nat×Int) (g:Nat×Nat)=>[(0,.optr 0 g.1 0 0),(1,.optr 1 g.2 0 0),(3,.int .i64 s.2)]) (O:=λs g=>[(0,some (g.1,⟨false,true,25,196,[.agg ((aA 25 0).map Afb)]⟩)),(1,some (g.2,⟨false,true,25,196,[.agg (s.1.map Afb)]⟩))]) (body:=λs=>Azg s.1 s.2) (s:=(aA 25 0,0)) (_,_) (hX) ?_
 rintro⟨l,i⟩ ⟨v0,v1⟩ nn
 try dsimp only
 unfold Azg;refine A 6 ?_;refine UZ rfl ?_ ?_
 ·refine A 12 ?_;refine Qo λhq=>Qx rfl rfl rfl hq ?_
  refine Ql λy hy=>AnY (q:=y) (q':=235) (l:=l) (en:=Afb) (j:=i.toNat) (z':=.agg ((l.set i.toNat 235).map Afb)) (by simp) rfl rfl rfl rfl rfl hy rfl rfl rfl ?_
  refine A 7 ?_;exact Ui (s:=(l.set i.toNat 235,IntKind.i64.wrap (i+1))) (_,_) (hX)
 ·refine A 7 ?_;refine Qo λhl=>?_
  subst hl;refine Qx rfl rfl rfl (by decide) ?_
  refine VP (z':=.agg (([235,235,235,235,235,235,235,235,235,235,235,235,235,235,235,236,235,235,235,235,235,235,235,235,235]:List Nat).map Afb)) rfl rfl rfl rfl rfl rfl rfl rfl rfl ?_;refine A 4 ?_;refine Qx rfl rfl rfl (by decide) ?_
  refine VP (z':=.agg (([235,235,235,235,235,235,235,235,235,235,235,235,235,235,235,236,237,235,235,235,235,235,235,235,235]:List Nat).map Afb)) rfl rfl rfl rfl rfl rfl rfl rfl rfl ?_;refine A 4 ?_;refine Qx rfl rfl rfl (by decide) ?_
  refine VP (z':=.agg (([235,235,235,235,235,235,235,235,235,235,235,235,235,235,235,236,237,238,235,235,235,235,235,235,235]:List Nat).map Afb)) rfl rfl rfl rfl rfl rfl rfl rfl rfl ?_;refine A 4 ?_;refine Qx rfl rfl rfl (by decide) ?_
  refine VP (z':=.agg (([235,235,235,235,235,235,235,235,235,235,235,235,235,235,235,236,237,238,239,235,235,235,235,235,235]:List Nat).map Afb)) rfl rfl rfl rfl rfl rfl rfl rfl rfl ?_;refine A 4 ?_;refine Qx rfl rfl rfl (by decide) ?_
  refine VP (z':=.agg (([235,235,235,235,235,235,235,235,235,235,235,235,235,235,235,236,237,238,239,240,235,235,235,235,235]:List Nat).map Afb)) rfl rfl rfl rfl rfl rfl rfl rfl rfl ?_;refine A 4 ?_;refine Akc (v:=.agg (Adr.map Afb)) (z:=.agg (Adr.map Afb)) rfl rfl rfl rfl rfl rfl ?_;refine VP (z':=.agg (Adr.map Afb)) rfl rfl rfl rfl rfl rfl rfl rfl rfl ?_;refine A 4 ?_;refine UX (b:=Adr) rfl ?_ rfl rfl ?_ rfl
  all_goals first|(simp;done)|(simp[Adr];done)
theorem AAg:AwT=some Adr:=AiM.2 ⟨26,by kernel_rfl⟩
theorem AmX:ND Tryz.prog 177 VL:=by
 have e:(NI [] .val Aqg Aqf (λ_=>AwT) (λl:List Nat=>.agg (l.map Afb)) noE)=VL:=by
  unfold VL NI;simp[AAg,Yb,Adr,Afb,AnD,noE]
 exact e▸AAh
end Go.Proofs.YtcaoepecbgggcaaGreatDoor
