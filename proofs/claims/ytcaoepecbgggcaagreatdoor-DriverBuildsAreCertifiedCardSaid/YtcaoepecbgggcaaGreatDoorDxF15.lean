/-
 The code does what its typed programs say.
-/
import Derived.Test.YtcaoepecbgggcaaGreatDoorSh
import Derived.Test.YtcaoepecbgggcaaGreatDoorCl
import Derived.Test.YtcaoepecbgggcaaGreatDoorDxP
namespace Go.Proofs.YtcaoepecbgggcaaGreatDoor
open Go Go.Dw Go.Proofs
set_option maxRecDepth 100000
set_option maxHeartbeats 40000000
open Go.Dw renaming OO -> bD,Qk -> cK,Abq -> aP,Vf -> sE,AaJ -> iO,rf -> r
noncomputable section
noncomputable def AsV:OU:=(Tryz.f157.body.bind (Pp Tryz.prog Tryz.f157.ntmps)).getD .skip
theorem Axr:(Tryz.f157.body.bind (Pp Tryz.prog Tryz.f157.ntmps))=some AsV:=by kernel_rfl
theorem Axs:Tryz.f157.results.toList.mapM (UN Tryz.prog)=some [(.t 6)]:=by kernel_rfl

abbrev Aaj:=en3 PJ Av Nz
abbrev AlH:=de3 Rr uI Rh
def Wq (b:Nv):D:=PJ b
def Agy:Dw.Spec:=NO [] .val Aaj AlH (λa=>Tm a.1 a.2.1 a.2.2) Wq noE
theorem Afo:Nr Tryz.prog 43 Agy:=by
 refine fn2 3 (nK 103 AtT<|Np) Tryz.func43<|?_;rintro⟨f,d,c⟩;unfold Tm;refine Ab 11 λa g=>?_
 refine A 12 ?_;refine cK λhq=>iO (l:=a) (en:=Nz) r r r r r hq<|bD λh e=>sE (l:=a) (en:=Nz) (q':=c) r r r r r r r (by simp) e r r r r r<|?_
 refine A 9 ?_;refine Uy (b:=(Nv.mk (a.set d.toNat c))) r ?_ r r ?_ (by first|rfl|(simp only;rfl)|(simp only;rfl)|(simp only;rfl)|(simp[Wq,PJ];try rfl))
 all_goals first|(simp;done)|(simp;omega)|rfl|(simp[OQ,OH];done)|(simp[cells];done)

noncomputable def Aee:OU:=(Tryz.f51.body.bind (Pp Tryz.prog Tryz.f51.ntmps)).getD .skip
theorem Ake:(Tryz.f51.body.bind (Pp Tryz.prog Tryz.f51.ntmps))=some Aee:=by kernel_rfl
theorem Akf:Tryz.f51.results.toList.mapM (UN Tryz.prog)=some []:=by kernel_rfl

noncomputable def AvJ:OU:=(Tryz.f52.body.bind (Pp Tryz.prog Tryz.f52.ntmps)).getD .skip
theorem Ayz:(Tryz.f52.body.bind (Pp Tryz.prog Tryz.f52.ntmps))=some AvJ:=by kernel_rfl
theorem AyA:Tryz.f52.results.toList.mapM (UN Tryz.prog)=some [(.t 2)]:=by kernel_rfl

noncomputable def AvK:OU:=(Tryz.f53.body.bind (Pp Tryz.prog Tryz.f53.ntmps)).getD .skip
theorem AyB:(Tryz.f53.body.bind (Pp Tryz.prog Tryz.f53.ntmps))=some AvK:=by kernel_rfl
theorem AyC:Tryz.f53.results.toList.mapM (UN Tryz.prog)=some [(.t 2)]:=by kernel_rfl

noncomputable def AvL:OU:=(Tryz.f54.body.bind (Pp Tryz.prog Tryz.f54.ntmps)).getD .skip
theorem AyD:(Tryz.f54.body.bind (Pp Tryz.prog Tryz.f54.ntmps))=some AvL:=by kernel_rfl
theorem AyE:Tryz.f54.results.toList.mapM (UN Tryz.prog)=some [(.t 2)]:=by kernel_rfl

noncomputable def AsW:OU:=(Tryz.f55.body.bind (Pp Tryz.prog Tryz.f55.ntmps)).getD .skip
theorem AyF:(Tryz.f55.body.bind (Pp Tryz.prog Tryz.f55.ntmps))=some AsW:=by kernel_rfl
theorem AyG:Tryz.f55.results.toList.mapM (UN Tryz.prog)=some [(.t 3)]:=by kernel_rfl

noncomputable def AsX:OU:=(Tryz.f56.body.bind (Pp Tryz.prog Tryz.f56.ntmps)).getD .skip
theorem AyH:(Tryz.f56.body.bind (Pp Tryz.prog Tryz.f56.ntmps))=some AsX:=by kernel_rfl
theorem AyI:Tryz.f56.results.toList.mapM (UN Tryz.prog)=some [(.t 6)]:=by kernel_rfl

noncomputable def AvM:OU:=(Tryz.f57.body.bind (Pp Tryz.prog Tryz.f57.ntmps)).getD .skip
theorem AyJ:(Tryz.f57.body.bind (Pp Tryz.prog Tryz.f57.ntmps))=some AvM:=by kernel_rfl
theorem AyK:Tryz.f57.results.toList.mapM (UN Tryz.prog)=some [(.t 2)]:=by kernel_rfl

noncomputable def Ayy:OU:=(Tryz.f50.body.bind (Pp Tryz.prog Tryz.f50.ntmps)).getD .skip
theorem AzE:(Tryz.f50.body.bind (Pp Tryz.prog Tryz.f50.ntmps))=some Ayy:=by kernel_rfl
theorem AzF:Tryz.f50.results.toList.mapM (UN Tryz.prog)=some []:=by kernel_rfl

abbrev Aqz:=en2 (eL eU8) Av
abbrev AyL:=de2 (uL uI) uI
def Ata (b:Mk):D:=Oh b
theorem ArK:Nr Tryz.prog 29 (fS (.ptr 2 114) Aqz (λa=>Aff a.1 a.2) Ata):=by
 refine fn2 2 (Np) Tryz.func29<|?_;intro a;unfold Aff;exact B

theorem AmK:Nr Tryz.prog 84 (fS .val Aaj (λa=>AaR a.1 a.2.1 a.2.2) Wq):=by
 refine fn2 3 (Np) Tryz.func84<|?_;rintro⟨c,e,d⟩;unfold AaR;refine A 11 ?_;refine cK λhq=>aP (([]:List Nn)) (c.Funcs) Nz r r r r r r r (by simp) r r r (by simp) r (λ_=>r) r hq<|?_
 refine A 8 ?_;refine cK λhq=>iO (l:=([]:List Nn)++c.Funcs) (en:=Nz) r r r r r hq<|bD λg f=>sE (l:=([]:List Nn)++c.Funcs) (en:=Nz) (q':=d) r r r r r r r (by simp) f r r r r r<|?_
 refine A 10 ?_;refine Uy (b:=(Nv.mk ((([]:List Nn)++c.Funcs).set e.toNat d))) r ?_ r r ?_ (by first|rfl|(simp only;rfl)|(simp only;rfl)|(simp only;rfl)|(simp[Wq,PJ];try rfl))
 all_goals first|(simp;done)|(simp;omega)|rfl|(simp[OQ,OH];done)|(simp[cells];done)

theorem Aem:Nr Tryz.prog 35 (fS .val Aaj (λa=>XY a.1 a.2.1 a.2.2) Wq):=by
 refine fn2 3 (nK 84 AmK<|Np) Tryz.func35<|?_;intro a;unfold XY;exact B

end
end Go.Proofs.YtcaoepecbgggcaaGreatDoor
