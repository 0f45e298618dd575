/-
 The code does what its typed programs say.
-/
import Derived.Test.YtmmchhpdaogopaaGreatDoorDxP
namespace Go.Proofs.YtmmchhpdaogopaaGreatDoor
open Go Go.Dw Go.Proofs
open Go.IntKind (i64)
set_option maxRecDepth 100000
set_option maxHeartbeats 40000000
open Go.Dw renaming Px -> bD,QU -> cD,RO -> xC,Qx -> xL,Rq -> lP,Qq -> sC,rf -> r
abbrev Pd:=en1 Av
abbrev AsS:=de1 uI
def AlN (b:(List UInt8)):D:=.str b
theorem AkL:NM Tryz.prog 45 (fS .ground Pd (λa=>Adh a) AlN):=by
 refine fn2 1 (NK) Tryz.func45<|?_;intro a;unfold Adh;exact B

def AaO (_a:Unit):List D:=[]
def AeS (_ds:List D):Unit:=()
theorem Amf (a:Unit):AeS (AaO a)=a:=rfl
instance:PT AaO AeS:=⟨Amf⟩
def Od (b:Bool):D:=.bool b
theorem Amg:NM Tryz.prog 14 (fS .ground AaO (λ_a=>Ace) Od):=by
 refine fn2 0 (nK 45 AkL<|NK) Tryz.func14<|?_;intro _;unfold Ace;exact B

abbrev Td:=en1 Oj
abbrev Ark:=de1 Sl
theorem AcO:NM Tryz.prog 182 (fS .ground Td (λa=>RW a) Od):=by
 refine fn2 1 (NK) Tryz.func182<|?_;intro a;unfold RW;exact B

theorem Ahx:NM Tryz.prog 111 (fS .ground Pd (λa=>Wb a) Od):=by
 refine fn2 1 (NK) Tryz.func111<|?_;intro a;unfold Wb;exact B

abbrev AlA:=en2 NU (eL Av)
abbrev Auv:=de2 RP (uL uI)
theorem Amy:NM Tryz.prog 181 (fS .ground AlA (λa=>Acj a.1 a.2) Od):=by
 refine fn2 2 (NK) Tryz.func181<|?_;rintro⟨b,c⟩;unfold Acj;refine Ac 17 ?_ ?_
 ·exact B
 ·refine A 9 ?_;refine lP (E:=λ(s:Int) (g:Nat)=>[oM 1 c Av,oP 2 g,oI 5 s]) (O:=λ_ g=>[(2,dV g 3 57 (NU b))]) _ hX<|?_
  rintro d f nn;dsimp only[Agr];refine Ac 9 ?_ ?_
  ·refine Ab 8 λh i=>?_
   refine A 4 ?_;refine Qy r ?_ ?_
   ·exact B
   ·refine Ab 2 λj k=>?_
    refine Ac 8 ?_ ?_
    ·exact B
    ·refine A 8 ?_;exact xL (s:=i64.wrap (d+1)) _ hX
  ·refine A 12 ?_;refine lP (E:=λ(s:Int) (g:Nat)=>[oM 1 c Av,oP 2 g,oI 6 s]) (O:=λ_ g=>[(2,dV g 3 57 (NU b))]) _ hX<|?_
   rintro e l nn;dsimp only[Ags];refine Ac 9 ?_ ?_
   ·refine Ab 10 λm o=>?_
    refine Ab 2 λp q=>?_
    refine Ab 6 λt u=>?_
    refine A 5 ?_;refine Qy r ?_ ?_
    ·exact B
    ·refine Ab 3 λv x=>?_
     refine Ab 2 λz aa=>?_
     refine Ab 4 λab ac=>?_
     refine Ac 6 ?_ ?_
     ·exact B
     ·refine A 8 ?_;exact xL (s:=i64.wrap (e+1)) _ hX
   ·exact B

theorem AnF:NM Tryz.prog 172 (fS .ground Pd (λa=>TH a) Od):=by
 refine fn2 1 (NK) Tryz.func172<|?_;intro a;unfold TH;exact B

theorem AbE:NM Tryz.prog 173 (fS .ground Pd (λa=>RB a) Od):=by
 refine fn2 1 (NK) Tryz.func173<|?_;intro b;unfold RB;refine A 12 ?_;refine lP (E:=λ(s:Int) (_g:Unit)=>[oI 0 b,oI 3 s]) (O:=λ_ _=>[]) () hX<|?_
 rintro k2 ⟨⟩ nn;dsimp only[RK];exact B

theorem Va:NM Tryz.prog 176 (fS .ground Pd (λa=>Qu a) Od):=by
 refine fn2 1 (NK) Tryz.func176<|?_;intro a;unfold Qu;exact B

abbrev AkG:=en2 OW OW
abbrev AtN:=de2 Xw Xw
theorem AlE:NM Tryz.prog 234 (fS .ground AkG (λa=>Abe a.1 a.2) Od):=by
 refine fn2 2 (NK) Tryz.func234<|?_;intro a;unfold Abe;exact B

def Aky (b:Bool×Bool×Bool×Bool):D:=.tup [.bool b.1,.bool b.2.1,.bool b.2.2.1,.bool b.2.2.2]
theorem AjH:NM Tryz.prog 174 (fS .ground Pd (λa=>Ol a) Aky):=by
 refine fn2 1 (NK) Tryz.func174<|?_;intro b;unfold Ol;refine Ac 21 ?_ ?_
 ·exact B
 ·refine sC (E:=λ(s:Bool) (_g:Unit)=>[oI 6 b,oB 9 s]) (O:=λ_ _=>[]) (j:=λs=>NX b s) ?_ ?_
  ·exact B
  ·rintro c ⟨⟩ nn;dsimp only[NX];refine cD r ?_ ?_
   ·exact B
   ·refine sC (E:=λ(s:Bool) (_g:Unit)=>[oI 6 b,oB 18 s]) (O:=λ_ _=>[]) (j:=λs=>NV b s) ?_ ?_
    ·exact B
    ·rintro d ⟨⟩ nn;dsimp only[NV];refine cD r ?_ ?_
     ·exact B
     ·refine sC (E:=λ(s:Bool) (_g:Unit)=>[oI 6 b,oB 29 s]) (O:=λ_ _=>[]) (j:=λs=>Oa b s) ?_ ?_
      ·exact B
      ·rintro e ⟨⟩ nn;dsimp only[Oa];exact B

theorem AjJ:NM Tryz.prog 227 (fS .ground Pd (λa=>Qb a) Od):=by
 refine fn2 1 (NK) Tryz.func227<|?_;intro a;unfold Qb;exact B

theorem AhV:NM Tryz.prog 109 (fS .ground Pd (λa=>Ry a) Od):=by
 refine fn2 1 (NK) Tryz.func109<|?_;intro a;unfold Ry;exact B

theorem AhF:NM Tryz.prog 202 (fS .ground Pd (λa=>Wj a) Od):=by
 refine fn2 1 (NK) Tryz.func202<|?_;intro a;unfold Wj;exact B

theorem Yc:NM Tryz.prog 102 (fS .ground Pd (λa=>QD a) Od):=by
 refine fn2 1 (NK) Tryz.func102<|?_;intro a;unfold QD;exact B

theorem Adw:NM Tryz.prog 138 (fS .ground Pd (λa=>QS a) Od):=by
 refine fn2 1 (NK) Tryz.func138<|?_;intro a;unfold QS;exact B

theorem UD:NM Tryz.prog 204 (fS .ground Pd (λa=>Qs a) Od):=by
 refine fn2 1 (NK) Tryz.func204<|?_;intro a;unfold Qs;exact B

theorem AaM:NM Tryz.prog 145 (fS .ground Pd (λa=>SH a) Od):=by
 refine fn2 1 (NK) Tryz.func145<|?_;intro a;unfold SH;exact B

theorem AaE:NM Tryz.prog 166 (fS .ground Pd (λa=>RR a) Od):=by
 refine fn2 1 (NK) Tryz.func166<|?_;intro a;unfold RR;exact B

theorem Agd:NM Tryz.prog 222 (fS .ground Pd (λa=>Qt a) Od):=by
 refine fn2 1 (NK) Tryz.func222<|?_;intro a;unfold Qt;exact B

abbrev Abx:=en3 Oj (fpE Aap) (fpE Qh)
abbrev Aml:=de3 Sl (fpU Aat) (fpU Wy)
theorem AcI:NM Tryz.prog 171 (fS .ground Abx (λa=>Rv a.1 a.2.1 a.2.2) Od):=by
 refine fn2 3 (NK) Tryz.func171<|?_;intro a;unfold Rv;exact B

end Go.Proofs.YtmmchhpdaogopaaGreatDoor
