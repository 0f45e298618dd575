/-
 The code does what its typed programs say.
-/
import Derived.Test.YtcaoepecbgggcaaGreatDoorDxP
namespace Go.Proofs.YtcaoepecbgggcaaGreatDoor
open Go Go.Dw Go.Proofs
set_option maxRecDepth 100000
set_option maxHeartbeats 40000000
open Go.Dw renaming OO -> bD,Qs -> cD,Rp -> xC,PY -> xL,QS -> lP,PQ -> sC,rf -> r
abbrev TP:=en2 Av Av
abbrev AoQ:=de2 uI uI
def NF (b:Bool):D:=.bool b
theorem Ajv:Nr Tryz.prog 228 (fS .ground TP (λa=>Sq a.1 a.2) NF):=by
 refine fn2 2 (Np) Tryz.func228<|?_;intro a;unfold Sq;exact B

abbrev Pc:=en1 Av
abbrev Ayl:=de1 uI
theorem Ajx:Nr Tryz.prog 209 (fS .ground Pc (λa=>WB a) NF):=by
 refine fn2 1 (Np) Tryz.func209<|?_;intro a;unfold WB;exact B

theorem YL:Nr Tryz.prog 150 (fS .ground Pc (λa=>Qu a) NF):=by
 refine fn2 1 (Np) Tryz.func150<|?_;intro a;unfold Qu;exact B

theorem Aal:Nr Tryz.prog 230 (fS .ground Pc (λa=>PA a) NF):=by
 refine fn2 1 (Np) Tryz.func230<|?_;intro a;unfold PA;exact B

theorem UM:Nr Tryz.prog 254 (fS .ground Pc (λa=>Ql a) NF):=by
 refine fn2 1 (Np) Tryz.func254<|?_;intro a;unfold Ql;exact B

theorem AbN:Nr Tryz.prog 149 (fS .ground Pc (λa=>SX a) NF):=by
 refine fn2 1 (Np) Tryz.func149<|?_;intro a;unfold SX;exact B

def Vt (b:Int×Int):D:=.tup [Nm b.1,Nm b.2]
theorem Aey:Nr Tryz.prog 151 (fS .ground Pc (λa=>TI a) Vt):=by
 refine fn2 1 (Np) Tryz.func151<|?_;intro a;unfold TI;exact B

abbrev QY:=en1 NG
abbrev Aue:=de1 RD
def XO (b:Int×Bool):D:=.tup [Nm b.1,.bool b.2]
theorem UK:Nr Tryz.prog 159 (fS .ground QY (λa=>RO a) XO):=by
 refine fn2 1 (Np) Tryz.func159<|?_;intro a;unfold RO;exact B

abbrev AdF:=en2 Nz (eL Av)
abbrev Aua:=de2 Rh (uL uI)
theorem Aln:Nr Tryz.prog 155 (fS .ground AdF (λa=>Xi a.1 a.2) NF):=by
 refine fn2 2 (Np) Tryz.func155<|?_;rintro⟨c,b⟩;unfold Xi;refine Ac 17 ?_ ?_
 ·exact B
 ·refine A 11 ?_;refine lP (E:=λ(s:Int) (g:Nat)=>[oM 1 b Av,oP 2 g,oM 13 b Av,oL 14 b,oI 15 s]) (O:=λ_ g=>[(2,dV g 3 36 (Nz c))]) _ hX<|?_
  rintro d e nn;dsimp only[Aaf];exact B

theorem AjL:Nr Tryz.prog 156 (fS .ground QY (λa=>XP a) NF):=by
 refine fn2 1 (nK 159 UK<|Np) Tryz.func156<|?_;intro a;unfold XP;exact B

abbrev AaK:=en4 Av (fpE Nz) (fpE Xk) (fpE Rx)
abbrev Ame:=de4 uI (fpU Rh) (fpU ZW) (fpU Vb)
theorem Abe:Nr Tryz.prog 218 (fS .ground AaK (λa=>QH a.1 a.2.1 a.2.2.1 a.2.2.2) XO):=by
 refine fn2 4 (nK 159 UK<|Np) Tryz.func218<|?_;rintro⟨k1,f,b,d⟩;unfold QH;refine Ab 11 λg h=>?_
 refine Ab 9 λc i=>?_
 refine A 8 ?_;refine sC (E:=λ(_s:Unit) (_g:Unit)=>[oI 0 k1,(2,.fptr (.agg [.sl (b.To.map Av),.sl (b.Keep.map D.bool)]) 0),(3,.fptr (.agg [.sl (d.Out.map (eL Av))]) 0),oI 8 c.1]) (O:=λ_ _=>[]) (j:=λ_=>PD d k1 b c) ?_ ?_
 ·exact B
 ·rintro⟨⟩ ⟨⟩ nn;dsimp only[PD];refine Ab 6 λe k=>?_
  refine A 7 ?_;refine lP (E:=λ(s:Int) (_g:Unit)=>[oI 0 k1,(2,.fptr (.agg [.sl (b.To.map Av),.sl (b.Keep.map D.bool)]) 0),oI 8 c.1,oM 48 e Av,oL 49 e,oI 50 s]) (O:=λ_ _=>[]) () hX<|?_
  rintro l ⟨⟩ nn;dsimp only[VF];exact B

abbrev AbO:=en2 Qa Qa
abbrev AwV:=de2 Vg Vg
theorem Aoe:Nr Tryz.prog 265 (fS .ground AbO (λa=>Adj a.1 a.2) NF):=by
 refine fn2 2 (Np) Tryz.func265<|?_;intro a;unfold Adj;exact B

theorem AbD:Nr Tryz.prog 241 (fS .ground Pc (λa=>RS a) NF):=by
 refine fn2 1 (Np) Tryz.func241<|?_;intro a;unfold RS;exact B

theorem AcG:Nr Tryz.prog 244 (fS .ground TP (λa=>Rn a.1 a.2) NF):=by
 refine fn2 2 (Np) Tryz.func244<|?_;intro a;unfold Rn;exact B

theorem AhP:Nr Tryz.prog 272 (fS .ground Pc (λa=>Qm a) NF):=by
 refine fn2 1 (Np) Tryz.func272<|?_;intro a;unfold Qm;exact B

theorem AhO:Nr Tryz.prog 271 (fS .ground Pc (λa=>Un a) NF):=by
 refine fn2 1 (nK 244 AcG<|Np) Tryz.func271<|?_;intro a;unfold Un;exact B

abbrev AcF:=en3 NG (fpE Xl) (fpE Qb)
abbrev Aon:=de3 RD (fpU XC) (fpU WO)
theorem AdU:Nr Tryz.prog 246 (fS .ground AcF (λa=>RA a.1 a.2.1 a.2.2) NF):=by
 refine fn2 3 (Np) Tryz.func246<|?_;intro a;unfold RA;exact B

theorem AdW:Nr Tryz.prog 141 (fS .ground QY (λa=>Sa a) NF):=by
 refine fn2 1 (Np) Tryz.func141<|?_;intro a;unfold Sa;exact B

theorem XV:Nr Tryz.prog 143 (fS .ground QY (λa=>Sp a) XO):=by
 refine fn2 1 (nK 141 AdW<|Np) Tryz.func143<|?_;intro a;unfold Sp;exact B

theorem Ajo:Nr Tryz.prog 125 (fS .ground Pc (λa=>Wu a) NF):=by
 refine fn2 1 (Np) Tryz.func125<|?_;intro a;unfold Wu;exact B

theorem Ajm:Nr Tryz.prog 185 (fS .ground Pc (λa=>Ta a) NF):=by
 refine fn2 1 (Np) Tryz.func185<|?_;intro a;unfold Ta;exact B

theorem Xu:Nr Tryz.prog 68 (fS .ground Pc (λa=>Qy a) NF):=by
 refine fn2 1 (Np) Tryz.func68<|?_;intro b;unfold Qy;refine A 12 ?_;refine lP (E:=λ(s:Int) (_g:Unit)=>[oI 0 b,oI 3 s]) (O:=λ_ _=>[]) () hX<|?_
 rintro k2 ⟨⟩ nn;dsimp only[RP];exact B

theorem Vk:Nr Tryz.prog 130 (fS .ground Pc (λa=>QU a) NF):=by
 refine fn2 1 (Np) Tryz.func130<|?_;intro a;unfold QU;exact B

abbrev AmN:=en2 On On
abbrev Aww:=de2 Ya Ya
theorem AnJ:Nr Tryz.prog 251 (fS .ground AmN (λa=>Acf a.1 a.2) NF):=by
 refine fn2 2 (Np) Tryz.func251<|?_;intro a;unfold Acf;exact B

theorem AbV:Nr Tryz.prog 126 (fS .ground TP (λa=>Pg a.1 a.2) NF):=by
 refine fn2 2 (Np) Tryz.func126<|?_;intro a;unfold Pg;exact B

theorem AgB:Nr Tryz.prog 190 (fS .ground Pc (λa=>PU a) NF):=by
 refine fn2 1 (Np) Tryz.func190<|?_;intro a;unfold PU;exact B

def Afs (b:Bool×Bool×Bool×Bool):D:=.tup [.bool b.1,.bool b.2.1,.bool b.2.2.1,.bool b.2.2.2]
theorem AlK:Nr Tryz.prog 186 (fS .ground Pc (λa=>Qr a) Afs):=by
 refine fn2 1 (Np) Tryz.func186<|?_;intro b;unfold Qr;refine Ac 21 ?_ ?_
 ·exact B
 ·refine sC (E:=λ(s:Bool) (_g:Unit)=>[oI 6 b,oB 9 s]) (O:=λ_ _=>[]) (j:=λs=>Ov b s) ?_ ?_
  ·exact B
  ·rintro c ⟨⟩ nn;dsimp only[Ov];refine cD r ?_ ?_
   ·exact B
   ·refine sC (E:=λ(s:Bool) (_g:Unit)=>[oI 6 b,oB 18 s]) (O:=λ_ _=>[]) (j:=λs=>Om b s) ?_ ?_
    ·exact B
    ·rintro d ⟨⟩ nn;dsimp only[Om];refine cD r ?_ ?_
     ·exact B
     ·refine sC (E:=λ(s:Bool) (_g:Unit)=>[oI 6 b,oB 29 s]) (O:=λ_ _=>[]) (j:=λs=>OX b s) ?_ ?_
      ·exact B
      ·rintro e ⟨⟩ nn;dsimp only[OX];exact B

abbrev AnC:=en2 Xl NG
abbrev Axb:=de2 XC RD
theorem Aoy:Nr Tryz.prog 189 (fS .ground AnC (λa=>QA a.1 a.2) NF):=by
 refine fn2 2 (nK 126 AbV<|Np) Tryz.func189<|?_;rintro⟨b,c⟩;unfold QA;refine A 20 ?_;refine sC (E:=λ(s:Bool) (g:Nat×Nat)=>[oP 2 g.1,oP 3 g.2,oI 5 8,oI 7 c.Op,oB 8 s]) (O:=λ_ g=>[(2,dV g.1 2 58 (.agg [Nm b.Align,.sl (b.Frames.map NW)])),(3,dV g.2 5 90 (NG c))]) (j:=λs=>OL c b s) ?_ ?_
 ·exact B
 ·rintro d ⟨e,f⟩ nn;dsimp only[OL];refine cD r ?_ ?_
  ·exact B
  ·refine sC (E:=λ(s:Bool) (g:Nat×Nat)=>[oP 2 g.1,oP 3 g.2,oI 5 8,oI 7 c.Op,oB 18 s]) (O:=λ_ g=>[(2,dV g.1 2 58 (.agg [Nm b.Align,.sl (b.Frames.map NW)])),(3,dV g.2 5 90 (NG c))]) (j:=λs=>PM c b s) ?_ ?_
   ·exact B
   ·rintro h ⟨i,k⟩ nn;dsimp only[PM];refine cD r ?_ ?_
    ·exact B
    ·refine sC (E:=λ(s:Bool) (g:Nat×Nat)=>[oP 2 g.1,oP 3 g.2,oI 5 8,oI 7 c.Op,oB 31 s]) (O:=λ_ g=>[(2,dV g.1 2 58 (.agg [Nm b.Align,.sl (b.Frames.map NW)])),(3,dV g.2 5 90 (NG c))]) (j:=λs=>Oz c b s) ?_ ?_
     ·exact B
     ·rintro l ⟨m,o⟩ nn;dsimp only[Oz];exact B

theorem AjO:Nr Tryz.prog 123 (fS .ground Pc (λa=>XU a) NF):=by
 refine fn2 1 (Np) Tryz.func123<|?_;intro a;unfold XU;exact B

end Go.Proofs.YtcaoepecbgggcaaGreatDoor
