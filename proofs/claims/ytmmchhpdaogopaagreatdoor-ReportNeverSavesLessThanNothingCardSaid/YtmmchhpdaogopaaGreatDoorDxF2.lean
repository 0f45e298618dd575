/-
 The code does what its typed programs say.
-/
import Derived.Test.YtmmchhpdaogopaaGreatDoorDxF1
open BitVec renaming ofInt->aA
open Nat renaming min->aAA
namespace Go.Proofs.YtmmchhpdaogopaaGreatDoor
open Go Go.Dw Go.Proofs
open Go.IntKind (i64 u64)
set_option maxRecDepth 100000
set_option maxHeartbeats 40000000
open Go.Dw renaming Px -> bD,Qd -> cK,Sp -> bS,QU -> cD,RO -> xC,Qx -> xL,Rq -> lP,Qq -> sC,Qk -> bC,rf -> r
abbrev Ams:=en2 NU Av
abbrev Avk:=de2 RP uI
def PN (b:(List Int)):D:=.sl (b.map Av)
theorem Ahy:NM Tryz.prog 231 (fS (.row 1 3) Ams (λa=>YS a.1 a.2) PN):=by
 refine fn2 2 (NK) Tryz.func231<|?_;rintro⟨c,k2⟩;unfold YS;refine A 6 ?_;refine sC (E:=λ(_s:Unit) (g:Nat)=>[oI 1 k2,oP 2 g]) (O:=λ_ g=>[(2,dV g 3 57 (NU c))]) (j:=λ_=>ZT c k2) ?_ ?_
 ·exact B
 ·rintro⟨⟩ d nn;dsimp only[ZT];refine Ab 5 λb e=>?_
  refine Ac 20 ?_ ?_
  ·exact B
  ·refine sC (E:=λ(s:Bool) (g:Nat)=>[oI 1 k2,oP 5 g,oI 21 b.Op,oB 27 s]) (O:=λ_ g=>[(5,dV g 5 53 (Oj b))]) (j:=λs=>RC b k2 s) ?_ ?_
   ·exact B
   ·rintro f h nn;dsimp only[RC];refine cD r ?_ ?_
    ·exact B
    ·refine Ac 6 ?_ ?_
     ·refine Ac 11 ?_ ?_
      ·refine A 6 ?_;refine bS ([b.B,i64.wrap (k2+1)]:List Int) Av r r r (by simp) r r r<|?_
       exact B
      ·refine Ac 10 ?_ ?_
       ·refine A 6 ?_;refine bS ([i64.wrap (k2+1),b.B]:List Int) Av r r r (by simp) r r r<|?_
        exact B
       ·exact B
     ·exact B

def AaU (b:Int×Bool):D:=.tup [Mk b.1,.bool b.2]
theorem Tt:NM Tryz.prog 185 (fS .ground Td (λa=>Rg a) AaU):=by
 refine fn2 1 (nK 182 AcO<|NK) Tryz.func185<|?_;intro a;unfold Rg;exact B

abbrev AaR:=en1 (eL Av)
abbrev Auq:=de1 (uL uI)
theorem AbG:NM Tryz.prog 228 (fS .ground AaR (λa=>XP a) Od):=by
 refine fn2 1 (nK 111 Ahx<|NK) Tryz.func228<|?_;intro c;unfold XP;refine A 12 ?_;refine lP (E:=λ(s:Int) (_g:Unit)=>[oM 0 c Av,oI 3 s]) (O:=λ_ _=>[]) () hX<|?_
 rintro b ⟨⟩ nn;dsimp only[Tn];refine Ac 9 ?_ ?_
 ·refine Ab 8 λd e=>?_
  refine Ab 2 λf g=>?_
  refine A 3 ?_;refine Qy r ?_ ?_
  ·exact B
  ·refine A 3 ?_;refine Qy r ?_ ?_
   ·refine Ab 2 λh i=>?_
    refine Ab 5 λj k=>?_
    refine Ac 7 ?_ ?_
    ·exact B
    ·refine A 8 ?_;exact xL (s:=i64.wrap (b+1)) () hX
   ·refine A 23 ?_;exact xL (s:=i64.wrap (b+1)) () hX
 ·exact B

abbrev AeW:=en1 Qr
abbrev Auo:=de1 UU
theorem YO:NM Tryz.prog 198 (fS .ground AeW (λa=>Rp a) Od):=by
 refine fn2 1 (nK 176 Va<|NK) Tryz.func198<|?_;intro a;unfold Rp;exact B

abbrev Ud:=en2 Av Av
abbrev AoP:=de2 uI uI
def YP (b:Int×Int):D:=.tup [Mk b.1,Mk b.2]
theorem AfA:NM Tryz.prog 113 (fS .ground Ud (λa=>Wu a.1 a.2) YP):=by
 refine fn2 2 (nK 176 Va<|nK 173 AbE<|NK) Tryz.func113<|?_;rintro⟨b,c⟩;unfold Wu;refine A 6 ?_;refine sC (E:=λ(_s:Unit) (_g:Unit)=>[oI 0 b,oI 1 c]) (O:=λ_ _=>[]) (j:=λ_=>ZI c b) ?_ ?_
 ·exact B
 ·rintro⟨⟩ ⟨⟩ nn;dsimp only[ZI];refine A 6 ?_;refine sC (E:=λ(s:Int) (_g:Unit)=>[oI 6 s]) (O:=λ_ _=>[]) (j:=λs=>XO s) ?_ ?_
  ·exact B
  ·rintro d ⟨⟩ nn;dsimp only[XO];exact B

abbrev AjF:=en2 Qr Qr
abbrev AsM:=de2 UU UU
theorem Aeg:NM Tryz.prog 230 (fS .ground AjF (λa=>Ux a.1 a.2) Od):=by
 refine fn2 2 (nK 198 YO<|NK) Tryz.func230<|?_;intro a;unfold Ux;exact B

abbrev Aef:=en2 Qr Av
abbrev AtK:=de2 UU uI
theorem Alv:NM Tryz.prog 187 (fS .ground Aef (λa=>WO a.1 a.2) Od):=by
 refine fn2 2 (nK 198 YO<|NK) Tryz.func187<|?_;intro a;unfold WO;exact B

abbrev AiB:=en1 OW
abbrev ArQ:=de1 Xw
theorem AjD:NM Tryz.prog 201 (fS .ground AiB (λa=>WJ a) Od):=by
 refine fn2 1 (nK 202 AhF<|nK 102 Yc<|NK) Tryz.func201<|?_;intro a;unfold WJ;exact B

abbrev Afp:=en3 OP Av D.bool
abbrev Afo:=de3 Re uI uBo
def AgO (_b:Oh):D:=.tup []
def AgN (b:Oh):List D:=[OP b]
theorem Aai:NM Tryz.prog 140 (Ow [(0,(8,235))] .val Afp Afo (λa=>TQ a.1 a.2.1 a.2.2) AgO AgN):=by
 refine fn2 3 (nK 204 UD<|NK) Tryz.func140<|?_;rintro⟨c,b,o⟩;unfold TQ;refine Ab 13 λp s=>?_
 refine Ac 5 ?_ ?_
 ·exact B
 ·refine Ac 6 ?_ ?_
  ·refine A 5 ?_;refine cK λhq=>Sb r r r hq<|bD λd f=>RN (q:=d) (l:=c.toList) (en:=Ahf) (j:=(i64.wrap (b.tdiv 64)).toNat) (by simp) r r r f r (λ_=>r)<|?_
   refine A 3 ?_;refine cK λhq=>Sb r r r hq<|bD λg h=>Afi (q:=g) (q':=u64.wrap ((aA u64.bits d ||| aA u64.bits (u64.wrap (1*2 ^ (aAA ((u64.wrap (b)).tmod 64).toNat u64.bits)))).toNat)) (l:=c.toList) (en:=Ahf) (j:=(i64.wrap (b.tdiv 64)).toNat) (z':=OP (c.set ((i64.wrap (b.tdiv 64)).toNat) (u64.wrap ((aA u64.bits d ||| aA u64.bits (u64.wrap (1*2 ^ (aAA ((u64.wrap (b)).tmod 64).toNat u64.bits)))).toNat)))) (by simp) r r r r r h r r (congrArg (λl=>D.agg (l.map Ahf)) (UC c ((i64.wrap (b.tdiv 64)).toNat) (u64.wrap ((aA u64.bits d ||| aA u64.bits (u64.wrap (1*2 ^ (aAA ((u64.wrap (b)).tmod 64).toNat u64.bits)))).toNat))).symm) r r<|?_
   exact B
  ·refine A 5 ?_;refine cK λhq=>Sb r r r hq<|bD λe i=>RN (q:=e) (l:=c.toList) (en:=Ahf) (j:=(i64.wrap (b.tdiv 64)).toNat) (by simp) r r r i r (λ_=>r)<|?_
   refine A 3 ?_;refine cK λhq=>Sb r r r hq<|bD λk m=>Afi (q:=k) (q':=u64.wrap ((aA u64.bits e &&& ~~~ aA u64.bits (u64.wrap (1*2 ^ (aAA ((u64.wrap (b)).tmod 64).toNat u64.bits)))).toNat)) (l:=c.toList) (en:=Ahf) (j:=(i64.wrap (b.tdiv 64)).toNat) (z':=OP (c.set ((i64.wrap (b.tdiv 64)).toNat) (u64.wrap ((aA u64.bits e &&& ~~~ aA u64.bits (u64.wrap (1*2 ^ (aAA ((u64.wrap (b)).tmod 64).toNat u64.bits)))).toNat)))) (by simp) r r r r r m r r (congrArg (λl=>D.agg (l.map Ahf)) (UC c ((i64.wrap (b.tdiv 64)).toNat) (u64.wrap ((aA u64.bits e &&& ~~~ aA u64.bits (u64.wrap (1*2 ^ (aAA ((u64.wrap (b)).tmod 64).toNat u64.bits)))).toNat))).symm) r r<|?_
   exact B

abbrev Afm:=en2 OP Av
abbrev Afl:=de2 Re uI
def AgM (b:Bool×Oh):D:=.bool b.1
def AgL (b:Bool×Oh):List D:=[OP b.2]
theorem AfJ:NM Tryz.prog 142 (Ow [(0,(8,235))] .val Afm Afl (λa=>Ru a.1 a.2) AgM AgL):=by
 refine fn2 2 (nK 204 UD<|NK) Tryz.func142<|?_;rintro⟨b,c⟩;unfold Ru;refine Ab 8 λf g=>?_
 refine A 2 ?_;refine Qy r ?_ ?_
 ·refine A 4 ?_;refine cK λhq=>Sb r r r hq<|bD λd e=>RN (q:=d) (l:=b.toList) (en:=Ahf) (j:=(i64.wrap (c.tdiv 64)).toNat) (by simp) r r r e r (λ_=>r)<|?_
  exact B
 ·exact B

theorem Amm:NM Tryz.prog 219 (fS .ground Td (λa=>QI a) Od):=by
 refine fn2 1 (nK 222 Agd<|NK) Tryz.func219<|?_;intro b;unfold QI;refine A 6 ?_;refine sC (E:=λ(s:Bool) (g:Nat)=>[oP 1 g,oB 3 s]) (O:=λ_ g=>[(1,dV g 5 53 (Oj b))]) (j:=λs=>PJ b s) ?_ ?_
 ·exact B
 ·rintro c d nn;dsimp only[PJ];refine A 5 ?_;refine bC (E:=λ(s:Int) (g:Nat)=>[oP 1 g,oB 3 c,oI 4 s]) (O:=λ_ g=>[(1,dV g 5 53 (Oj b))]) (j:=λs=>Pj b c s) ?_ ?_
  ·refine sC (E:=λ(s:Bool) (g:Nat)=>[oP 1 g,oB 3 c,oI 4 2,oB 13 s]) (O:=λ_ g=>[(1,dV g 5 53 (Oj b))]) (j:=λs=>PA b c s) ?_ ?_
   ·exact B
   ·rintro e f nn;dsimp only[PA];refine cD r ?_ ?_
    ·exact B
    ·refine sC (E:=λ(s:Bool) (g:Nat)=>[oP 1 g,oB 3 c,oI 4 2,oB 25 s]) (O:=λ_ g=>[(1,dV g 5 53 (Oj b))]) (j:=λs=>PS b c s) ?_ ?_
     ·exact B
     ·rintro h i nn;dsimp only[PS];exact B
  ·rintro k l nn;dsimp only[Pj];exact B

end Go.Proofs.YtmmchhpdaogopaaGreatDoor
