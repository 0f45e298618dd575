/-
 The code does what its typed programs say.
-/
import Derived.Test.YtcaoepecbgggcaaGreatDoorDxF1
namespace Go.Proofs.YtcaoepecbgggcaaGreatDoor
open Go Go.Dw Go.Proofs
set_option maxRecDepth 100000
set_option maxHeartbeats 40000000
open Go.Dw renaming ON -> bD,PL -> cD,QZ -> xC,Pn -> xL,Qb -> lP,PI -> sC,Rr -> bC,rf -> r
noncomputable section
def ZH (a:NS):List D:=[OH a]
def ZG (ds:List D):NS:=Xb (ds.getD 0 .top)
instance:Od ZH ZG:=⟨λa=>by simp[ZG,ZH]⟩
def AmH:Dw.Spec:=NO [] .ground ZH ZG (λa=>TR a) NX noE
theorem AlX:NK Tryz.prog 208 AmH:=by
 refine fn2 1 (nK 209 AjQ<|nK 150 Zl<|NG) Tryz.func208<|?_;intro a;unfold TR;exact B

def Ang:Dw.Spec:=NO [] .ground PG PF (λa=>PS a) NX noE
theorem AaX:NK Tryz.prog 230 Ang:=by
 refine fn2 1 (NG) Tryz.func230<|?_;intro a;unfold PS;exact B

def AjR:Dw.Spec:=NO [] .ground PG PF (λa=>Qn a) NX noE
theorem UY:NK Tryz.prog 254 AjR:=by
 refine fn2 1 (NG) Tryz.func254<|?_;intro a;unfold Qn;exact B

def AoB:Dw.Spec:=NO [] .ground PG PF (λa=>Te a) NX noE
theorem AcF:NK Tryz.prog 149 AoB:=by
 refine fn2 1 (NG) Tryz.func149<|?_;intro a;unfold Te;exact B

def VB (b:Int×Int):D:=.tup [Av b.1,Av b.2]
def AmI:Dw.Spec:=NO [] .ground PG PF (λa=>TS a) VB noE
theorem Afu:NK Tryz.prog 151 AmI:=by
 refine fn2 1 (NG) Tryz.func151<|?_;intro a;unfold TS;exact B

def Se (a:Ox×Int):List D:=[Qw a.1,Av a.2]
def Sd (ds:List D):Ox×Int:=(UH (ds.getD 0 .top),uI (ds.getD 1 .top))
instance:Od Se Sd:=⟨λa=>by simp[Sd,Se,uI]⟩
def Afz (b:NU):D:=PX b
def AfA:Dw.Spec:=NO [] .ground Se Sd (λa=>PY a.1 a.2) Afz noE
theorem YB:NK Tryz.prog 224 AfA:=by
 refine fn2 2 (NG) Tryz.func224<|?_;intro a;unfold PY;exact B

def Ym (a:NU):List D:=[PX a]
def Yl (ds:List D):NU:=Uy (ds.getD 0 .top)
instance:Od Ym Yl:=⟨λa=>by simp[Yl,Ym]⟩
def AoD:Dw.Spec:=NO [] .ground Ym Yl (λa=>VC a) NX noE
theorem Ahe:NK Tryz.prog 264 AoD:=by
 refine fn2 1 (nK 149 AcF<|NG) Tryz.func264<|?_;intro a;unfold VC;exact B

def AjS:Dw.Spec:=NO [] .ground PG PF (λa=>RW a) NX noE
theorem AcB:NK Tryz.prog 241 AjS:=by
 refine fn2 1 (NG) Tryz.func241<|?_;intro a;unfold RW;exact B

def Aei (a:OW×Int):List D:=[Adz a.1,Av a.2]
def Aeh (ds:List D):OW×Int:=(Aed (ds.getD 0 .top),uI (ds.getD 1 .top))
instance:Od Aei Aeh:=⟨λa=>by simp[Aeh,Aei,uI]⟩
def ApB (b:Oz×Bool):D:=.tup [Qo b.1,.bool b.2]
def Avm:Dw.Spec:=NO [] .val Aei Aeh (λa=>AfL a.1 a.2) ApB noE
theorem AnF:NK Tryz.prog 181 Avm:=by
 refine fn2 2 (nK 244 AdE<|nK 150 Zl<|NG) Tryz.func181<|?_;rintro⟨a,c⟩;unfold AfL;refine Ab 14 λd e=>?_
 refine Ac 4 ?_ ?_
 ·refine A 9 ?_;refine Pu (b:=((Oz.mk (OG.mk 0 0 ([])) 0 0),false)) r ?_ r r ?_ (by first|rfl|(simp only[NN];rfl)|(simp only[NQ];rfl)|(simp only[NN,NQ];rfl)|(simp[ApB,Qo];try rfl)) (by decide)
  all_goals first|(simp;done)|(simp;omega)|rfl|(simp[Pd,OU];done)|(simp[cells];done)
 ·exact B

def ApW:Dw.Spec:=NO [] .ground PG PF (λa=>Qp a) NX noE
theorem Ais:NK Tryz.prog 272 ApW:=by
 refine fn2 1 (NG) Tryz.func272<|?_;intro a;unfold Qp;exact B

def ApX:Dw.Spec:=NO [] .ground Qi Qh (λa=>QA a) NX noE
theorem AoL:NK Tryz.prog 269 ApX:=by
 refine fn2 1 (nK 272 Ais<|NG) Tryz.func269<|?_;intro a;unfold QA;refine A 6 ?_;refine sC (E:=λ(s:Bool) (g:Nat)=>[(1,.optr 1 g 0 0),(3,.bool s)]) (O:=λ_ g=>[(1,dV g 5 90 (NY a))]) (j:=λs=>Po a s) ?_ ?_
 ·exact B
 ·rintro b c nn;dsimp only[Po];refine A 5 ?_;refine bC (E:=λ(s:Int) (g:Nat)=>[(1,.optr 1 g 0 0),(3,.bool b),(4,Av s)]) (O:=λ_ g=>[(1,dV g 5 90 (NY a))]) (j:=λs=>OR a b s) ?_ ?_
  ·refine sC (E:=λ(s:Bool) (g:Nat)=>[(1,.optr 1 g 0 0),(3,.bool b),(4,Av 2),(13,.bool s)]) (O:=λ_ g=>[(1,dV g 5 90 (NY a))]) (j:=λs=>Pg a b s) ?_ ?_
   ·exact B
   ·rintro d e nn;dsimp only[Pg];refine cD r ?_ ?_
    ·exact B
    ·refine sC (E:=λ(s:Bool) (g:Nat)=>[(1,.optr 1 g 0 0),(3,.bool b),(4,Av 2),(25,.bool s)]) (O:=λ_ g=>[(1,dV g 5 90 (NY a))]) (j:=λs=>PD a b s) ?_ ?_
     ·exact B
     ·rintro f h nn;dsimp only[PD];exact B
  ·rintro i k nn;dsimp only[OR];exact B

def Ajs:Dw.Spec:=NO [] .ground PG PF (λa=>Uv a) NX noE
theorem Air:NK Tryz.prog 271 Ajs:=by
 refine fn2 1 (nK 244 AdE<|NG) Tryz.func271<|?_;intro a;unfold Uv;exact B

def ArN:Dw.Spec:=NO [] .ground PG PF (λa=>WR a) NX noE
theorem AjH:NK Tryz.prog 125 ArN:=by
 refine fn2 1 (NG) Tryz.func125<|?_;intro a;unfold WR;exact B

def ArJ:Dw.Spec:=NO [] .ground PG PF (λa=>Tk a) NX noE
theorem Aqa:NK Tryz.prog 185 ArJ:=by
 refine fn2 1 (NG) Tryz.func185<|?_;intro a;unfold Tk;exact B

def Aqd:Dw.Spec:=NO [] .ground PG PF (λa=>QU a) NX noE
theorem AdM:NK Tryz.prog 68 Aqd:=by
 refine fn2 1 (NG) Tryz.func68<|?_;intro a;unfold QU;refine A 12 ?_;refine lP (E:=λ(s:Int) (_g:Unit)=>[(0,Av a),(3,Av s)]) (O:=λ_ _=>[]) () hX<|?_
 rintro k2 ⟨⟩ nn;dsimp only[RU];exact B

def Aqc:Dw.Spec:=NO [] .ground PG PF (λa=>Ta a) NX noE
theorem Aan:NK Tryz.prog 130 Aqc:=by
 refine fn2 1 (NG) Tryz.func130<|?_;intro a;unfold Ta;exact B

end
end Go.Proofs.YtcaoepecbgggcaaGreatDoor
