/-
 The code does what its typed programs say.
-/
import Derived.Test.YtcaoepecbgggcaaGreatDoorDxF2
open BitVec renaming ofInt->aA
open Nat renaming min->aAA
namespace Go.Proofs.YtcaoepecbgggcaaGreatDoor
open Go Go.Dw Go.Proofs
open Go.IntKind (i64 u64)
set_option maxRecDepth 100000
set_option maxHeartbeats 40000000
open Go.Dw renaming ON -> bD,Qa -> cK,PL -> cD,QZ -> xC,Pn -> xL,Qb -> lP,PI -> sC,rf -> r
noncomputable section
def Xl (a:NH×Int×Bool):List D:=[NZ a.1,Av a.2.1,.bool a.2.2]
def Xk (ds:List D):NH×Int×Bool:=(PW (ds.getD 0 .top),uI (ds.getD 1 .top),uBo (ds.getD 2 .top))
instance:Od Xl Xk:=⟨λa=>by simp[Xk,Xl,uI,uBo]⟩
def AiZ (_b:NH):D:=.tup []
def AiY (b:NH):List D:=[NZ b]
def Aja:Dw.Spec:=NO [(0,(8,255))] .val Xl Xk (λa=>SH a.1 a.2.1 a.2.2) AiZ AiY
theorem XL:NK Tryz.prog 231 Aja:=by
 refine fn2 3 (nK 254 UY<|NG) Tryz.func231<|?_;rintro⟨b,a,m⟩;unfold SH;refine Ab 13 λo p=>?_
 refine Ac 5 ?_ ?_
 ·exact B
 ·refine Ac 6 ?_ ?_
  ·refine A 5 ?_;refine cK λhq=>QD r r r hq<|bD λc e=>Qy (q:=c) (l:=b.toList) (en:=ZF) (j:=(i64.wrap (a.tdiv 64)).toNat) (by simp) r r r e r (λ_=>r)<|?_
   refine A 3 ?_;refine cK λhq=>QD r r r hq<|bD λf g=>Ahn (q:=f) (q':=u64.wrap ((aA u64.bits c ||| aA u64.bits (u64.wrap (1*2 ^ (aAA ((u64.wrap (a)).tmod 64).toNat u64.bits)))).toNat)) (l:=b.toList) (en:=ZF) (j:=(i64.wrap (a.tdiv 64)).toNat) (z':=NZ (b.set ((i64.wrap (a.tdiv 64)).toNat) (u64.wrap ((aA u64.bits c ||| aA u64.bits (u64.wrap (1*2 ^ (aAA ((u64.wrap (a)).tmod 64).toNat u64.bits)))).toNat)))) (by simp) r r r r r g r r (congrArg (λl=>D.agg (l.map ZF)) (RR b ((i64.wrap (a.tdiv 64)).toNat) (u64.wrap ((aA u64.bits c ||| aA u64.bits (u64.wrap (1*2 ^ (aAA ((u64.wrap (a)).tmod 64).toNat u64.bits)))).toNat))).symm) r r<|?_
   exact B
  ·refine A 5 ?_;refine cK λhq=>QD r r r hq<|bD λd h=>Qy (q:=d) (l:=b.toList) (en:=ZF) (j:=(i64.wrap (a.tdiv 64)).toNat) (by simp) r r r h r (λ_=>r)<|?_
   refine A 3 ?_;refine cK λhq=>QD r r r hq<|bD λi k=>Ahn (q:=i) (q':=u64.wrap ((aA u64.bits d &&& ~~~ aA u64.bits (u64.wrap (1*2 ^ (aAA ((u64.wrap (a)).tmod 64).toNat u64.bits)))).toNat)) (l:=b.toList) (en:=ZF) (j:=(i64.wrap (a.tdiv 64)).toNat) (z':=NZ (b.set ((i64.wrap (a.tdiv 64)).toNat) (u64.wrap ((aA u64.bits d &&& ~~~ aA u64.bits (u64.wrap (1*2 ^ (aAA ((u64.wrap (a)).tmod 64).toNat u64.bits)))).toNat)))) (by simp) r r r r r k r r (congrArg (λl=>D.agg (l.map ZF)) (RR b ((i64.wrap (a.tdiv 64)).toNat) (u64.wrap ((aA u64.bits d &&& ~~~ aA u64.bits (u64.wrap (1*2 ^ (aAA ((u64.wrap (a)).tmod 64).toNat u64.bits)))).toNat))).symm) r r<|?_
   exact B

def Xj (a:NH×Int):List D:=[NZ a.1,Av a.2]
def Xi (ds:List D):NH×Int:=(PW (ds.getD 0 .top),uI (ds.getD 1 .top))
instance:Od Xj Xi:=⟨λa=>by simp[Xi,Xj,uI]⟩
def AiW (b:Bool×NH):D:=.bool b.1
def AiV (b:Bool×NH):List D:=[NZ b.2]
def AiX:Dw.Spec:=NO [(0,(8,255))] .val Xj Xi (λa=>RE a.1 a.2) AiW AiV
theorem AhY:NK Tryz.prog 232 AiX:=by
 refine fn2 2 (nK 254 UY<|NG) Tryz.func232<|?_;rintro⟨a,b⟩;unfold RE;refine Ab 8 λe f=>?_
 refine A 2 ?_;refine RS r ?_ ?_
 ·refine A 4 ?_;refine cK λhq=>QD r r r hq<|bD λc d=>Qy (q:=c) (l:=a.toList) (en:=ZF) (j:=(i64.wrap (b.tdiv 64)).toNat) (by simp) r r r d r (λ_=>r)<|?_
  exact B
 ·exact B

def UX (a:NH×Int):List D:=[.fptr (NZ a.1) 0,Av a.2]
def UW (ds:List D):NH×Int:=(PW (fpD (ds.getD 0 .top)),uI (ds.getD 1 .top))
instance:Od UX UW:=⟨λa=>by simp[UW,UX,uI,fpD]⟩
def AgF:Dw.Spec:=NO [] .ground UX UW (λa=>SG a.1 a.2) NX noE
theorem AfW:NK Tryz.prog 232 AgF:=by
 refine fn2 2 (nK 254 UY<|NG) Tryz.func232<|?_;rintro⟨a,b⟩;unfold SG;refine Ab 8 λe f=>?_
 refine A 2 ?_;refine RS r ?_ ?_
 ·refine A 4 ?_;refine cK λhq=>AvR r r r hq<|bD λc d=>Asu (q:=c) (l:=a.toList) (en:=ZF) (j:=(i64.wrap (b.tdiv 64)).toNat) (by simp) r r d (λ_=>r)<|?_
  exact B
 ·exact B

def Xh (a:Int×NH):List D:=[Av a.1,.fptr (.fptr (NZ a.2) 0) 0]
def Xg (ds:List D):Int×NH:=(uI (ds.getD 0 .top),PW (fpD (fpD (ds.getD 1 .top))))
instance:Od Xh Xg:=⟨λa=>by simp[Xg,Xh,uI,fpD]⟩
def AiU:Dw.Spec:=NO [] .ground Xh Xg (λa=>Uo a.1 a.2) NX noE
theorem AhX:NK Tryz.prog 234 AiU:=by
 refine fn2 2 (nK 232 AfW<|NG) Tryz.func234<|?_;intro a;unfold Uo;exact B

def AkI:Dw.Spec:=NO [] .ground SQ SP (λa=>Va a.1 a.2) VB noE
theorem AeY:NK Tryz.prog 90 AkI:=by
 refine fn2 2 (nK 149 AcF<|nK 151 Afu<|NG) Tryz.func90<|?_;rintro⟨a,b⟩;unfold Va;refine A 6 ?_;refine sC (E:=λ(_s:Unit) (_g:Unit)=>[(0,Av a),(1,Av b)]) (O:=λ_ _=>[]) (j:=λ_=>YA a b) ?_ ?_
 ·exact B
 ·rintro⟨⟩ ⟨⟩ nn;dsimp only[YA];exact B

def Ui (a:Oj×Int):List D:=[.agg [.sl (a.1.g.map (eL NF)),.sl (a.1.w.map NF),.row 1 4 (a.1.known.map D.bool),.row 1 3 (a.1.of.map NF)],Av a.2]
def Uh (ds:List D):Oj×Int:=((⟨(uL (uL uI)) (cel (ds.getD 0 .top) 0),(uL uI) (cel (ds.getD 0 .top) 1),(uR uBo) (cel (ds.getD 0 .top) 2),(uR uI) (cel (ds.getD 0 .top) 3)⟩:Oj),uI (ds.getD 1 .top))
instance:Od Ui Uh:=⟨λa=>by simp[Uh,Ui,uI,cel,OE (u:=(uL uI)) (en:=(eL NF)) (OE (u:=uI) (en:=NF) (λ_=>rfl)),OE (u:=uI) (en:=NF) (λ_=>rfl),Axk (u:=uI) (en:=NF) (λ_=>rfl),Axk (u:=uBo) (en:=D.bool) (λ_=>rfl)]⟩
def Acz (b:Int×Int×Oj):D:=.tup [Av b.1,Av b.2.1]
def Acy (b:Int×Int×Oj):List D:=[.agg [.sl (b.2.2.g.map (eL NF)),.sl (b.2.2.w.map NF),.row 1 4 (b.2.2.known.map D.bool),.row 1 3 (b.2.2.of.map NF)]]
def Ajb:Dw.Spec:=NO [(0,(4,194))] .val Ui Uh (λa=>ZA a.1 a.2) Acz Acy
def SI (b:Oj->Int->Option (Int×Int×Oj)):Dw.Spec:=NO [(0,(4,194))] .val Ui Uh (λa=>b a.1 a.2) Acz Acy
theorem Aht (h:Oj->Int->Option (Int×Int×Oj)) (hrec:NK Tryz.prog 175 (SI h)):NK Tryz.prog 175 (SI (Rl h)):=by
 refine fn2 2 (Asr (l:=[(175,SI h),(90,AkI)]) (by simp[hrec,AeY])) Tryz.func175<|?_
 rintro⟨a,b⟩;unfold Rl;refine A 8 ?_;refine AfH (E:=[(0,.optr 8192 0 0 0),(1,Av b)]) (O:=[(4697,dW _ 1 4 (a.known.map D.bool)),(8192,dV 0 4 194 (.agg [.sl (a.g.map (eL NF)),.sl (a.w.map NF),.osl 4697 _ 0 a.known.length,.row 1 3 (a.of.map NF)]))]) ((Ain (g:=8192) (off:=2) 601 (a.known) D.bool r r r hX)) λnn=>?_
 refine Ab 6 λo ab=>?_
 refine A 2 ?_;refine Qq (E:=[(0,.optr 8192 0 0 0),(1,Av b),(19,.bool o)]) (O:=[(8192,dV 0 4 194 (.agg [.sl (a.g.map (eL NF)),.sl (a.w.map NF),.row 1 4 (a.known.map D.bool),.row 1 3 (a.of.map NF)]))]) ((Aci (g:=8192) (i:=0) (off:=2) (g':=4697) (l:=a.known) (en:=D.bool) r r r (.inr ⟨rfl,r⟩) r r (λ_=>r) r hX)) λnn=>cD r ?_ ?_
 ·refine A 1 ?_;refine AfH (E:=[(0,.optr 8192 0 0 0),(1,Av b)]) (O:=[(4698,dW _ 1 3 (a.of.map NF)),(8192,dV 0 4 194 (.agg [.sl (a.g.map (eL NF)),.sl (a.w.map NF),.row 1 4 (a.known.map D.bool),.osl 4698 _ 0 a.of.length]))]) ((Ain (g:=8192) (off:=3) 602 (a.of) NF r r r hX)) λnn=>?_
  refine Ab 6 λp ac=>?_
  refine A 4 ?_;refine Qq (E:=[(4,Av p),(5,Av 0)]) (O:=[(8192,dV 0 4 194 (.agg [.sl (a.g.map (eL NF)),.sl (a.w.map NF),.row 1 4 (a.known.map D.bool),.row 1 3 (a.of.map NF)]))]) ((Aci (g:=8192) (i:=0) (off:=3) (g':=4698) (l:=a.of) (en:=NF) r r r (.inr ⟨rfl,r⟩) r r (λ_=>r) r hX)) λnn=>?_
  exact B
 ·refine Ab 15 λj ad=>?_
  refine A 7 ?_;refine lP (E:=λ(s:(List (List Int))×(List Int)×(List Bool)×(List Int)×Int×Int) (_g:Unit)=>[(0,.optr 8192 0 0 0),(1,Av b),(6,Av s.2.2.2.2.2),(33,.sl (j.map NF)),(34,Av (j.length:Int)),(35,Av s.2.2.2.2.1)]) (O:=λs _=>[(8192,dV 0 4 194 (.agg [.sl (s.1.map (eL NF)),.sl (s.2.1.map NF),.row 1 4 (s.2.2.1.map D.bool),.row 1 3 (s.2.2.2.1.map NF)]))]) (body:=λs=>XM j h b s.1 s.2.1 s.2.2.1 s.2.2.2.1 s.2.2.2.2.1 s.2.2.2.2.2) (s:=(a.g,a.w,a.known,a.of,0,0)) () hX<|?_
  rintro⟨k,m,c,d,t,u⟩ ⟨⟩ nn
  try dsimp only
  unfold XM;refine Ac 6 ?_ ?_
  ·refine Ab 6 λae af=>?_
   refine Ab 9 λe ag=>?_
   refine Ac 15 ?_ ?_
   ·exact B
   ·refine A 14 ?_;exact xL (s:=(e.2.2.g,e.2.2.w,e.2.2.known,e.2.2.of,i64.wrap (t+1),OI u e.1)) () hX
  ·refine Ab 12 λah ai=>?_
   refine Ab 3 λf aj=>?_
   refine Ac 15 ?_ ?_
   ·exact B
   ·refine A 3 ?_;refine AfH (E:=[(0,.optr 8192 0 0 0),(1,Av b),(11,Av f.1)]) (O:=[(4699,dW _ 1 3 (d.map NF)),(4700,dW _ 1 4 (c.map D.bool)),(8192,dV 0 4 194 (.agg [.sl (k.map (eL NF)),.sl (m.map NF),.osl 4700 _ 0 c.length,.osl 4699 _ 0 d.length]))]) ((Ain (g:=8192) (off:=3) 603 (d) NF r r r (Ain (g:=8192) (off:=2) 604 (c) D.bool r r r hX))) λnn=>?_
    refine A 12 ?_;refine bD λv x=>AjO (l:=d) (en:=NF) (q:=v) (q':=f.1) r r r r r x r (λ_=>r) r r r ⟨trivial,trivial,r⟩<|?_
    refine A 1 ?_;refine bD λz aa=>AjO (l:=c) (en:=D.bool) (q:=z) (q':=true) r r r r r aa r (λ_=>r) r r r ⟨trivial,trivial,r⟩<|?_
    refine A 1 ?_;refine Qq (E:=[(11,Av f.1)]) (O:=[(8192,dV 0 4 194 (.agg [.sl (k.map (eL NF)),.sl (m.map NF),.row 1 4 ((c.set b.toNat true).map D.bool),.row 1 3 ((d.set b.toNat f.1).map NF)]))]) ((Aci (g:=8192) (i:=0) (off:=2) (g':=4700) (l:=c.set b.toNat true) (en:=D.bool) r r r (.inr ⟨rfl,r⟩) r (by simp) (λ_=>r) r (Aci (g:=8192) (i:=0) (off:=3) (g':=4699) (l:=d.set b.toNat f.1) (en:=NF) r r r (.inr ⟨rfl,r⟩) r (by simp) (λ_=>r) r hX))) λnn=>?_
    exact B
theorem Ahs:NK Tryz.prog 175 (SI (Qv 0)):=fn2 2 NG Tryz.func175 λ_ _ h=>by cases h
theorem Abb:∀ k,NK Tryz.prog 175 (SI (Qv k))
 | 0=>Ahs
 | k+1=>Aht _ (Abb k)
theorem Aic:NK Tryz.prog 175 Ajb:=Axf Od.ok Abb

def AmG:Dw.Spec:=NO [] .ground WL WK (λa=>XR a.1 a.2) NX noE
theorem AlW:NK Tryz.prog 223 AmG:=by
 refine fn2 2 (nK 264 Ahe<|nK 265 AoC<|NG) Tryz.func223<|?_;intro a;unfold XR;exact B

def VF (a:Ox×Ob×Int):List D:=[Qw a.1,Td a.2.1,Av a.2.2]
def VE (ds:List D):Ox×Ob×Int:=(UH (ds.getD 0 .top),VU (ds.getD 1 .top),uI (ds.getD 2 .top))
instance:Od VF VE:=⟨λa=>by simp[VE,VF,uI]⟩
def AhA:Dw.Spec:=NO [] .ground VF VE (λa=>Tf a.1 a.2.1 a.2.2) Yj noE
theorem AgG:NK Tryz.prog 163 AhA:=by
 refine fn2 3 (nK 159 UR<|nK 224 YB<|nK 223 AlW<|NG) Tryz.func163<|?_;rintro⟨a,c,k3⟩;unfold Tf;refine Ab 14 λe f=>?_
 refine Ab 9 λb h=>?_
 refine A 8 ?_;refine sC (E:=λ(_s:Unit) (g:Nat×Nat)=>[(2,Av k3),(3,.optr 3 g.1 0 0),(4,.optr 4 g.2 0 0),(9,Av b.1)]) (O:=λ_ g=>[(3,dV g.1 9 144 (Qw a)),(4,dV g.2 1 45 (.agg [.sl (c.Out.map (eL NF))]))]) (j:=λ_=>QY c k3 b a) ?_ ?_
 ·exact B
 ·rintro⟨⟩ ⟨i,k⟩ nn;dsimp only[QY];refine Ab 6 λd l=>?_
  refine A 7 ?_;refine lP (E:=λ(s:Int) (g:Nat)=>[(3,.optr 3 g 0 0),(9,Av b.1),(52,.sl (d.map NF)),(53,Av (d.length:Int)),(54,Av s)]) (O:=λ_ g=>[(3,dV g 9 144 (Qw a))]) _ hX<|?_
  rintro m o nn;dsimp only[AaD];exact B

def Auv:Dw.Spec:=NO [] .ground SQ SP (λa=>ZT a.1 a.2) VB noE
theorem AhL:NK Tryz.prog 83 Auv:=by
 refine fn2 2 (nK 130 Aan<|nK 68 AdM<|NG) Tryz.func83<|?_;rintro⟨a,b⟩;unfold ZT;refine A 6 ?_;refine sC (E:=λ(_s:Unit) (_g:Unit)=>[(0,Av a),(1,Av b)]) (O:=λ_ _=>[]) (j:=λ_=>Aej b a) ?_ ?_
 ·exact B
 ·rintro⟨⟩ ⟨⟩ nn;dsimp only[Aej];refine A 6 ?_;refine sC (E:=λ(s:Int) (_g:Unit)=>[(6,Av s)]) (O:=λ_ _=>[]) (j:=λs=>Abh s) ?_ ?_
  ·exact B
  ·rintro c ⟨⟩ nn;dsimp only[Abh];exact B

end
end Go.Proofs.YtcaoepecbgggcaaGreatDoor
