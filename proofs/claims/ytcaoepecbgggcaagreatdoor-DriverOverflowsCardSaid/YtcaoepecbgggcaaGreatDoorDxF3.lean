/-
 The code does what its typed programs say.
-/
import Derived.Test.YtcaoepecbgggcaaGreatDoorProg
import Derived.Test.YtcaoepecbgggcaaGreatDoorDc
import Derived.KernelRfl
import Derived.Test.YtcaoepecbgggcaaGreatDoorDxP
import Derived.Test.YtcaoepecbgggcaaGreatDoorDxF1
import Derived.Test.YtcaoepecbgggcaaGreatDoorDxF2
open BitVec renaming ofInt->aA
open Nat renaming min->aAA
namespace Go.Proofs.YtcaoepecbgggcaaGreatDoor
open Go Go.Dw Go.Proofs
open Go.IntKind (i64 u64)
set_option maxRecDepth 100000
set_option maxHeartbeats 40000000
open Go.Dw renaming OQ -> bD,PQ -> cK,PX -> cD,RJ -> xC,PH -> xL,Qm -> lP,Qd -> sC,rf -> r
noncomputable section
def WH (a:NI×Int×Bool):List D:=[NY a.1,Av a.2.1,.bool a.2.2]
def WG (ds:List D):NI×Int×Bool:=(PM (ds.getD 0 .top),uI (ds.getD 1 .top),uBo (ds.getD 2 .top))
instance:Od WH WG:=⟨λa=>by simp[WG,WH,uI,uBo]⟩
def AhT (_b:NI):D:=.tup []
def AhS (b:NI):List D:=[NY b]
def AhU:Dw.Spec:=NN [(0,(8,255))] .val WH WG (λa=>Su a.1 a.2.1 a.2.2) AhT AhS
theorem Xf:NL Tryz.prog 231 AhU:=by
 refine fn2 3 (nK 254 UH<|NG) Tryz.func231<|?_;rintro⟨b,a,m⟩;unfold Su;refine Ab 13 λo p=>?_
 refine Ac 5 ?_ ?_
 ·exact B
 ·refine Ac 6 ?_ ?_
  ·refine A 5 ?_;refine cK λhq=>Qw r r r hq<|bD λc e=>Qq (q:=c) (l:=b.toList) (en:=YU) (j:=(i64.wrap (a.tdiv 64)).toNat) (by simp) r r r e r (λ_=>r)<|?_
   refine A 3 ?_;refine cK λhq=>Qw r r r hq<|bD λf g=>Agn (q:=f) (q':=u64.wrap ((aA u64.bits c ||| aA u64.bits (u64.wrap (1*2 ^ (aAA ((u64.wrap (a)).tmod 64).toNat u64.bits)))).toNat)) (l:=b.toList) (en:=YU) (j:=(i64.wrap (a.tdiv 64)).toNat) (z':=NY (b.set ((i64.wrap (a.tdiv 64)).toNat) (u64.wrap ((aA u64.bits c ||| aA u64.bits (u64.wrap (1*2 ^ (aAA ((u64.wrap (a)).tmod 64).toNat u64.bits)))).toNat)))) (by simp) r r r r r g r r (congrArg (λl=>D.agg (l.map YU)) (RF b ((i64.wrap (a.tdiv 64)).toNat) (u64.wrap ((aA u64.bits c ||| aA u64.bits (u64.wrap (1*2 ^ (aAA ((u64.wrap (a)).tmod 64).toNat u64.bits)))).toNat))).symm) r r<|?_
   exact B
  ·refine A 5 ?_;refine cK λhq=>Qw r r r hq<|bD λd h=>Qq (q:=d) (l:=b.toList) (en:=YU) (j:=(i64.wrap (a.tdiv 64)).toNat) (by simp) r r r h r (λ_=>r)<|?_
   refine A 3 ?_;refine cK λhq=>Qw r r r hq<|bD λi k=>Agn (q:=i) (q':=u64.wrap ((aA u64.bits d &&& ~~~ aA u64.bits (u64.wrap (1*2 ^ (aAA ((u64.wrap (a)).tmod 64).toNat u64.bits)))).toNat)) (l:=b.toList) (en:=YU) (j:=(i64.wrap (a.tdiv 64)).toNat) (z':=NY (b.set ((i64.wrap (a.tdiv 64)).toNat) (u64.wrap ((aA u64.bits d &&& ~~~ aA u64.bits (u64.wrap (1*2 ^ (aAA ((u64.wrap (a)).tmod 64).toNat u64.bits)))).toNat)))) (by simp) r r r r r k r r (congrArg (λl=>D.agg (l.map YU)) (RF b ((i64.wrap (a.tdiv 64)).toNat) (u64.wrap ((aA u64.bits d &&& ~~~ aA u64.bits (u64.wrap (1*2 ^ (aAA ((u64.wrap (a)).tmod 64).toNat u64.bits)))).toNat))).symm) r r<|?_
   exact B

def WE (a:NI×Int):List D:=[NY a.1,Av a.2]
def WD (ds:List D):NI×Int:=(PM (ds.getD 0 .top),uI (ds.getD 1 .top))
instance:Od WE WD:=⟨λa=>by simp[WD,WE,uI]⟩
def AhQ (b:Bool×NI):D:=.bool b.1
def AhP (b:Bool×NI):List D:=[NY b.2]
def AhR:Dw.Spec:=NN [(0,(8,255))] .val WE WD (λa=>Rq a.1 a.2) AhQ AhP
theorem AgT:NL Tryz.prog 232 AhR:=by
 refine fn2 2 (nK 254 UH<|NG) Tryz.func232<|?_;rintro⟨a,b⟩;unfold Rq;refine Ab 8 λe f=>?_
 refine A 2 ?_;refine Tz r ?_ ?_
 ·refine A 4 ?_;refine cK λhq=>Qw r r r hq<|bD λc d=>Qq (q:=c) (l:=a.toList) (en:=YU) (j:=(i64.wrap (b.tdiv 64)).toNat) (by simp) r r r d r (λ_=>r)<|?_
  exact B
 ·exact B

def UG (a:NI×Int):List D:=[.fptr (NY a.1) 0,Av a.2]
def UF (ds:List D):NI×Int:=(PM (fpD (ds.getD 0 .top)),uI (ds.getD 1 .top))
instance:Od UG UF:=⟨λa=>by simp[UF,UG,uI,fpD]⟩
def AfC:Dw.Spec:=NN [] .ground UG UF (λa=>Ss a.1 a.2) NX noE
theorem AeV:NL Tryz.prog 232 AfC:=by
 refine fn2 2 (nK 254 UH<|NG) Tryz.func232<|?_;rintro⟨a,b⟩;unfold Ss;refine Ab 8 λe f=>?_
 refine A 2 ?_;refine Tz r ?_ ?_
 ·refine A 4 ?_;refine cK λhq=>Auk r r r hq<|bD λc d=>AqM (q:=c) (l:=a.toList) (en:=YU) (j:=(i64.wrap (b.tdiv 64)).toNat) (by simp) r r d (λ_=>r)<|?_
  exact B
 ·exact B

def WC (a:Int×NI):List D:=[Av a.1,.fptr (.fptr (NY a.2) 0) 0]
def WB (ds:List D):Int×NI:=(uI (ds.getD 0 .top),PM (fpD (fpD (ds.getD 1 .top))))
instance:Od WC WB:=⟨λa=>by simp[WB,WC,uI,fpD]⟩
def AhO:Dw.Spec:=NN [] .ground WC WB (λa=>TZ a.1 a.2) NX noE
theorem AgS:NL Tryz.prog 234 AhO:=by
 refine fn2 2 (nK 232 AeV<|NG) Tryz.func234<|?_;intro a;unfold TZ;exact B

def Ajs:Dw.Spec:=NN [] .ground SD SC (λa=>UJ a.1 a.2) Vm noE
theorem Aeb:NL Tryz.prog 90 Ajs:=by
 refine fn2 2 (nK 149 AbH<|nK 151 Aew<|NG) Tryz.func90<|?_;rintro⟨a,b⟩;unfold UJ;refine A 6 ?_;refine sC (E:=λ(_s:Unit) (_g:Unit)=>[(0,Av a),(1,Av b)]) (O:=λ_ _=>[]) (j:=λ_=>XY a b) ?_ ?_
 ·exact B
 ·rintro⟨⟩ ⟨⟩ nn;dsimp only[XY];exact B

def TT (a:Oi×Int):List D:=[.agg [.sl (a.1.g.map (eL Mk)),.sl (a.1.w.map Mk),.row 1 4 (a.1.known.map D.bool),.row 1 3 (a.1.of.map Mk)],Av a.2]
def TS (ds:List D):Oi×Int:=((⟨(uL (uL uI)) (cel (ds.getD 0 .top) 0),(uL uI) (cel (ds.getD 0 .top) 1),(uR uBo) (cel (ds.getD 0 .top) 2),(uR uI) (cel (ds.getD 0 .top) 3)⟩:Oi),uI (ds.getD 1 .top))
instance:Od TT TS:=⟨λa=>by simp[TS,TT,uI,cel,OG (u:=(uL uI)) (en:=(eL Mk)) (OG (u:=uI) (en:=Mk) (λ_=>rfl)),OG (u:=uI) (en:=Mk) (λ_=>rfl),AvF (u:=uI) (en:=Mk) (λ_=>rfl),AvF (u:=uBo) (en:=D.bool) (λ_=>rfl)]⟩
def AbD (b:Int×Int×Oi):D:=.tup [Av b.1,Av b.2.1]
def AbC (b:Int×Int×Oi):List D:=[.agg [.sl (b.2.2.g.map (eL Mk)),.sl (b.2.2.w.map Mk),.row 1 4 (b.2.2.known.map D.bool),.row 1 3 (b.2.2.of.map Mk)]]
def AhV:Dw.Spec:=NN [(0,(4,194))] .val TT TS (λa=>YQ a.1 a.2) AbD AbC
def Sv (b:Oi->Int->Option (Int×Int×Oi)):Dw.Spec:=NN [(0,(4,194))] .val TT TS (λa=>b a.1 a.2) AbD AbC
theorem Ags (h:Oi->Int->Option (Int×Int×Oi)) (hrec:NL Tryz.prog 175 (Sv h)):NL Tryz.prog 175 (Sv (Ra h)):=by
 refine fn2 2 (AqJ (l:=[(175,Sv h),(90,Ajs)]) (by simp[hrec,Aeb])) Tryz.func175<|?_
 rintro⟨a,b⟩;unfold Ra;refine A 8 ?_;refine AeH (E:=[(0,.optr 8192 0 0 0),(1,Av b)]) (O:=[(4697,dW _ 1 4 (a.known.map D.bool)),(8192,dV 0 4 194 (.agg [.sl (a.g.map (eL Mk)),.sl (a.w.map Mk),.osl 4697 _ 0 a.known.length,.row 1 3 (a.of.map Mk)]))]) ((Ahg (g:=8192) (off:=2) 601 (a.known) D.bool r r r hX)) λnn=>?_
 refine Ab 6 λo ab=>?_
 refine A 2 ?_;refine Qh (E:=[(0,.optr 8192 0 0 0),(1,Av b),(19,.bool o)]) (O:=[(8192,dV 0 4 194 (.agg [.sl (a.g.map (eL Mk)),.sl (a.w.map Mk),.row 1 4 (a.known.map D.bool),.row 1 3 (a.of.map Mk)]))]) ((Abk (g:=8192) (i:=0) (off:=2) (g':=4697) (l:=a.known) (en:=D.bool) r r r (.inr ⟨rfl,r⟩) r r (λ_=>r) r hX)) λnn=>cD r ?_ ?_
 ·refine A 1 ?_;refine AeH (E:=[(0,.optr 8192 0 0 0),(1,Av b)]) (O:=[(4698,dW _ 1 3 (a.of.map Mk)),(8192,dV 0 4 194 (.agg [.sl (a.g.map (eL Mk)),.sl (a.w.map Mk),.row 1 4 (a.known.map D.bool),.osl 4698 _ 0 a.of.length]))]) ((Ahg (g:=8192) (off:=3) 602 (a.of) Mk r r r hX)) λnn=>?_
  refine Ab 6 λp ac=>?_
  refine A 4 ?_;refine Qh (E:=[(4,Av p),(5,Av 0)]) (O:=[(8192,dV 0 4 194 (.agg [.sl (a.g.map (eL Mk)),.sl (a.w.map Mk),.row 1 4 (a.known.map D.bool),.row 1 3 (a.of.map Mk)]))]) ((Abk (g:=8192) (i:=0) (off:=3) (g':=4698) (l:=a.of) (en:=Mk) r r r (.inr ⟨rfl,r⟩) r r (λ_=>r) r hX)) λnn=>?_
  exact B
 ·refine Ab 15 λj ad=>?_
  refine A 7 ?_;refine lP (E:=λ(s:(List (List Int))×(List Int)×(List Bool)×(List Int)×Int×Int) (_g:Unit)=>[(0,.optr 8192 0 0 0),(1,Av b),(6,Av s.2.2.2.2.2),(33,.sl (j.map Mk)),(34,Av (j.length:Int)),(35,Av s.2.2.2.2.1)]) (O:=λs _=>[(8192,dV 0 4 194 (.agg [.sl (s.1.map (eL Mk)),.sl (s.2.1.map Mk),.row 1 4 (s.2.2.1.map D.bool),.row 1 3 (s.2.2.2.1.map Mk)]))]) (body:=λs=>Xg j h b s.1 s.2.1 s.2.2.1 s.2.2.2.1 s.2.2.2.2.1 s.2.2.2.2.2) (s:=(a.g,a.w,a.known,a.of,0,0)) () hX<|?_
  rintro⟨k,m,c,d,t,u⟩ ⟨⟩ nn
  try dsimp only
  unfold Xg;refine Ac 6 ?_ ?_
  ·refine Ab 6 λae af=>?_
   refine Ab 9 λe ag=>?_
   refine Ac 15 ?_ ?_
   ·exact B
   ·refine A 14 ?_;exact xL (s:=(e.2.2.g,e.2.2.w,e.2.2.known,e.2.2.of,i64.wrap (t+1),OD u e.1)) () hX
  ·refine Ab 12 λah ai=>?_
   refine Ab 3 λf aj=>?_
   refine Ac 15 ?_ ?_
   ·exact B
   ·refine A 3 ?_;refine AeH (E:=[(0,.optr 8192 0 0 0),(1,Av b),(11,Av f.1)]) (O:=[(4699,dW _ 1 3 (d.map Mk)),(4700,dW _ 1 4 (c.map D.bool)),(8192,dV 0 4 194 (.agg [.sl (k.map (eL Mk)),.sl (m.map Mk),.osl 4700 _ 0 c.length,.osl 4699 _ 0 d.length]))]) ((Ahg (g:=8192) (off:=3) 603 (d) Mk r r r (Ahg (g:=8192) (off:=2) 604 (c) D.bool r r r hX))) λnn=>?_
    refine A 12 ?_;refine bD λv x=>AiF (l:=d) (en:=Mk) (q:=v) (q':=f.1) r r r r r x r (λ_=>r) r r r ⟨trivial,trivial,r⟩<|?_
    refine A 1 ?_;refine bD λz aa=>AiF (l:=c) (en:=D.bool) (q:=z) (q':=true) r r r r r aa r (λ_=>r) r r r ⟨trivial,trivial,r⟩<|?_
    refine A 1 ?_;refine Qh (E:=[(11,Av f.1)]) (O:=[(8192,dV 0 4 194 (.agg [.sl (k.map (eL Mk)),.sl (m.map Mk),.row 1 4 ((c.set b.toNat true).map D.bool),.row 1 3 ((d.set b.toNat f.1).map Mk)]))]) ((Abk (g:=8192) (i:=0) (off:=2) (g':=4700) (l:=c.set b.toNat true) (en:=D.bool) r r r (.inr ⟨rfl,r⟩) r (by simp) (λ_=>r) r (Abk (g:=8192) (i:=0) (off:=3) (g':=4699) (l:=d.set b.toNat f.1) (en:=Mk) r r r (.inr ⟨rfl,r⟩) r (by simp) (λ_=>r) r hX))) λnn=>?_
    exact B
theorem Agr:NL Tryz.prog 175 (Sv (Qn 0)):=fn2 2 NG Tryz.func175 λ_ _ h=>by cases h
theorem Aak:∀ k,NL Tryz.prog 175 (Sv (Qn k))
 | 0=>Agr
 | k+1=>Ags _ (Aak k)
theorem AgX:NL Tryz.prog 175 AhV:=AvA Od.ok Aak

def AkX:Dw.Spec:=NN [] .ground Wh Wg (λa=>Xk a.1 a.2) NX noE
theorem Akn:NL Tryz.prog 223 AkX:=by
 refine fn2 2 (nK 264 Age<|nK 265 AmR<|NG) Tryz.func223<|?_;intro a;unfold Xk;exact B

def Vq (a:Ou×Oa×Int):List D:=[Qo a.1,SQ a.2.1,Av a.2.2]
def Vp (ds:List D):Ou×Oa×Int:=(Uq (ds.getD 0 .top),VC (ds.getD 1 .top),uI (ds.getD 2 .top))
instance:Od Vq Vp:=⟨λa=>by simp[Vp,Vq,uI]⟩
def Agy:Dw.Spec:=NN [] .ground Vq Vp (λa=>SW a.1 a.2.1 a.2.2) XE noE
theorem AfE:NL Tryz.prog 163 Agy:=by
 refine fn2 3 (nK 159 UC<|nK 224 XZ<|nK 223 Akn<|NG) Tryz.func163<|?_;rintro⟨a,c,k3⟩;unfold SW;refine Ab 14 λe f=>?_
 refine Ab 9 λb h=>?_
 refine A 8 ?_;refine sC (E:=λ(_s:Unit) (g:Nat×Nat)=>[(2,Av k3),(3,.optr 3 g.1 0 0),(4,.optr 4 g.2 0 0),(9,Av b.1)]) (O:=λ_ g=>[(3,dV g.1 9 144 (Qo a)),(4,dV g.2 1 45 (.agg [.sl (c.Out.map (eL Mk))]))]) (j:=λ_=>QS c k3 b a) ?_ ?_
 ·exact B
 ·rintro⟨⟩ ⟨i,k⟩ nn;dsimp only[QS];refine Ab 6 λd l=>?_
  refine A 7 ?_;refine lP (E:=λ(s:Int) (g:Nat)=>[(3,.optr 3 g 0 0),(9,Av b.1),(52,.sl (d.map Mk)),(53,Av (d.length:Int)),(54,Av s)]) (O:=λ_ g=>[(3,dV g 9 144 (Qo a))]) _ hX<|?_
  rintro m o nn;dsimp only[ZN];exact B

def AsK:Dw.Spec:=NN [] .ground SD SC (λa=>AcS a.1 a.2) Vm noE
theorem AkE:NL Tryz.prog 83 AsK:=by
 refine fn2 2 (nK 130 Zz<|nK 68 AcQ<|NG) Tryz.func83<|?_;rintro⟨a,b⟩;unfold AcS;refine A 6 ?_;refine sC (E:=λ(_s:Unit) (_g:Unit)=>[(0,Av a),(1,Av b)]) (O:=λ_ _=>[]) (j:=λ_=>Adp b a) ?_ ?_
 ·exact B
 ·rintro⟨⟩ ⟨⟩ nn;dsimp only[Adp];refine A 6 ?_;refine sC (E:=λ(s:Int) (_g:Unit)=>[(6,Av s)]) (O:=λ_ _=>[]) (j:=λs=>Aao s) ?_ ?_
  ·exact B
  ·rintro c ⟨⟩ nn;dsimp only[Aao];exact B

end
end Go.Proofs.YtcaoepecbgggcaaGreatDoor
