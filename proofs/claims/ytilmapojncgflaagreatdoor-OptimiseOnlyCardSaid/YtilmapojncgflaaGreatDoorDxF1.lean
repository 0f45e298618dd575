/-
  Programs on typed data, and the proofs that the code does what they say; written by a program (dx.py).
-/
import Derived.Test.YtilmapojncgflaaGreatDoorProg
import Derived.Test.YtilmapojncgflaaGreatDoorDd
import Derived.KernelRfl
import Derived.Test.YtilmapojncgflaaGreatDoorSh
import Derived.Test.YtilmapojncgflaaGreatDoorDxP
open BitVec renaming ofInt->aA
open List renaming replicate->aAA
open Nat renaming min->aAB
namespace Go.Proofs.YtilmapojncgflaaGreatDoor
open Go Go.Dw Go.Proofs
open Go.IntKind (i64 u64)
set_option maxRecDepth 100000
set_option maxHeartbeats 40000000
open Go.Dw renaming Rm -> bD,Qa -> cK,Ack -> cD,Aea -> xC,ZX -> xL,Adf -> cP,Aeb -> lP,Aap -> sC,rf -> r
noncomputable section
def Qp (a:Int):List D:=[Av a]
def Qo (ds:List D):Int:=uI (ds.getD 0 .top)
instance:Py Qp Qo:=⟨λa=>by simp[Qo,Qp,uI]⟩
def Po (b:Bool):D:=.bool b
def Ags:Dw.Spec:=Pe [] .ground Qp Qo (λa=>Aao a) Po noE
theorem Ald:Pb Tryz.prog 178 Ags:=by
 refine fn2 1 (PD) Tryz.func178<|?_;intro a;unfold Aao;exact B

def AeR (a:Le×Int):List D:=[Pk a.1,Av a.2]
def AeQ (ds:List D):Le×Int:=(Sz (ds.getD 0 .top),uI (ds.getD 1 .top))
instance:Py AeR AeQ:=⟨λa=>by simp[AeQ,AeR,uI]⟩
def QX (b:(List Int)):D:=.sl (b.map Mk)
def AaN:Dw.Spec:=Pe [] (.row 1 3) AeR AeQ (λa=>Zx a.1 a.2) QX noE
theorem Agb:Pb Tryz.prog 138 AaN:=by
 refine fn2 2 (Pf (l:=[(178,Ags),(179,Acj),(180,ZT)]) (by simp[Ald,Ahq,AfA])) Tryz.func138<|?_
 rintro⟨b,a⟩;unfold Zx;refine A 6 ?_;refine sC (E:=λ(_s:Unit) (g:Nat)=>[(1,Av a),(2,.optr 2 g 0 0)]) (O:=λ_ g=>[(2,dV g 3 36 (Pk b))]) (j:=λ_=>AcJ b a) ?_ ?_
 ·refine A 5 ?_;refine PI r ?_ ?_
  ·exact B
  ·refine A 8 ?_;refine cD r ?_ ?_
   ·exact B
   ·refine A 1 ?_;exact xC (s:=()) _ ((hX))
 ·rintro⟨⟩ d nn
  try dsimp only
  unfold AcJ;refine A 10 ?_;refine bD λc e=>?_
  refine A 6 ?_;refine sC (E:=λ(s:(List Int)) (g:Nat×Nat)=>[(5,.osl 5 g.1 0 s.length),(6,.optr 6 g.2 0 0)]) (O:=λs g=>[(5,dW g.1 1 3 (s.map Mk)),(6,dV g.2 5 63 (Pl c))]) (j:=λs=>Zy c s) ?_ ?_
  ·refine A 4 ?_;refine bD λf h=>?_
   refine A 4 ?_;refine cD r ?_ ?_
   ·refine A 8 ?_;exact xC (s:=([]:List Int)++([i64.wrap (a+1)]:List Int)) (_,_) ((hX))
   ·refine A 1 ?_;exact xC (s:=([]:List Int)) (_,_) ((hX))
  ·rintro i ⟨k,m⟩ nn
   try dsimp only
   unfold Zy;exact B

def Wd (a:Le):List D:=[Pk a]
def Wc (ds:List D):Le:=Sz (ds.getD 0 .top)
instance:Py Wd Wc:=⟨λa=>by simp[Wc,Wd]⟩
def Ajb (b:(List (List Int))):D:=.sl (b.map (eL Mk))
def Ajc:Dw.Spec:=Pe [] .val Wd Wc (λa=>AaM a) Ajb noE
theorem AmP:Pb Tryz.prog 99 Ajc:=by
 refine fn2 1 (Pf (l:=[(138,AaN)]) (by simp[Agb])) Tryz.func99<|?_
 intro a;unfold AaM;refine A 11 ?_;refine cK λhq=>AaR (α:=Int) r r r hq r<|?_
 refine A 2 ?_;refine Qn (E:=[(1,.optr 1 _ 0 0),(3,.osl 4099 _ 0 ((aAA (a.Code.length:Int).toNat ([]:(List Int))).length))]) (O:=[(1,dV _ 3 36 (Pk a)),(4099,dW _ 1 41 ((aAA (a.Code.length:Int).toNat ([]:(List Int))).map (eR 1 3 Mk)))]) ((Aft (g:=3) (g2:=4099) r r r (AiA (l:=aAA (a.Code.length:Int).toNat ([]:(List Int))) (s':=1) (ty':=3) Mk (by decide) (λ_ h=>List.eq_of_mem_replicate h)) (hX))) λnn=>?_
 refine A 10 ?_;refine lP (E:=λ(s:(List (List Int))×Int) (g:Nat×Nat)=>[(1,.optr 1 g.1 0 0),(3,.osl 4099 g.2 0 s.1.length),(13,Av (a.Code.length:Int)),(14,Av s.2)]) (O:=λs g=>[(1,dV g.1 3 36 (Pk a)),(4099,dW g.2 1 41 (s.1.map (eR 1 3 Mk)))]) (body:=λs=>AdG a s.1 s.2) (s:=(aAA (a.Code.length:Int).toNat ([]:(List Int)),0)) (_,_) ((hX))<|?_
 rintro⟨c,b⟩ ⟨j,k⟩ nn
 try dsimp only
 unfold AdG;refine A 6 ?_;refine cD r ?_ ?_
 ·refine A 14 ?_;refine bD λd m=>?_
  refine A 6 ?_;refine lP (E:=λ(s:(List (List Int))×Int) (g:Nat×Nat×Nat)=>[(1,.optr 1 g.1 0 0),(3,.osl 4099 g.2.2 0 s.1.length),(4,Av b),(13,Av (a.Code.length:Int)),(14,Av b),(19,.osl 19 g.2.1 0 d.length),(20,Av (d.length:Int)),(21,Av s.2)]) (O:=λs g=>[(1,dV g.1 3 36 (Pk a)),(19,dW g.2.1 1 3 (d.map Mk)),(4099,dW g.2.2 1 41 (s.1.map (eR 1 3 Mk)))]) (body:=λs=>Aae d b s.1 s.2) (s:=(c,0)) (_,_,_) ((hX))<|?_
  rintro⟨f,o⟩ ⟨p,t,u⟩ nn
  try dsimp only
  unfold Aae;refine A 6 ?_;refine cD r ?_ ?_
  ·refine A 7 ?_;refine bD λv w=>?_
   refine A 10 ?_;refine bD λe i=>AnG (q:=e) Mk r r r i<|?_
   refine A 2 ?_;refine cK λhq=>AnF (e) (([b]:List Int)) Mk r r r r r r r (by simp) (Tb _ _ r) r r (by simp) (Rj _ _ r) (λ_=>r) r hq (λ_=>r)<|cK λhq=>Yv (by simp) r r r r (by simpa using hq)<|Aek (l:=f) (q:=e) (q':=e++([b]:List Int)) Mk rfl rfl rfl rfl (.inr ⟨_,_,_,rfl⟩) i rfl rfl ⟨⟨rfl,rfl,by simp,ZJ λ_=>rfl⟩,trivial,rfl⟩ (congrArg (λz=>[D.row _ _ z]) (Rj _ _ rfl)) rfl<|?_
   exact B
  ·refine A 10 ?_;exact xL (s:=(f,i64.wrap (b+1))) (_,_) ((hX))
 ·refine A 4 ?_;refine Qn (E:=[(3,.osl 4099 _ 0 c.length)]) (O:=[(4099,dW _ 1 41 (c.map (eL Mk)))]) ((Acd (g:=4099) r (AiB (l:=c) Mk (λ_=>r)) (hX))) λnn=>?_
  exact B

def TT (a:Lo):List D:=[Pl a]
def TS (ds:List D):Lo:=Yo (ds.getD 0 .top)
instance:Py TT TS:=⟨λa=>by simp[TS,TT]⟩
def AfY (b:Int×Bool):D:=.tup [Av b.1,.bool b.2]
def SC:Dw.Spec:=Pe [] .ground TT TS (λa=>RA a) AfY noE
theorem Tf:Pb Tryz.prog 143 SC:=by
 refine fn2 1 (PD) Tryz.func143<|?_;intro a;unfold RA;exact B

def Vs:Dw.Spec:=Pe [] .ground Qp Qo (λa=>Rh a) Po noE
theorem XO:Pb Tryz.prog 193 Vs:=by
 refine fn2 1 (PD) Tryz.func193<|?_;intro a;unfold Rh;exact B

def WB (a:OW×Int×Bool):List D:=[Ps a.1,Av a.2.1,.bool a.2.2]
def WA (ds:List D):OW×Int×Bool:=(Rx (ds.getD 0 .top),uI (ds.getD 1 .top),uBo (ds.getD 2 .top))
instance:Py WB WA:=⟨λa=>by simp[WA,WB,uI,uBo]⟩
def Aim (_b:OW):D:=.tup []
def Ail (b:OW):List D:=[Ps b]
def XN:Dw.Spec:=Pe [(0,(8,201))] .val WB WA (λa=>TL a.1 a.2.1 a.2.2) Aim Ail
theorem AbS:Pb Tryz.prog 203 XN:=by
 refine fn2 3 (Pf (l:=[(193,Vs)]) (by simp[XO])) Tryz.func203<|?_
 rintro⟨b,a,m⟩;unfold TL;refine A 13 ?_;refine bD λo p=>?_
 refine A 5 ?_;refine cD r ?_ ?_
 ·exact B
 ·refine A 6 ?_;refine cD r ?_ ?_
  ·refine A 5 ?_;refine cK λhq=>Ul r r r hq<|bD λc e=>Ws (q:=c) (l:=b.toList) (en:=AaB) (j:=(i64.wrap (a.tdiv 64)).toNat) (by simp) r r r e r (λ_=>r)<|?_
   refine A 3 ?_;refine cK λhq=>Ul r r r hq<|bD λf g=>AgP (q:=f) (q':=u64.wrap ((aA u64.bits c ||| aA u64.bits (u64.wrap (1*2 ^ (aAB ((u64.wrap (a)).tmod 64).toNat u64.bits)))).toNat)) (l:=b.toList) (en:=AaB) (j:=(i64.wrap (a.tdiv 64)).toNat) (z':=Ps (b.set ((i64.wrap (a.tdiv 64)).toNat) (u64.wrap ((aA u64.bits c ||| aA u64.bits (u64.wrap (1*2 ^ (aAB ((u64.wrap (a)).tmod 64).toNat u64.bits)))).toNat)))) (by simp) r r r r r g r r (congrArg (λl=>D.agg (l.map AaB)) (RW b ((i64.wrap (a.tdiv 64)).toNat) (u64.wrap ((aA u64.bits c ||| aA u64.bits (u64.wrap (1*2 ^ (aAB ((u64.wrap (a)).tmod 64).toNat u64.bits)))).toNat))).symm) r r<|?_
   exact B
  ·refine A 5 ?_;refine cK λhq=>Ul r r r hq<|bD λd h=>Ws (q:=d) (l:=b.toList) (en:=AaB) (j:=(i64.wrap (a.tdiv 64)).toNat) (by simp) r r r h r (λ_=>r)<|?_
   refine A 3 ?_;refine cK λhq=>Ul r r r hq<|bD λi k=>AgP (q:=i) (q':=u64.wrap ((aA u64.bits d &&& ~~~ aA u64.bits (u64.wrap (1*2 ^ (aAB ((u64.wrap (a)).tmod 64).toNat u64.bits)))).toNat)) (l:=b.toList) (en:=AaB) (j:=(i64.wrap (a.tdiv 64)).toNat) (z':=Ps (b.set ((i64.wrap (a.tdiv 64)).toNat) (u64.wrap ((aA u64.bits d &&& ~~~ aA u64.bits (u64.wrap (1*2 ^ (aAB ((u64.wrap (a)).tmod 64).toNat u64.bits)))).toNat)))) (by simp) r r r r r k r r (congrArg (λl=>D.agg (l.map AaB)) (RW b ((i64.wrap (a.tdiv 64)).toNat) (u64.wrap ((aA u64.bits d &&& ~~~ aA u64.bits (u64.wrap (1*2 ^ (aAB ((u64.wrap (a)).tmod 64).toNat u64.bits)))).toNat))).symm) r r<|?_
   exact B

def Td (a:(List Int)):List D:=[.sl (a.map Mk)]
def Tc (ds:List D):(List Int):=(uL uI) (ds.getD 0 .top)
instance:Py Td Tc:=⟨λa=>by simp[Tc,Td,Qf (u:=uI) (en:=Mk) (λ_=>rfl)]⟩
def Amg (b:OW):D:=Ps b
def Ud:Dw.Spec:=Pe [] (.ptr 8 201) Td Tc (λa=>RU a) Amg noE
theorem Vc:Pb Tryz.prog 181 Ud:=by
 refine fn2 1 (Pf (l:=[(203,XN)]) (by simp[AbS])) Tryz.func181<|?_
 intro a;unfold RU;refine A 21 ?_;refine lP (E:=λ(s:OW×Int) (g:Nat)=>[(3,.optr 7 g 0 0),(8,.sl (a.map Mk)),(9,Av (a.length:Int)),(10,Av s.2)]) (O:=λs g=>[(7,dV g 8 201 (Ps s.1))]) (body:=λs=>Abs a s.1 s.2) (s:=((OW.mk 0 0 0 0 0 0 0 0),0)) _ ((hX))<|?_
 rintro⟨d,b⟩ e nn
 try dsimp only
 unfold Abs;refine A 6 ?_;refine cD r ?_ ?_
 ·refine A 6 ?_;refine bD λf h=>?_
  refine A 8 ?_;refine bD λc i=>?_
  refine A 8 ?_;exact xL (s:=(c,i64.wrap (b+1))) _ ((hX))
 ·exact B

def VF (a:OW):List D:=[Ps a]
def VE (ds:List D):OW:=Rx (ds.getD 0 .top)
instance:Py VF VE:=⟨λa=>by simp[VE,VF]⟩
def Ahx (b:(List Int)×OW):D:=.sl (b.1.map Mk)
def Ahw (b:(List Int)×OW):List D:=[Ps b.2]
def SD:Dw.Spec:=Pe [(0,(8,201))] (.row 1 3) VF VE (λa=>RH a) Ahx Ahw
theorem TD:Pb Tryz.prog 184 SD:=by
 refine fn2 1 (Pf (l:=[(204,ApJ)]) (by simp[Avb])) Tryz.func184<|?_
 intro b;unfold RH;refine A 18 ?_;refine lP (E:=λ(s:(List Int)×Int) (g:Nat)=>[(3,.osl 3 g 0 s.1.length),(6,.optr 8192 0 0 0),(7,Av s.2)]) (O:=λs g=>[(3,dW g 1 3 (s.1.map Mk)),(8192,dV 0 8 201 (Ps b))]) (body:=λs=>Wy b s.1 s.2) (s:=(([]:List Int),0)) _ ((hX))<|?_
 rintro⟨f,a⟩ k nn
 try dsimp only
 unfold Wy;refine A 6 ?_;refine cD r ?_ ?_
 ·refine A 8 ?_;refine cK λhq=>Ul r r r hq<|bD λc h=>Ws (q:=c) (l:=b.toList) (en:=AaB) (j:=a.toNat) (by simp) r r r h r (λ_=>r)<|?_
  refine A 5 ?_;refine lP (E:=λ(s:(List Int)×Int) (g:Nat)=>[(3,.osl 3 g 0 s.1.length),(4,Av a),(5,AjG s.2),(6,.optr 8192 0 0 0),(7,Av a)]) (O:=λs g=>[(3,dW g 1 3 (s.1.map Mk)),(8192,dV 0 8 201 (Ps b))]) (body:=λs=>Wz a s.1 s.2) (s:=(f,c)) _ ((hX))<|?_
  rintro⟨d,e⟩ m nn
  try dsimp only
  unfold Wz;refine A 7 ?_;refine cD r ?_ ?_
  ·refine A 9 ?_;refine bD λi o=>?_
   refine A 15 ?_;exact xL (s:=(d++([i64.wrap ((i64.wrap (64*a))+i)]:List Int),u64.wrap ((aA u64.bits e &&& aA u64.bits (u64.wrap (e-1))).toNat))) _ ((hX))
  ·refine A 10 ?_;exact xL (s:=(d,i64.wrap (a+1))) _ ((hX))
 ·exact B

def RF (a:(List Int)×Int):List D:=[.sl (a.1.map Mk),Av a.2]
def RE (ds:List D):(List Int)×Int:=((uL uI) (ds.getD 0 .top),uI (ds.getD 1 .top))
instance:Py RF RE:=⟨λa=>by simp[RE,RF,uI,Qf (u:=uI) (en:=Mk) (λ_=>rfl)]⟩
def Agw:Dw.Spec:=Pe [] .val RF RE (λa=>VP a.1 a.2) QX noE
theorem Alv:Pb Tryz.prog 185 Agw:=by
 refine fn2 2 (Pf (l:=[(181,Ud),(203,XN),(184,SD)]) (by simp[Vc,AbS,TD])) Tryz.func185<|?_
 intro a;unfold VP;exact B

def AeL:Dw.Spec:=Pe [] (.row 1 3) TT TS (λa=>WH a) QX noE
theorem AhE:Pb Tryz.prog 152 AeL:=by
 refine fn2 1 (PD) Tryz.func152<|?_;intro a;unfold WH;exact B

def AgR:Dw.Spec:=Pe [] (.row 1 3) Td Tc (λa=>Zh a) QX noE
theorem Ajy:Pb Tryz.prog 153 AgR:=by
 refine fn2 1 (Pf (l:=[(181,Ud),(184,SD)]) (by simp[Vc,TD])) Tryz.func153<|?_
 intro a;unfold Zh;exact B

def VW (a:Int×Int):List D:=[AjG a.1,AjG a.2]
def VV (ds:List D):Int×Int:=(uI (ds.getD 0 .top),uI (ds.getD 1 .top))
instance:Py VW VV:=⟨λa=>by simp[VV,VW,uI]⟩
def AfM (b:Int):D:=AjG b
def AfN:Dw.Spec:=Pe [] .ground VW VV (λa=>Xg a.1 a.2) AfM noE
theorem AkG:Pb Tryz.prog 183 AfN:=by
 refine fn2 2 (PD) Tryz.func183<|?_;intro a;unfold Xg;exact B

def SQ (a:OW×OW):List D:=[Ps a.1,Ps a.2,.clo 183 []]
def SP (ds:List D):OW×OW:=(Rx (ds.getD 0 .top),Rx (ds.getD 1 .top))
instance:Py SQ SP:=⟨λa=>by simp[SP,SQ]⟩
def WN (b:OW×OW×OW):D:=Ps b.1
def Adi (b:OW×OW×OW):List D:=[Ps b.2.1,Ps b.2.2]
def Tm:Dw.Spec:=Pe [(0,(8,201)),(1,(8,201))] (.ptr 8 201) SQ SP (λa=>Sj a.1 a.2) WN Adi
theorem Acr:Pb Tryz.prog 182 Tm:=by
 refine fn2 3 (Pf (l:=[(183,AfN)]) (by simp[AkG])) Tryz.func182<|?_
 rintro⟨d,e⟩;unfold Sj;refine A 19 ?_;refine lP (E:=λ(s:OW×Int) (g:Nat)=>[(0,.optr 8192 0 0 0),(1,.optr 8193 1 0 0),(2,.clo 183 []),(7,.optr 10 g 0 0),(11,Av s.2)]) (O:=λs g=>[(10,dV g 8 201 (Ps s.1)),(8192,dV 0 8 201 (Ps d)),(8193,dV 1 8 201 (Ps e))]) (body:=λs=>QP d e s.1 s.2) (s:=((OW.mk 0 0 0 0 0 0 0 0),0)) _ ((hX))<|?_
 rintro⟨b,a⟩ p nn
 try dsimp only
 unfold QP;refine A 6 ?_;refine cD r ?_ ?_
 ·refine A 17 ?_;refine cK λhq=>Ul r r r hq<|bD λf h=>Ws (q:=f) (l:=d.toList) (en:=AaB) (j:=a.toNat) (by simp) r r r h r (λ_=>r)<|?_
  refine A 3 ?_;refine cK λhq=>Ul r r r hq<|bD λi k=>Ws (q:=i) (l:=e.toList) (en:=AaB) (j:=a.toNat) (by simp) r r r k r (λ_=>r)<|bD λc t=>?_
  refine A 2 ?_;refine cK λhq=>Ul r r r hq<|bD λm o=>AmJ (q:=m) (q':=c) (l:=b.toList) (en:=AaB) (j:=a.toNat) (z':=Ps (b.set a.toNat c)) (by simp) r r r r r o r r (congrArg (λl=>D.agg (l.map AaB)) (RW b a.toNat c).symm)<|?_
  refine A 7 ?_;exact xL (s:=((b.set a.toNat c),i64.wrap (a+1))) _ ((hX))
 ·exact B

def Vb (a:(List Int)×(List Int)):List D:=[.sl (a.1.map Mk),.sl (a.2.map Mk)]
def Va (ds:List D):(List Int)×(List Int):=((uL uI) (ds.getD 0 .top),(uL uI) (ds.getD 1 .top))
instance:Py Vb Va:=⟨λa=>by simp[Va,Vb,Qf (u:=uI) (en:=Mk) (λ_=>rfl)]⟩
def Xh:Dw.Spec:=Pe [] .val Vb Va (λa=>SV a.1 a.2) QX noE
theorem Aco:Pb Tryz.prog 139 Xh:=by
 refine fn2 2 (Pf (l:=[(181,Ud),(753846,Tm),(184,SD)]) (by simp[Vc,Acr,TD])) Tryz.func139<|?_
 rintro⟨d,e⟩;unfold SV;refine A 8 ?_;refine bD λa f=>?_
 refine A 2 ?_;refine bD λb g=>?_
 refine A 1 ?_;refine bD λh c=>cP (a,b) rfl rfl (show _=some Tm from by kernel_rfl) Py.ok rfl rfl (by simp) r c<|?_
 exact B

def AaV (a:Lo×(List Int)):List D:=[Pl a.1,.sl (a.2.map Mk)]
def AaU (ds:List D):Lo×(List Int):=(Yo (ds.getD 0 .top),(uL uI) (ds.getD 1 .top))
instance:Py AaV AaU:=⟨λa=>by simp[AaU,AaV,Qf (u:=uI) (en:=Mk) (λ_=>rfl)]⟩
def Aef:Dw.Spec:=Pe [] .val AaV AaU (λa=>Aca a.1 a.2) QX noE
theorem AjP:Pb Tryz.prog 140 Aef:=by
 refine fn2 2 (Pf (l:=[(143,SC),(185,Agw),(152,AeL),(153,AgR),(139,Xh)]) (by simp[Tf,Alv,AhE,Ajy,Aco])) Tryz.func140<|?_
 intro a;unfold Aca;exact B

def AaQ:Dw.Spec:=Pe [] .ground Vb Va (λa=>SY a.1 a.2) Po noE
theorem Agu:Pb Tryz.prog 103 AaQ:=by
 refine fn2 2 (PD) Tryz.func103<|?_;rintro⟨a,b⟩;unfold SY;refine A 15 ?_;refine cD r ?_ ?_
 ·exact B
 ·refine A 11 ?_;refine lP (E:=λ(s:Int) (_g:Unit)=>[(0,.sl (a.map Mk)),(1,.sl (b.map Mk)),(12,Av (a.length:Int)),(13,Av s)]) (O:=λ_ _=>[]) (body:=λs=>Tq a b s) (s:=0) () ((hX))<|?_
  rintro c ⟨⟩ nn
  try dsimp only
  unfold Tq;refine A 6 ?_;refine cD r ?_ ?_
  ·refine A 14 ?_;refine bD λd e=>?_
   refine A 4 ?_;refine bD λf g=>?_
   refine A 5 ?_;refine cD r ?_ ?_
   ·exact B
   ·refine A 7 ?_;exact xL (s:=i64.wrap (c+1)) () ((hX))
  ·exact B

def Aod:PZ:=(Tryz.f100.body.bind (PS Tryz.prog Tryz.f100.ntmps)).getD .skip
theorem AtX:(Tryz.f100.body.bind (PS Tryz.prog Tryz.f100.ntmps))=some Aod:=by kernel_rfl
theorem AtY:Tryz.f100.results.toList.mapM (Tw Tryz.prog)=some []:=by kernel_rfl

def AqS:PZ:=(Tryz.f101.body.bind (PS Tryz.prog Tryz.f101.ntmps)).getD .skip
theorem AtZ:(Tryz.f101.body.bind (PS Tryz.prog Tryz.f101.ntmps))=some AqS:=by kernel_rfl
theorem Aua:Tryz.f101.results.toList.mapM (Tw Tryz.prog)=some [(.t 2)]:=by kernel_rfl

def AqT:PZ:=(Tryz.f102.body.bind (PS Tryz.prog Tryz.f102.ntmps)).getD .skip
theorem Aub:(Tryz.f102.body.bind (PS Tryz.prog Tryz.f102.ntmps))=some AqT:=by kernel_rfl
theorem Auc:Tryz.f102.results.toList.mapM (Tw Tryz.prog)=some [(.t 6)]:=by kernel_rfl

end
end Go.Proofs.YtilmapojncgflaaGreatDoor
