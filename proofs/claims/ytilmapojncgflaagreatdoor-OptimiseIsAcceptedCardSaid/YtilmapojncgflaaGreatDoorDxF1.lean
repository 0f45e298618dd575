/-
  Programs on typed data, and the proofs that the code does what they say; written by a program (dx.py).
-/
import Derived.Test.YtilmapojncgflaaGreatDoorProg
import Derived.Test.YtilmapojncgflaaGreatDoorDd
import Derived.KernelRfl
import Derived.Test.YtilmapojncgflaaGreatDoorSh
import Derived.Test.YtilmapojncgflaaGreatDoorDxP
open BitVec renaming ofInt->aA
open List renaming replicate->aAA
open Nat renaming min->aAB
namespace Go.Proofs.YtilmapojncgflaaGreatDoor
open Go Go.Dw Go.Proofs
open Go.IntKind (i64 u64)
set_option maxRecDepth 100000
set_option maxHeartbeats 40000000
open Go.Dw renaming Rl -> bD,Qf -> cK,AbB -> cD,AdW -> xC,Zg -> xL,AeT -> cP,AdX -> lP,Zh -> sC,rf -> r
noncomputable section
def PU (a:Int):List D:=[Av a]
def PT (ds:List D):Int:=uI (ds.getD 0 .top)
instance:PA PU PT:=⟨λa=>by simp[PT,PU,uI]⟩
def Pm (b:Bool):D:=.bool b
def Aiz:Dw.Spec:=Pd [] .ground PU PT (λa=>AbA a) Pm noE
theorem AnA:Pa Tryz.prog 178 Aiz:=by
 refine fn2 1 (Py) Tryz.func178<|?_;intro a;unfold AbA;exact B

def AcG (a:Le×Int):List D:=[Pl a.1,Av a.2]
def AcF (ds:List D):Le×Int:=(Sz (ds.getD 0 .top),uI (ds.getD 1 .top))
instance:PA AcG AcF:=⟨λa=>by simp[AcF,AcG,uI]⟩
def PL (b:(List Int)):D:=.sl (b.map Lo)
def Acl:Dw.Spec:=Pd [] (.row 1 3) AcG AcF (λa=>AaB a.1 a.2) PL noE
theorem Aie:Pa Tryz.prog 138 Acl:=by
 refine fn2 2 (Pe (l:=[(178,Aiz),(179,AdV),(180,AaZ)]) (by simp[AnA,Ajx,AhB])) Tryz.func138<|?_
 rintro⟨b,a⟩;unfold AaB;refine A 6 ?_;refine sC (E:=λ(_s:Unit) (g:Nat)=>[(1,Av a),(2,.optr 2 g 0 0)]) (O:=λ_ g=>[(2,dV g 3 36 (Pl b))]) (j:=λ_=>Aev b a) ?_ ?_
 ·refine A 5 ?_;refine Px r ?_ ?_
  ·exact B
  ·refine A 8 ?_;refine cD r ?_ ?_
   ·exact B
   ·refine A 1 ?_;exact xC (s:=()) _ ((hX))
 ·rintro⟨⟩ d nn
  try dsimp only
  unfold Aev;refine A 10 ?_;refine bD λc e=>?_
  refine A 6 ?_;refine sC (E:=λ(s:(List Int)) (g:Nat×Nat)=>[(5,.osl 5 g.1 0 s.length),(6,.optr 6 g.2 0 0)]) (O:=λs g=>[(5,dW g.1 1 3 (s.map Lo)),(6,dV g.2 5 63 (Pp c))]) (j:=λs=>AaC c s) ?_ ?_
  ·refine A 4 ?_;refine bD λf h=>?_
   refine A 4 ?_;refine cD r ?_ ?_
   ·refine A 8 ?_;exact xC (s:=([]:List Int)++([i64.wrap (a+1)]:List Int)) (_,_) ((hX))
   ·refine A 1 ?_;exact xC (s:=([]:List Int)) (_,_) ((hX))
  ·rintro i ⟨k,m⟩ nn
   try dsimp only
   unfold AaC;exact B

def WY (a:Le):List D:=[Pl a]
def WX (ds:List D):Le:=Sz (ds.getD 0 .top)
instance:PA WY WX:=⟨λa=>by simp[WX,WY]⟩
def Alf (b:(List (List Int))):D:=.sl (b.map (eL Lo))
def Alg:Dw.Spec:=Pd [] .val WY WX (λa=>Ack a) Alf noE
theorem Apj:Pa Tryz.prog 99 Alg:=by
 refine fn2 1 (Pe (l:=[(138,Acl)]) (by simp[Aie])) Tryz.func99<|?_
 intro a;unfold Ack;refine A 11 ?_;refine cK λhq=>Acv (α:=Int) r r r hq r<|?_
 refine A 2 ?_;refine Qx (E:=[(1,.optr 1 _ 0 0),(3,.osl 4099 _ 0 ((aAA (a.Code.length:Int).toNat ([]:(List Int))).length))]) (O:=[(1,dV _ 3 36 (Pl a)),(4099,dW _ 1 41 ((aAA (a.Code.length:Int).toNat ([]:(List Int))).map (eR 1 3 Lo)))]) ((Ahw (g:=3) (g2:=4099) r r r (AkH (l:=aAA (a.Code.length:Int).toNat ([]:(List Int))) (s':=1) (ty':=3) Lo (by decide) (λ_ h=>List.eq_of_mem_replicate h)) (hX))) λnn=>?_
 refine A 10 ?_;refine lP (E:=λ(s:(List (List Int))×Int) (g:Nat×Nat)=>[(1,.optr 1 g.1 0 0),(3,.osl 4099 g.2 0 s.1.length),(13,Av (a.Code.length:Int)),(14,Av s.2)]) (O:=λs g=>[(1,dV g.1 3 36 (Pl a)),(4099,dW g.2 1 41 (s.1.map (eR 1 3 Lo)))]) (body:=λs=>Afx a s.1 s.2) (s:=(aAA (a.Code.length:Int).toNat ([]:(List Int)),0)) (_,_) ((hX))<|?_
 rintro⟨c,b⟩ ⟨j,k⟩ nn
 try dsimp only
 unfold Afx;refine A 6 ?_;refine cD r ?_ ?_
 ·refine A 14 ?_;refine bD λd m=>?_
  refine A 6 ?_;refine lP (E:=λ(s:(List (List Int))×Int) (g:Nat×Nat×Nat)=>[(1,.optr 1 g.1 0 0),(3,.osl 4099 g.2.2 0 s.1.length),(4,Av b),(13,Av (a.Code.length:Int)),(14,Av b),(19,.osl 19 g.2.1 0 d.length),(20,Av (d.length:Int)),(21,Av s.2)]) (O:=λs g=>[(1,dV g.1 3 36 (Pl a)),(19,dW g.2.1 1 3 (d.map Lo)),(4099,dW g.2.2 1 41 (s.1.map (eR 1 3 Lo)))]) (body:=λs=>Abj d b s.1 s.2) (s:=(c,0)) (_,_,_) ((hX))<|?_
  rintro⟨f,o⟩ ⟨p,t,u⟩ nn
  try dsimp only
  unfold Abj;refine A 6 ?_;refine cD r ?_ ?_
  ·refine A 7 ?_;refine bD λv w=>?_
   refine A 10 ?_;refine bD λe i=>Aqe (q:=e) Lo r r r i<|?_
   refine A 2 ?_;refine cK λhq=>Aqd (e) (([b]:List Int)) Lo r r r r r r r (by simp) (TI _ _ r) r r (by simp) (Rt _ _ r) (λ_=>r) r hq (λ_=>r)<|cK λhq=>Zx (by simp) r r r r (by simpa using hq)<|Agl (l:=f) (q:=e) (q':=e++([b]:List Int)) Lo rfl rfl rfl rfl (.inr ⟨_,_,_,rfl⟩) i rfl rfl ⟨⟨rfl,rfl,by simp,AaO λ_=>rfl⟩,trivial,rfl⟩ (congrArg (λz=>[D.row _ _ z]) (Rt _ _ rfl)) rfl<|?_
   exact B
  ·refine A 10 ?_;exact xL (s:=(f,i64.wrap (b+1))) (_,_) ((hX))
 ·refine A 4 ?_;refine Qx (E:=[(3,.osl 4099 _ 0 c.length)]) (O:=[(4099,dW _ 1 41 (c.map (eL Lo)))]) ((AdP (g:=4099) r (AkI (l:=c) Lo (λ_=>r)) (hX))) λnn=>?_
  exact B

def RC (a:OT):List D:=[Pp a]
def RB (ds:List D):OT:=AeU (ds.getD 0 .top)
instance:PA RC RB:=⟨λa=>by simp[RB,RC]⟩
def VH (b:Int×Bool):D:=.tup [Av b.1,.bool b.2]
def Te:Dw.Spec:=Pd [] .ground RC RB (λa=>RM a) VH noE
theorem TK:Pa Tryz.prog 143 Te:=by
 refine fn2 1 (Py) Tryz.func143<|?_;intro a;unfold RM;exact B

def VV:Dw.Spec:=Pd [] .ground PU PT (λa=>Rr a) Pm noE
theorem YQ:Pa Tryz.prog 193 VV:=by
 refine fn2 1 (Py) Tryz.func193<|?_;intro a;unfold Rr;exact B

def Xy (a:OW×Int×Bool):List D:=[Pu a.1,Av a.2.1,.bool a.2.2]
def Xx (ds:List D):OW×Int×Bool:=(RI (ds.getD 0 .top),uI (ds.getD 1 .top),uBo (ds.getD 2 .top))
instance:PA Xy Xx:=⟨λa=>by simp[Xx,Xy,uI,uBo]⟩
def Aku (_b:OW):D:=.tup []
def Akt (b:OW):List D:=[Pu b]
def YP:Dw.Spec:=Pd [(0,(8,201))] .val Xy Xx (λa=>UC a.1 a.2.1 a.2.2) Aku Akt
theorem AdE:Pa Tryz.prog 203 YP:=by
 refine fn2 3 (Pe (l:=[(193,VV)]) (by simp[YQ])) Tryz.func203<|?_
 rintro⟨b,a,m⟩;unfold UC;refine A 13 ?_;refine bD λo p=>?_
 refine A 5 ?_;refine cD r ?_ ?_
 ·exact B
 ·refine A 6 ?_;refine cD r ?_ ?_
  ·refine A 5 ?_;refine cK λhq=>UY r r r hq<|bD λc e=>Xr (q:=c) (l:=b.toList) (en:=AbP) (j:=(i64.wrap (a.tdiv 64)).toNat) (by simp) r r r e r (λ_=>r)<|?_
   refine A 3 ?_;refine cK λhq=>UY r r r hq<|bD λf g=>Aja (q:=f) (q':=u64.wrap ((aA u64.bits c ||| aA u64.bits (u64.wrap (1*2 ^ (aAB ((u64.wrap (a)).tmod 64).toNat u64.bits)))).toNat)) (l:=b.toList) (en:=AbP) (j:=(i64.wrap (a.tdiv 64)).toNat) (z':=Pu (b.set ((i64.wrap (a.tdiv 64)).toNat) (u64.wrap ((aA u64.bits c ||| aA u64.bits (u64.wrap (1*2 ^ (aAB ((u64.wrap (a)).tmod 64).toNat u64.bits)))).toNat)))) (by simp) r r r r r g r r (congrArg (λl=>D.agg (l.map AbP)) (So b ((i64.wrap (a.tdiv 64)).toNat) (u64.wrap ((aA u64.bits c ||| aA u64.bits (u64.wrap (1*2 ^ (aAB ((u64.wrap (a)).tmod 64).toNat u64.bits)))).toNat))).symm) r r<|?_
   exact B
  ·refine A 5 ?_;refine cK λhq=>UY r r r hq<|bD λd h=>Xr (q:=d) (l:=b.toList) (en:=AbP) (j:=(i64.wrap (a.tdiv 64)).toNat) (by simp) r r r h r (λ_=>r)<|?_
   refine A 3 ?_;refine cK λhq=>UY r r r hq<|bD λi k=>Aja (q:=i) (q':=u64.wrap ((aA u64.bits d &&& ~~~ aA u64.bits (u64.wrap (1*2 ^ (aAB ((u64.wrap (a)).tmod 64).toNat u64.bits)))).toNat)) (l:=b.toList) (en:=AbP) (j:=(i64.wrap (a.tdiv 64)).toNat) (z':=Pu (b.set ((i64.wrap (a.tdiv 64)).toNat) (u64.wrap ((aA u64.bits d &&& ~~~ aA u64.bits (u64.wrap (1*2 ^ (aAB ((u64.wrap (a)).tmod 64).toNat u64.bits)))).toNat)))) (by simp) r r r r r k r r (congrArg (λl=>D.agg (l.map AbP)) (So b ((i64.wrap (a.tdiv 64)).toNat) (u64.wrap ((aA u64.bits d &&& ~~~ aA u64.bits (u64.wrap (1*2 ^ (aAB ((u64.wrap (a)).tmod 64).toNat u64.bits)))).toNat))).symm) r r<|?_
   exact B

def SD (a:(List Int)):List D:=[.sl (a.map Lo)]
def SC (ds:List D):(List Int):=(uL uI) (ds.getD 0 .top)
instance:PA SD SC:=⟨λa=>by simp[SC,SD,Qh (u:=uI) (en:=Lo) (λ_=>rfl)]⟩
def Aov (b:OW):D:=Pu b
def UQ:Dw.Spec:=Pd [] (.ptr 8 201) SD SC (λa=>Sk a) Aov noE
theorem VE:Pa Tryz.prog 181 UQ:=by
 refine fn2 1 (Pe (l:=[(203,YP)]) (by simp[AdE])) Tryz.func181<|?_
 intro a;unfold Sk;refine A 21 ?_;refine lP (E:=λ(s:OW×Int) (g:Nat)=>[(3,.optr 7 g 0 0),(8,.sl (a.map Lo)),(9,Av (a.length:Int)),(10,Av s.2)]) (O:=λs g=>[(7,dV g 8 201 (Pu s.1))]) (body:=λs=>Ada a s.1 s.2) (s:=((OW.mk 0 0 0 0 0 0 0 0),0)) _ ((hX))<|?_
 rintro⟨d,b⟩ e nn
 try dsimp only
 unfold Ada;refine A 6 ?_;refine cD r ?_ ?_
 ·refine A 6 ?_;refine bD λf h=>?_
  refine A 8 ?_;refine bD λc i=>?_
  refine A 8 ?_;exact xL (s:=(c,i64.wrap (b+1))) _ ((hX))
 ·exact B

def Wi (a:OW):List D:=[Pu a]
def Wh (ds:List D):OW:=RI (ds.getD 0 .top)
instance:PA Wi Wh:=⟨λa=>by simp[Wh,Wi]⟩
def AjD (b:(List Int)×OW):D:=.sl (b.1.map Lo)
def AjC (b:(List Int)×OW):List D:=[Pu b.2]
def Th:Dw.Spec:=Pd [(0,(8,201))] (.row 1 3) Wi Wh (λa=>RT a) AjD AjC
theorem Us:Pa Tryz.prog 184 Th:=by
 refine fn2 1 (Pe (l:=[(204,Asm)]) (by simp[AxO])) Tryz.func184<|?_
 intro b;unfold RT;refine A 18 ?_;refine lP (E:=λ(s:(List Int)×Int) (g:Nat)=>[(3,.osl 3 g 0 s.1.length),(6,.optr 8192 0 0 0),(7,Av s.2)]) (O:=λs g=>[(3,dW g 1 3 (s.1.map Lo)),(8192,dV 0 8 201 (Pu b))]) (body:=λs=>Xv b s.1 s.2) (s:=(([]:List Int),0)) _ ((hX))<|?_
 rintro⟨f,a⟩ k nn
 try dsimp only
 unfold Xv;refine A 6 ?_;refine cD r ?_ ?_
 ·refine A 8 ?_;refine cK λhq=>UY r r r hq<|bD λc h=>Xr (q:=c) (l:=b.toList) (en:=AbP) (j:=a.toNat) (by simp) r r r h r (λ_=>r)<|?_
  refine A 5 ?_;refine lP (E:=λ(s:(List Int)×Int) (g:Nat)=>[(3,.osl 3 g 0 s.1.length),(4,Av a),(5,AkE s.2),(6,.optr 8192 0 0 0),(7,Av a)]) (O:=λs g=>[(3,dW g 1 3 (s.1.map Lo)),(8192,dV 0 8 201 (Pu b))]) (body:=λs=>Xw a s.1 s.2) (s:=(f,c)) _ ((hX))<|?_
  rintro⟨d,e⟩ m nn
  try dsimp only
  unfold Xw;refine A 7 ?_;refine cD r ?_ ?_
  ·refine A 9 ?_;refine bD λi o=>?_
   refine A 15 ?_;exact xL (s:=(d++([i64.wrap ((i64.wrap (64*a))+i)]:List Int),u64.wrap ((aA u64.bits e &&& aA u64.bits (u64.wrap (e-1))).toNat))) _ ((hX))
  ·refine A 10 ?_;exact xL (s:=(d,i64.wrap (a+1))) _ ((hX))
 ·exact B

def Qw (a:(List Int)×Int):List D:=[.sl (a.1.map Lo),Av a.2]
def Qv (ds:List D):(List Int)×Int:=((uL uI) (ds.getD 0 .top),uI (ds.getD 1 .top))
instance:PA Qw Qv:=⟨λa=>by simp[Qv,Qw,uI,Qh (u:=uI) (en:=Lo) (λ_=>rfl)]⟩
def AiC:Dw.Spec:=Pd [] .val Qw Qv (λa=>Ww a.1 a.2) PL noE
theorem AnM:Pa Tryz.prog 185 AiC:=by
 refine fn2 2 (Pe (l:=[(181,UQ),(203,YP),(184,Th)]) (by simp[VE,AdE,Us])) Tryz.func185<|?_
 intro a;unfold Ww;exact B

def AgQ:Dw.Spec:=Pd [] (.row 1 3) RC RB (λa=>XD a) PL noE
theorem AjJ:Pa Tryz.prog 152 AgQ:=by
 refine fn2 1 (Py) Tryz.func152<|?_;intro a;unfold XD;exact B

def Ajc:Dw.Spec:=Pd [] (.row 1 3) SD SC (λa=>Aal a) PL noE
theorem AlO:Pa Tryz.prog 153 Ajc:=by
 refine fn2 1 (Pe (l:=[(181,UQ),(184,Th)]) (by simp[VE,Us])) Tryz.func153<|?_
 intro a;unfold Aal;exact B

def WK (a:Int×Int):List D:=[AkE a.1,AkE a.2]
def WJ (ds:List D):Int×Int:=(uI (ds.getD 0 .top),uI (ds.getD 1 .top))
instance:PA WK WJ:=⟨λa=>by simp[WJ,WK,uI]⟩
def AhP (b:Int):D:=AkE b
def AhQ:Dw.Spec:=Pd [] .ground WK WJ (λa=>Ye a.1 a.2) AhP noE
theorem Anc:Pa Tryz.prog 183 AhQ:=by
 refine fn2 2 (Py) Tryz.func183<|?_;intro a;unfold Ye;exact B

def Tv (a:OW×OW):List D:=[Pu a.1,Pu a.2,.clo 183 []]
def Tu (ds:List D):OW×OW:=(RI (ds.getD 0 .top),RI (ds.getD 1 .top))
instance:PA Tv Tu:=⟨λa=>by simp[Tu,Tv]⟩
def XJ (b:OW×OW×OW):D:=Pu b.1
def AeW (b:OW×OW×OW):List D:=[Pu b.2.1,Pu b.2.2]
def TU:Dw.Spec:=Pd [(0,(8,201)),(1,(8,201))] (.ptr 8 201) Tv Tu (λa=>SH a.1 a.2) XJ AeW
theorem Aef:Pa Tryz.prog 182 TU:=by
 refine fn2 3 (Pe (l:=[(183,AhQ)]) (by simp[Anc])) Tryz.func182<|?_
 rintro⟨d,e⟩;unfold SH;refine A 19 ?_;refine lP (E:=λ(s:OW×Int) (g:Nat)=>[(0,.optr 8192 0 0 0),(1,.optr 8193 1 0 0),(2,.clo 183 []),(7,.optr 10 g 0 0),(11,Av s.2)]) (O:=λs g=>[(10,dV g 8 201 (Pu s.1)),(8192,dV 0 8 201 (Pu d)),(8193,dV 1 8 201 (Pu e))]) (body:=λs=>Rc d e s.1 s.2) (s:=((OW.mk 0 0 0 0 0 0 0 0),0)) _ ((hX))<|?_
 rintro⟨b,a⟩ p nn
 try dsimp only
 unfold Rc;refine A 6 ?_;refine cD r ?_ ?_
 ·refine A 17 ?_;refine cK λhq=>UY r r r hq<|bD λf h=>Xr (q:=f) (l:=d.toList) (en:=AbP) (j:=a.toNat) (by simp) r r r h r (λ_=>r)<|?_
  refine A 3 ?_;refine cK λhq=>UY r r r hq<|bD λi k=>Xr (q:=i) (l:=e.toList) (en:=AbP) (j:=a.toNat) (by simp) r r r k r (λ_=>r)<|bD λc t=>?_
  refine A 2 ?_;refine cK λhq=>UY r r r hq<|bD λm o=>Apd (q:=m) (q':=c) (l:=b.toList) (en:=AbP) (j:=a.toNat) (z':=Pu (b.set a.toNat c)) (by simp) r r r r r o r r (congrArg (λl=>D.agg (l.map AbP)) (So b a.toNat c).symm)<|?_
  refine A 7 ?_;exact xL (s:=((b.set a.toNat c),i64.wrap (a+1))) _ ((hX))
 ·exact B

def Td (a:(List Int)×(List Int)):List D:=[.sl (a.1.map Lo),.sl (a.2.map Lo)]
def Tc (ds:List D):(List Int)×(List Int):=((uL uI) (ds.getD 0 .top),(uL uI) (ds.getD 1 .top))
instance:PA Td Tc:=⟨λa=>by simp[Tc,Td,Qh (u:=uI) (en:=Lo) (λ_=>rfl)]⟩
def Yf:Dw.Spec:=Pd [] .val Td Tc (λa=>TA a.1 a.2) PL noE
theorem Aec:Pa Tryz.prog 139 Yf:=by
 refine fn2 2 (Pe (l:=[(181,UQ),(753846,TU),(184,Th)]) (by simp[VE,Aef,Us])) Tryz.func139<|?_
 rintro⟨d,e⟩;unfold TA;refine A 8 ?_;refine bD λa f=>?_
 refine A 2 ?_;refine bD λb g=>?_
 refine A 1 ?_;refine bD λh c=>cP (a,b) rfl rfl (show _=some TU from by kernel_rfl) PA.ok rfl rfl (by simp) r c<|?_
 exact B

def WA (a:OT×(List Int)):List D:=[Pp a.1,.sl (a.2.map Lo)]
def Wz (ds:List D):OT×(List Int):=(AeU (ds.getD 0 .top),(uL uI) (ds.getD 1 .top))
instance:PA WA Wz:=⟨λa=>by simp[Wz,WA,Qh (u:=uI) (en:=Lo) (λ_=>rfl)]⟩
def AfZ:Dw.Spec:=Pd [] .val WA Wz (λa=>AdN a.1 a.2) PL noE
theorem Amf:Pa Tryz.prog 140 AfZ:=by
 refine fn2 2 (Pe (l:=[(143,Te),(185,AiC),(152,AgQ),(153,Ajc),(139,Yf)]) (by simp[TK,AnM,AjJ,AlO,Aec])) Tryz.func140<|?_
 intro a;unfold AdN;exact B

def Acu:Dw.Spec:=Pd [] .ground Td Tc (λa=>TF a.1 a.2) Pm noE
theorem AiA:Pa Tryz.prog 103 Acu:=by
 refine fn2 2 (Py) Tryz.func103<|?_;rintro⟨a,b⟩;unfold TF;refine A 15 ?_;refine cD r ?_ ?_
 ·exact B
 ·refine A 11 ?_;refine lP (E:=λ(s:Int) (_g:Unit)=>[(0,.sl (a.map Lo)),(1,.sl (b.map Lo)),(12,Av (a.length:Int)),(13,Av s)]) (O:=λ_ _=>[]) (body:=λs=>TY a b s) (s:=0) () ((hX))<|?_
  rintro c ⟨⟩ nn
  try dsimp only
  unfold TY;refine A 6 ?_;refine cD r ?_ ?_
  ·refine A 14 ?_;refine bD λd e=>?_
   refine A 4 ?_;refine bD λf g=>?_
   refine A 5 ?_;refine cD r ?_ ?_
   ·exact B
   ·refine A 7 ?_;exact xL (s:=i64.wrap (c+1)) () ((hX))
  ·exact B

def AqA:Qe:=(Tryz.f100.body.bind (PX Tryz.prog Tryz.f100.ntmps)).getD .skip
theorem AwJ:(Tryz.f100.body.bind (PX Tryz.prog Tryz.f100.ntmps))=some AqA:=by kernel_rfl
theorem AwK:Tryz.f100.results.toList.mapM (Ue Tryz.prog)=some []:=by kernel_rfl

def AtE:Qe:=(Tryz.f101.body.bind (PX Tryz.prog Tryz.f101.ntmps)).getD .skip
theorem AwL:(Tryz.f101.body.bind (PX Tryz.prog Tryz.f101.ntmps))=some AtE:=by kernel_rfl
theorem AwM:Tryz.f101.results.toList.mapM (Ue Tryz.prog)=some [(.t 2)]:=by kernel_rfl

def AtF:Qe:=(Tryz.f102.body.bind (PX Tryz.prog Tryz.f102.ntmps)).getD .skip
theorem AwN:(Tryz.f102.body.bind (PX Tryz.prog Tryz.f102.ntmps))=some AtF:=by kernel_rfl
theorem AwO:Tryz.f102.results.toList.mapM (Ue Tryz.prog)=some [(.t 6)]:=by kernel_rfl

end
end Go.Proofs.YtilmapojncgflaaGreatDoor
