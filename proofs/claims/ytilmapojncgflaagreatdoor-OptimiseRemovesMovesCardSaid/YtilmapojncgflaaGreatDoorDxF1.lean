/-
  Programs on typed data, and the proofs that the code does what they say; written by a program (dx.py).
-/
import Derived.Test.YtilmapojncgflaaGreatDoorProg
import Derived.Test.YtilmapojncgflaaGreatDoorDd
import Derived.KernelRfl
import Derived.Test.YtilmapojncgflaaGreatDoorSh
import Derived.Test.YtilmapojncgflaaGreatDoorDxP
open BitVec renaming ofInt->aA
open List renaming replicate->aAA
open Nat renaming min->aAB
namespace Go.Proofs.YtilmapojncgflaaGreatDoor
open Go Go.Dw Go.Proofs
open Go.IntKind (i64 u64)
set_option maxRecDepth 100000
set_option maxHeartbeats 40000000
open Go.Dw renaming Rv -> bD,Qj -> cK,AdA -> cD,Afa -> xC,Abp -> xL,AcF -> cP,Afb -> lP,AcG -> sC,rf -> r
noncomputable section
def Qh (a:Int):List D:=[Av a]
def Qg (ds:List D):Int:=uI (ds.getD 0 .top)
instance:PD Qh Qg:=⟨λa=>by simp[Qg,Qh,uI]⟩
def Pm (b:Bool):D:=.bool b
def AfH:Dw.Spec:=Pd [] .ground Qh Qg (λa=>ZJ a) Pm noE
theorem AjX:Pb Tryz.prog 178 AfH:=by
 refine fn2 1 (Px) Tryz.func178<|?_;intro a;unfold ZJ;exact B

def Aeq (a:Lo×Int):List D:=[Pl a.1,Av a.2]
def Aep (ds:List D):Lo×Int:=(TT (ds.getD 0 .top),uI (ds.getD 1 .top))
instance:PD Aeq Aep:=⟨λa=>by simp[Aep,Aeq,uI]⟩
def PX (b:(List Int)):D:=.sl (b.map Le)
def Aao:Dw.Spec:=Pd [] (.row 1 3) Aeq Aep (λa=>YV a.1 a.2) PX noE
theorem Afu:Pb Tryz.prog 138 Aao:=by
 refine fn2 2 (Pg (l:=[(178,AfH),(179,AbH),(180,Zk)]) (by simp[AjX,AgK,AeS])) Tryz.func138<|?_
 rintro⟨b,a⟩;unfold YV;refine A 6 ?_;refine sC (E:=λ(_s:Unit) (g:Nat)=>[(1,Av a),(2,.optr 2 g 0 0)]) (O:=λ_ g=>[(2,dV g 3 36 (Pl b))]) (j:=λ_=>Acf b a) ?_ ?_
 ·refine A 5 ?_;refine PM r ?_ ?_
  ·exact B
  ·refine A 8 ?_;refine cD r ?_ ?_
   ·exact B
   ·refine A 1 ?_;exact xC (s:=()) _ ((hX))
 ·rintro⟨⟩ d nn
  try dsimp only
  unfold Acf;refine A 10 ?_;refine bD λc e=>?_
  refine A 6 ?_;refine sC (E:=λ(s:(List Int)) (g:Nat×Nat)=>[(5,.osl 5 g.1 0 s.length),(6,.optr 6 g.2 0 0)]) (O:=λs g=>[(5,dW g.1 1 3 (s.map Le)),(6,dV g.2 5 63 (Pu c))]) (j:=λs=>YW c s) ?_ ?_
  ·refine A 4 ?_;refine bD λf h=>?_
   refine A 4 ?_;refine cD r ?_ ?_
   ·refine A 8 ?_;exact xC (s:=([]:List Int)++([i64.wrap (a+1)]:List Int)) (_,_) ((hX))
   ·refine A 1 ?_;exact xC (s:=([]:List Int)) (_,_) ((hX))
  ·rintro i ⟨k,m⟩ nn
   try dsimp only
   unfold YW;exact B

def VM (a:Lo):List D:=[Pl a]
def VL (ds:List D):Lo:=TT (ds.getD 0 .top)
instance:PD VM VL:=⟨λa=>by simp[VL,VM]⟩
def Aij (b:(List (List Int))):D:=.sl (b.map (eL Le))
def Aik:Dw.Spec:=Pd [] .val VM VL (λa=>Yf a) Aij noE
theorem AlO:Pb Tryz.prog 99 Aik:=by
 refine fn2 1 (Pg (l:=[(138,Aao)]) (by simp[Afu])) Tryz.func99<|?_
 intro a;unfold Yf;refine A 11 ?_;refine cK λhq=>Aaw (α:=Int) r r r hq r<|?_
 refine A 2 ?_;refine Qp (E:=[(1,.optr 1 _ 0 0),(3,.osl 4099 _ 0 ((aAA (a.Code.length:Int).toNat ([]:(List Int))).length))]) (O:=[(1,dV _ 3 36 (Pl a)),(4099,dW _ 1 41 ((aAA (a.Code.length:Int).toNat ([]:(List Int))).map (eR 1 3 Le)))]) ((AeM (g:=3) (g2:=4099) r r r (AhI (l:=aAA (a.Code.length:Int).toNat ([]:(List Int))) (s':=1) (ty':=3) Le (by decide) (λ_ h=>List.eq_of_mem_replicate h)) (hX))) λnn=>?_
 refine A 10 ?_;refine lP (E:=λ(s:(List (List Int))×Int) (g:Nat×Nat)=>[(1,.optr 1 g.1 0 0),(3,.osl 4099 g.2 0 s.1.length),(13,Av (a.Code.length:Int)),(14,Av s.2)]) (O:=λs g=>[(1,dV g.1 3 36 (Pl a)),(4099,dW g.2 1 41 (s.1.map (eR 1 3 Le)))]) (body:=λs=>Zw a s.1 s.2) (s:=(aAA (a.Code.length:Int).toNat ([]:(List Int)),0)) (_,_) ((hX))<|?_
 rintro⟨c,b⟩ ⟨j,k⟩ nn
 try dsimp only
 unfold Zw;refine A 6 ?_;refine cD r ?_ ?_
 ·refine A 14 ?_;refine bD λd m=>?_
  refine A 6 ?_;refine lP (E:=λ(s:(List (List Int))×Int) (g:Nat×Nat×Nat)=>[(1,.optr 1 g.1 0 0),(3,.osl 4099 g.2.2 0 s.1.length),(4,Av b),(13,Av (a.Code.length:Int)),(14,Av b),(19,.osl 19 g.2.1 0 d.length),(20,Av (d.length:Int)),(21,Av s.2)]) (O:=λs g=>[(1,dV g.1 3 36 (Pl a)),(19,dW g.2.1 1 3 (d.map Le)),(4099,dW g.2.2 1 41 (s.1.map (eR 1 3 Le)))]) (body:=λs=>Zx d b s.1 s.2) (s:=(c,0)) (_,_,_) ((hX))<|?_
  rintro⟨f,o⟩ ⟨p,t,u⟩ nn
  try dsimp only
  unfold Zx;refine A 6 ?_;refine cD r ?_ ?_
  ·refine A 7 ?_;refine bD λv w=>?_
   refine A 10 ?_;refine bD λe i=>AmE (q:=e) Le r r r i<|?_
   refine A 2 ?_;refine cK λhq=>AmD (e) (([b]:List Int)) Le r r r r r r r (by simp) (Uo _ _ r) r r (by simp) (RA _ _ r) (λ_=>r) r hq (λ_=>r)<|cK λhq=>Yi (by simp) r r r r (by simpa using hq)<|AdK (l:=f) (q:=e) (q':=e++([b]:List Int)) Le rfl rfl rfl rfl (.inr ⟨_,_,_,rfl⟩) i rfl rfl ⟨⟨rfl,rfl,by simp,Zh λ_=>rfl⟩,trivial,rfl⟩ (congrArg (λz=>[D.row _ _ z]) (RA _ _ rfl)) rfl<|?_
   exact B
  ·refine A 10 ?_;exact xL (s:=(f,i64.wrap (b+1))) (_,_) ((hX))
 ·refine A 4 ?_;refine Qp (E:=[(3,.osl 4099 _ 0 c.length)]) (O:=[(4099,dW _ 1 41 (c.map (eL Le)))]) ((AbC (g:=4099) r (AhJ (l:=c) Le (λ_=>r)) (hX))) λnn=>?_
  exact B

def Rn (a:OX):List D:=[Pu a]
def Rm (ds:List D):OX:=AcH (ds.getD 0 .top)
instance:PD Rn Rm:=⟨λa=>by simp[Rm,Rn]⟩
def AaZ (b:Int×Bool):D:=.tup [Av b.1,.bool b.2]
def SN:Dw.Spec:=Pd [] .ground Rn Rm (λa=>RC a) AaZ noE
theorem Tq:Pb Tryz.prog 143 SN:=by
 refine fn2 1 (Px) Tryz.func143<|?_;intro a;unfold RC;exact B

def Vj:Dw.Spec:=Pd [] .ground Qh Qg (λa=>Re a) Pm noE
theorem Xv:Pb Tryz.prog 193 Vj:=by
 refine fn2 1 (Px) Tryz.func193<|?_;intro a;unfold Re;exact B

def Wm (a:OW×Int×Bool):List D:=[Pq a.1,Av a.2.1,.bool a.2.2]
def Wl (ds:List D):OW×Int×Bool:=(Rx (ds.getD 0 .top),uI (ds.getD 1 .top),uBo (ds.getD 2 .top))
instance:PD Wm Wl:=⟨λa=>by simp[Wl,Wm,uI,uBo]⟩
def Ahw (_b:OW):D:=.tup []
def Ahv (b:OW):List D:=[Pq b]
def Xu:Dw.Spec:=Pd [(0,(8,201))] .val Wm Wl (λa=>TX a.1 a.2.1 a.2.2) Ahw Ahv
theorem Abs:Pb Tryz.prog 203 Xu:=by
 refine fn2 3 (Pg (l:=[(193,Vj)]) (by simp[Xv])) Tryz.func203<|?_
 rintro⟨b,a,m⟩;unfold TX;refine A 13 ?_;refine bD λo p=>?_
 refine A 5 ?_;refine cD r ?_ ?_
 ·exact B
 ·refine A 6 ?_;refine cD r ?_ ?_
  ·refine A 5 ?_;refine cK λhq=>Uq r r r hq<|bD λc e=>Wd (q:=c) (l:=b.toList) (en:=ZU) (j:=(i64.wrap (a.tdiv 64)).toNat) (by simp) r r r e r (λ_=>r)<|?_
   refine A 3 ?_;refine cK λhq=>Uq r r r hq<|bD λf g=>Agl (q:=f) (q':=u64.wrap ((aA u64.bits c ||| aA u64.bits (u64.wrap (1*2 ^ (aAB ((u64.wrap (a)).tmod 64).toNat u64.bits)))).toNat)) (l:=b.toList) (en:=ZU) (j:=(i64.wrap (a.tdiv 64)).toNat) (z':=Pq (b.set ((i64.wrap (a.tdiv 64)).toNat) (u64.wrap ((aA u64.bits c ||| aA u64.bits (u64.wrap (1*2 ^ (aAB ((u64.wrap (a)).tmod 64).toNat u64.bits)))).toNat)))) (by simp) r r r r r g r r (congrArg (λl=>D.agg (l.map ZU)) (Sh b ((i64.wrap (a.tdiv 64)).toNat) (u64.wrap ((aA u64.bits c ||| aA u64.bits (u64.wrap (1*2 ^ (aAB ((u64.wrap (a)).tmod 64).toNat u64.bits)))).toNat))).symm) r r<|?_
   exact B
  ·refine A 5 ?_;refine cK λhq=>Uq r r r hq<|bD λd h=>Wd (q:=d) (l:=b.toList) (en:=ZU) (j:=(i64.wrap (a.tdiv 64)).toNat) (by simp) r r r h r (λ_=>r)<|?_
   refine A 3 ?_;refine cK λhq=>Uq r r r hq<|bD λi k=>Agl (q:=i) (q':=u64.wrap ((aA u64.bits d &&& ~~~ aA u64.bits (u64.wrap (1*2 ^ (aAB ((u64.wrap (a)).tmod 64).toNat u64.bits)))).toNat)) (l:=b.toList) (en:=ZU) (j:=(i64.wrap (a.tdiv 64)).toNat) (z':=Pq (b.set ((i64.wrap (a.tdiv 64)).toNat) (u64.wrap ((aA u64.bits d &&& ~~~ aA u64.bits (u64.wrap (1*2 ^ (aAB ((u64.wrap (a)).tmod 64).toNat u64.bits)))).toNat)))) (by simp) r r r r r k r r (congrArg (λl=>D.agg (l.map ZU)) (Sh b ((i64.wrap (a.tdiv 64)).toNat) (u64.wrap ((aA u64.bits d &&& ~~~ aA u64.bits (u64.wrap (1*2 ^ (aAB ((u64.wrap (a)).tmod 64).toNat u64.bits)))).toNat))).symm) r r<|?_
   exact B

def Tn (a:(List Int)):List D:=[.sl (a.map Le)]
def Tm (ds:List D):(List Int):=(uL uI) (ds.getD 0 .top)
instance:PD Tn Tm:=⟨λa=>by simp[Tm,Tn,Qo (u:=uI) (en:=Le) (λ_=>rfl)]⟩
def Ald (b:OW):D:=Pq b
def Ug:Dw.Spec:=Pd [] (.ptr 8 201) Tn Tm (λa=>Se a) Ald noE
theorem UY:Pb Tryz.prog 181 Ug:=by
 refine fn2 1 (Pg (l:=[(203,Xu)]) (by simp[Abs])) Tryz.func181<|?_
 intro a;unfold Se;refine A 21 ?_;refine lP (E:=λ(s:OW×Int) (g:Nat)=>[(3,.optr 7 g 0 0),(8,.sl (a.map Le)),(9,Av (a.length:Int)),(10,Av s.2)]) (O:=λs g=>[(7,dV g 8 201 (Pq s.1))]) (body:=λs=>AaQ a s.1 s.2) (s:=((OW.mk 0 0 0 0 0 0 0 0),0)) _ ((hX))<|?_
 rintro⟨d,b⟩ e nn
 try dsimp only
 unfold AaQ;refine A 6 ?_;refine cD r ?_ ?_
 ·refine A 6 ?_;refine bD λf h=>?_
  refine A 8 ?_;refine bD λc i=>?_
  refine A 8 ?_;exact xL (s:=(c,i64.wrap (b+1))) _ ((hX))
 ·exact B

def Vs (a:OW):List D:=[Pq a]
def Vr (ds:List D):OW:=Rx (ds.getD 0 .top)
instance:PD Vs Vr:=⟨λa=>by simp[Vr,Vs]⟩
def AgQ (b:(List Int)×OW):D:=.sl (b.1.map Le)
def AgP (b:(List Int)×OW):List D:=[Pq b.2]
def SQ:Dw.Spec:=Pd [(0,(8,201))] (.row 1 3) Vs Vr (λa=>RI a) AgQ AgP
theorem TO:Pb Tryz.prog 184 SQ:=by
 refine fn2 1 (Pg (l:=[(204,Aoy)]) (by simp[AtL])) Tryz.func184<|?_
 intro b;unfold RI;refine A 18 ?_;refine lP (E:=λ(s:(List Int)×Int) (g:Nat)=>[(3,.osl 3 g 0 s.1.length),(6,.optr 8192 0 0 0),(7,Av s.2)]) (O:=λs g=>[(3,dW g 1 3 (s.1.map Le)),(8192,dV 0 8 201 (Pq b))]) (body:=λs=>Wi b s.1 s.2) (s:=(([]:List Int),0)) _ ((hX))<|?_
 rintro⟨f,a⟩ k nn
 try dsimp only
 unfold Wi;refine A 6 ?_;refine cD r ?_ ?_
 ·refine A 8 ?_;refine cK λhq=>Uq r r r hq<|bD λc h=>Wd (q:=c) (l:=b.toList) (en:=ZU) (j:=a.toNat) (by simp) r r r h r (λ_=>r)<|?_
  refine A 5 ?_;refine lP (E:=λ(s:(List Int)×Int) (g:Nat)=>[(3,.osl 3 g 0 s.1.length),(4,Av a),(5,Akt s.2),(6,.optr 8192 0 0 0),(7,Av a)]) (O:=λs g=>[(3,dW g 1 3 (s.1.map Le)),(8192,dV 0 8 201 (Pq b))]) (body:=λs=>Wj a s.1 s.2) (s:=(f,c)) _ ((hX))<|?_
  rintro⟨d,e⟩ m nn
  try dsimp only
  unfold Wj;refine A 7 ?_;refine cD r ?_ ?_
  ·refine A 9 ?_;refine bD λi o=>?_
   refine A 15 ?_;exact xL (s:=(d++([i64.wrap ((i64.wrap (64*a))+i)]:List Int),u64.wrap ((aA u64.bits e &&& aA u64.bits (u64.wrap (e-1))).toNat))) _ ((hX))
  ·refine A 10 ?_;exact xL (s:=(d,i64.wrap (a+1))) _ ((hX))
 ·exact B

def QG (a:(List Int)×Int):List D:=[.sl (a.1.map Le),Av a.2]
def QF (ds:List D):(List Int)×Int:=((uL uI) (ds.getD 0 .top),uI (ds.getD 1 .top))
instance:PD QG QF:=⟨λa=>by simp[QF,QG,uI,Qo (u:=uI) (en:=Le) (λ_=>rfl)]⟩
def AfL:Dw.Spec:=Pd [] .val QG QF (λa=>Vz a.1 a.2) PX noE
theorem Ako:Pb Tryz.prog 185 AfL:=by
 refine fn2 2 (Pg (l:=[(181,Ug),(203,Xu),(184,SQ)]) (by simp[UY,Abs,TO])) Tryz.func185<|?_
 intro a;unfold Vz;exact B

def Aek:Dw.Spec:=Pd [] (.row 1 3) Rn Rm (λa=>Wn a) PX noE
theorem AgU:Pb Tryz.prog 152 Aek:=by
 refine fn2 1 (Px) Tryz.func152<|?_;intro a;unfold Wn;exact B

def Agn:Dw.Spec:=Pd [] (.row 1 3) Tn Tm (λa=>YK a) PX noE
theorem AiG:Pb Tryz.prog 153 Agn:=by
 refine fn2 1 (Pg (l:=[(181,Ug),(184,SQ)]) (by simp[UY,TO])) Tryz.func153<|?_
 intro a;unfold YK;exact B

def VH (a:Int×Int):List D:=[Akt a.1,Akt a.2]
def VG (ds:List D):Int×Int:=(uI (ds.getD 0 .top),uI (ds.getD 1 .top))
instance:PD VH VG:=⟨λa=>by simp[VG,VH,uI]⟩
def Afi (b:Int):D:=Akt b
def Afj:Dw.Spec:=Pd [] .ground VH VG (λa=>WN a.1 a.2) Afi noE
theorem AjM:Pb Tryz.prog 183 Afj:=by
 refine fn2 2 (Px) Tryz.func183<|?_;intro a;unfold WN;exact B

def Tb (a:OW×OW):List D:=[Pq a.1,Pq a.2,.clo 183 []]
def Ta (ds:List D):OW×OW:=(Rx (ds.getD 0 .top),Rx (ds.getD 1 .top))
instance:PD Tb Ta:=⟨λa=>by simp[Ta,Tb]⟩
def Wu (b:OW×OW×OW):D:=Pq b.1
def AcK (b:OW×OW×OW):List D:=[Pq b.2.1,Pq b.2.2]
def Ty:Dw.Spec:=Pd [(0,(8,201)),(1,(8,201))] (.ptr 8 201) Tb Ta (λa=>Sv a.1 a.2) Wu AcK
theorem AbP:Pb Tryz.prog 182 Ty:=by
 refine fn2 3 (Pg (l:=[(183,Afj)]) (by simp[AjM])) Tryz.func182<|?_
 rintro⟨d,e⟩;unfold Sv;refine A 19 ?_;refine lP (E:=λ(s:OW×Int) (g:Nat)=>[(0,.optr 8192 0 0 0),(1,.optr 8193 1 0 0),(2,.clo 183 []),(7,.optr 10 g 0 0),(11,Av s.2)]) (O:=λs g=>[(10,dV g 8 201 (Pq s.1)),(8192,dV 0 8 201 (Pq d)),(8193,dV 1 8 201 (Pq e))]) (body:=λs=>QM d e s.1 s.2) (s:=((OW.mk 0 0 0 0 0 0 0 0),0)) _ ((hX))<|?_
 rintro⟨b,a⟩ p nn
 try dsimp only
 unfold QM;refine A 6 ?_;refine cD r ?_ ?_
 ·refine A 17 ?_;refine cK λhq=>Uq r r r hq<|bD λf h=>Wd (q:=f) (l:=d.toList) (en:=ZU) (j:=a.toNat) (by simp) r r r h r (λ_=>r)<|?_
  refine A 3 ?_;refine cK λhq=>Uq r r r hq<|bD λi k=>Wd (q:=i) (l:=e.toList) (en:=ZU) (j:=a.toNat) (by simp) r r r k r (λ_=>r)<|bD λc t=>?_
  refine A 2 ?_;refine cK λhq=>Uq r r r hq<|bD λm o=>AlH (q:=m) (q':=c) (l:=b.toList) (en:=ZU) (j:=a.toNat) (z':=Pq (b.set a.toNat c)) (by simp) r r r r r o r r (congrArg (λl=>D.agg (l.map ZU)) (Sh b a.toNat c).symm)<|?_
  refine A 7 ?_;exact xL (s:=((b.set a.toNat c),i64.wrap (a+1))) _ ((hX))
 ·exact B

def TG (a:(List Int)×(List Int)):List D:=[.sl (a.1.map Le),.sl (a.2.map Le)]
def TF (ds:List D):(List Int)×(List Int):=((uL uI) (ds.getD 0 .top),(uL uI) (ds.getD 1 .top))
instance:PD TG TF:=⟨λa=>by simp[TF,TG,Qo (u:=uI) (en:=Le) (λ_=>rfl)]⟩
def WO:Dw.Spec:=Pd [] .val TG TF (λa=>Tf a.1 a.2) PX noE
theorem AbM:Pb Tryz.prog 139 WO:=by
 refine fn2 2 (Pg (l:=[(181,Ug),(753846,Ty),(184,SQ)]) (by simp[UY,AbP,TO])) Tryz.func139<|?_
 rintro⟨d,e⟩;unfold Tf;refine A 8 ?_;refine bD λa f=>?_
 refine A 2 ?_;refine bD λb g=>?_
 refine A 1 ?_;refine bD λh c=>cP (a,b) rfl rfl (show _=some Ty from by kernel_rfl) PD.ok rfl rfl (by simp) r c<|?_
 exact B

def XU (a:OX×(List Int)):List D:=[Pu a.1,.sl (a.2.map Le)]
def XT (ds:List D):OX×(List Int):=(AcH (ds.getD 0 .top),(uL uI) (ds.getD 1 .top))
instance:PD XU XT:=⟨λa=>by simp[XT,XU,Qo (u:=uI) (en:=Le) (λ_=>rfl)]⟩
def AdF:Dw.Spec:=Pd [] .val XU XT (λa=>AbA a.1 a.2) PX noE
theorem AiQ:Pb Tryz.prog 140 AdF:=by
 refine fn2 2 (Pg (l:=[(143,SN),(185,AfL),(152,Aek),(153,Agn),(139,WO)]) (by simp[Tq,Ako,AgU,AiG,AbM])) Tryz.func140<|?_
 intro a;unfold AbA;exact B

def Aau:Dw.Spec:=Pd [] .ground TG TF (λa=>Tk a.1 a.2) Pm noE
theorem AfJ:Pb Tryz.prog 103 Aau:=by
 refine fn2 2 (Px) Tryz.func103<|?_;rintro⟨a,b⟩;unfold Tk;refine A 15 ?_;refine cD r ?_ ?_
 ·exact B
 ·refine A 11 ?_;refine lP (E:=λ(s:Int) (_g:Unit)=>[(0,.sl (a.map Le)),(1,.sl (b.map Le)),(12,Av (a.length:Int)),(13,Av s)]) (O:=λ_ _=>[]) (body:=λs=>TE a b s) (s:=0) () ((hX))<|?_
  rintro c ⟨⟩ nn
  try dsimp only
  unfold TE;refine A 6 ?_;refine cD r ?_ ?_
  ·refine A 14 ?_;refine bD λd e=>?_
   refine A 4 ?_;refine bD λf g=>?_
   refine A 5 ?_;refine cD r ?_ ?_
   ·exact B
   ·refine A 7 ?_;exact xL (s:=i64.wrap (c+1)) () ((hX))
  ·exact B

def AmZ:PZ:=(Tryz.f100.body.bind (PS Tryz.prog Tryz.f100.ntmps)).getD .skip
theorem AsL:(Tryz.f100.body.bind (PS Tryz.prog Tryz.f100.ntmps))=some AmZ:=by kernel_rfl
theorem AsM:Tryz.f100.results.toList.mapM (TH Tryz.prog)=some []:=by kernel_rfl

def ApG:PZ:=(Tryz.f101.body.bind (PS Tryz.prog Tryz.f101.ntmps)).getD .skip
theorem AsN:(Tryz.f101.body.bind (PS Tryz.prog Tryz.f101.ntmps))=some ApG:=by kernel_rfl
theorem AsO:Tryz.f101.results.toList.mapM (TH Tryz.prog)=some [(.t 2)]:=by kernel_rfl

def ApH:PZ:=(Tryz.f102.body.bind (PS Tryz.prog Tryz.f102.ntmps)).getD .skip
theorem AsP:(Tryz.f102.body.bind (PS Tryz.prog Tryz.f102.ntmps))=some ApH:=by kernel_rfl
theorem AsQ:Tryz.f102.results.toList.mapM (TH Tryz.prog)=some [(.t 6)]:=by kernel_rfl

end
end Go.Proofs.YtilmapojncgflaaGreatDoor
