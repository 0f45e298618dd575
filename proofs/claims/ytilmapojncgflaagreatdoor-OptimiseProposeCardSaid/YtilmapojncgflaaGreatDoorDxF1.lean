/-
  Programs on typed data, and the proofs that the code does what they say; written by a program (dx.py).
-/
import Derived.Test.YtilmapojncgflaaGreatDoorProg
import Derived.Test.YtilmapojncgflaaGreatDoorDd
import Derived.KernelRfl
import Derived.Test.YtilmapojncgflaaGreatDoorSh
import Derived.Test.YtilmapojncgflaaGreatDoorDxP
open BitVec renaming ofInt->aA
open List renaming replicate->aAA
open Nat renaming min->aAB
namespace Go.Proofs.YtilmapojncgflaaGreatDoor
open Go Go.Dw Go.Proofs
open Go.IntKind (i64 u64)
set_option maxRecDepth 100000
set_option maxHeartbeats 40000000
open Go.Dw renaming Ra -> bD,Qe -> cK,ZS -> cD,AbR -> xC,XW -> xL,Afg -> cP,AbS -> lP,XE -> sC,rf -> r
noncomputable section
def PU (a:Int):List D:=[Av a]
def PT (ds:List D):Int:=uI (ds.getD 0 .top)
instance:Py PU PT:=⟨λa=>by simp[PT,PU,uI]⟩
def Pe (b:Bool):D:=.bool b
def AiJ:Dw.Spec:=OY [] .ground PU PT (λa=>AbP a) Pe noE
theorem AnD:OW Tryz.prog 178 AiJ:=by
 refine fn2 1 (Pp) Tryz.func178<|?_;intro a;unfold AbP;exact B

def AcU (a:Mk×Int):List D:=[Pf a.1,Av a.2]
def AcT (ds:List D):Mk×Int:=(Td (ds.getD 0 .top),uI (ds.getD 1 .top))
instance:Py AcU AcT:=⟨λa=>by simp[AcT,AcU,uI]⟩
def PK (b:(List Int)):D:=.sl (b.map Le)
def Acy:Dw.Spec:=OY [] (.row 1 3) AcU AcT (λa=>AaU a.1 a.2) PK noE
theorem Aim:OW Tryz.prog 138 Acy:=by
 refine fn2 2 (OZ (l:=[(178,AiJ),(179,Aeh),(180,Abk)]) (by simp[AnD,AjG,AhH])) Tryz.func138<|?_
 rintro⟨b,a⟩;unfold AaU;refine A 6 ?_;refine sC (E:=λ(_s:Unit) (g:Nat)=>[(1,Av a),(2,.optr 2 g 0 0)]) (O:=λ_ g=>[(2,dV g 3 36 (Pf b))]) (j:=λ_=>AeD b a) ?_ ?_
 ·refine A 5 ?_;refine Pj r ?_ ?_
  ·exact B
  ·refine A 8 ?_;refine cD r ?_ ?_
   ·exact B
   ·refine A 1 ?_;exact xC (s:=()) _ ((hX))
 ·rintro⟨⟩ d nn
  try dsimp only
  unfold AeD;refine A 10 ?_;refine bD λc e=>?_
  refine A 6 ?_;refine sC (E:=λ(s:(List Int)) (g:Nat×Nat)=>[(5,.osl 5 g.1 0 s.length),(6,.optr 6 g.2 0 0)]) (O:=λs g=>[(5,dW g.1 1 3 (s.map Le)),(6,dV g.2 5 63 (Ph c))]) (j:=λs=>AaV c s) ?_ ?_
  ·refine A 4 ?_;refine bD λf h=>?_
   refine A 4 ?_;refine cD r ?_ ?_
   ·refine A 8 ?_;exact xC (s:=([]:List Int)++([i64.wrap (a+1)]:List Int)) (_,_) ((hX))
   ·refine A 1 ?_;exact xC (s:=([]:List Int)) (_,_) ((hX))
  ·rintro i ⟨k,m⟩ nn
   try dsimp only
   unfold AaV;exact B

def TJ (a:Mk):List D:=[Pf a]
def TI (ds:List D):Mk:=Td (ds.getD 0 .top)
instance:Py TJ TI:=⟨λa=>by simp[TI,TJ]⟩
def Alm (b:(List (List Int))):D:=.sl (b.map (eL Le))
def Aln:Dw.Spec:=OY [] .val TJ TI (λa=>Acx a) Alm noE
theorem Apu:OW Tryz.prog 99 Aln:=by
 refine fn2 1 (OZ (l:=[(138,Acy)]) (by simp[Aim])) Tryz.func99<|?_
 intro a;unfold Acx;refine A 11 ?_;refine cK λhq=>Vz (α:=Int) r r r hq r<|?_
 refine A 2 ?_;refine Qg (E:=[(1,.optr 1 _ 0 0),(3,.osl 4099 _ 0 ((aAA (a.Code.length:Int).toNat ([]:(List Int))).length))]) (O:=[(1,dV _ 3 36 (Pf a)),(4099,dW _ 1 41 ((aAA (a.Code.length:Int).toNat ([]:(List Int))).map (eR 1 3 Le)))]) ((AhD (g:=3) (g2:=4099) r r r (AkP (l:=aAA (a.Code.length:Int).toNat ([]:(List Int))) (s':=1) (ty':=3) Le (by decide) (λ_ h=>List.eq_of_mem_replicate h)) (hX))) λnn=>?_
 refine A 10 ?_;refine lP (E:=λ(s:(List (List Int))×Int) (g:Nat×Nat)=>[(1,.optr 1 g.1 0 0),(3,.osl 4099 g.2 0 s.1.length),(13,Av (a.Code.length:Int)),(14,Av s.2)]) (O:=λs g=>[(1,dV g.1 3 36 (Pf a)),(4099,dW g.2 1 41 (s.1.map (eR 1 3 Le)))]) (body:=λs=>AfC a s.1 s.2) (s:=(aAA (a.Code.length:Int).toNat ([]:(List Int)),0)) (_,_) ((hX))<|?_
 rintro⟨c,b⟩ ⟨j,k⟩ nn
 try dsimp only
 unfold AfC;refine A 6 ?_;refine cD r ?_ ?_
 ·refine A 14 ?_;refine bD λd m=>?_
  refine A 6 ?_;refine lP (E:=λ(s:(List (List Int))×Int) (g:Nat×Nat×Nat)=>[(1,.optr 1 g.1 0 0),(3,.osl 4099 g.2.2 0 s.1.length),(4,Av b),(13,Av (a.Code.length:Int)),(14,Av b),(19,.osl 19 g.2.1 0 d.length),(20,Av (d.length:Int)),(21,Av s.2)]) (O:=λs g=>[(1,dV g.1 3 36 (Pf a)),(19,dW g.2.1 1 3 (d.map Le)),(4099,dW g.2.2 1 41 (s.1.map (eR 1 3 Le)))]) (body:=λs=>Aby d b s.1 s.2) (s:=(c,0)) (_,_,_) ((hX))<|?_
  rintro⟨f,o⟩ ⟨p,t,u⟩ nn
  try dsimp only
  unfold Aby;refine A 6 ?_;refine cD r ?_ ?_
  ·refine A 7 ?_;refine bD λv w=>?_
   refine A 10 ?_;refine bD λe i=>Aqn (q:=e) Le r r r i<|?_
   refine A 2 ?_;refine cK λhq=>Aqm (e) (([b]:List Int)) Le r r r r r r r (by simp) (SP _ _ r) r r (by simp) (QO _ _ r) (λ_=>r) r hq (λ_=>r)<|cK λhq=>ZQ (by simp) r r r r (by simpa using hq)<|Agu (l:=f) (q:=e) (q':=e++([b]:List Int)) Le rfl rfl rfl rfl (.inr ⟨_,_,_,rfl⟩) i rfl rfl ⟨⟨rfl,rfl,by simp,Abf λ_=>rfl⟩,trivial,rfl⟩ (congrArg (λz=>[D.row _ _ z]) (QO _ _ rfl)) rfl<|?_
   exact B
  ·refine A 10 ?_;exact xL (s:=(f,i64.wrap (b+1))) (_,_) ((hX))
 ·refine A 4 ?_;refine Qg (E:=[(3,.osl 4099 _ 0 c.length)]) (O:=[(4099,dW _ 1 41 (c.map (eL Le)))]) ((Aeb (g:=4099) r (AkQ (l:=c) Le (λ_=>r)) (hX))) λnn=>?_
  exact B

def Ry (a:OP):List D:=[Ph a]
def Rx (ds:List D):OP:=Afh (ds.getD 0 .top)
instance:Py Ry Rx:=⟨λa=>by simp[Rx,Ry]⟩
def Adx (b:Int×Bool):D:=.tup [Av b.1,.bool b.2]
def Tf:Dw.Spec:=OY [] .ground Ry Rx (λa=>RG a) Adx noE
theorem TR:OW Tryz.prog 143 Tf:=by
 refine fn2 1 (Pp) Tryz.func143<|?_;intro a;unfold RG;exact B

def Wb:Dw.Spec:=OY [] .ground PU PT (λa=>Rr a) Pe noE
theorem Zd:OW Tryz.prog 193 Wb:=by
 refine fn2 1 (Pp) Tryz.func193<|?_;intro a;unfold Rr;exact B

def XM (a:OT×Int×Bool):List D:=[Ps a.1,Av a.2.1,.bool a.2.2]
def XL (ds:List D):OT×Int×Bool:=(RD (ds.getD 0 .top),uI (ds.getD 1 .top),uBo (ds.getD 2 .top))
instance:Py XM XL:=⟨λa=>by simp[XL,XM,uI,uBo]⟩
def AkB (_b:OT):D:=.tup []
def AkA (b:OT):List D:=[Ps b]
def Zc:Dw.Spec:=OY [(0,(8,201))] .val XM XL (λa=>UB a.1 a.2.1 a.2.2) AkB AkA
theorem AdS:OW Tryz.prog 203 Zc:=by
 refine fn2 3 (OZ (l:=[(193,Wb)]) (by simp[Zd])) Tryz.func203<|?_
 rintro⟨b,a,m⟩;unfold UB;refine A 13 ?_;refine bD λo p=>?_
 refine A 5 ?_;refine cD r ?_ ?_
 ·exact B
 ·refine A 6 ?_;refine cD r ?_ ?_
  ·refine A 5 ?_;refine cK λhq=>TT r r r hq<|bD λc e=>XD (q:=c) (l:=b.toList) (en:=Acd) (j:=(i64.wrap (a.tdiv 64)).toNat) (by simp) r r r e r (λ_=>r)<|?_
   refine A 3 ?_;refine cK λhq=>TT r r r hq<|bD λf g=>Ajn (q:=f) (q':=u64.wrap ((aA u64.bits c ||| aA u64.bits (u64.wrap (1*2 ^ (aAB ((u64.wrap (a)).tmod 64).toNat u64.bits)))).toNat)) (l:=b.toList) (en:=Acd) (j:=(i64.wrap (a.tdiv 64)).toNat) (z':=Ps (b.set ((i64.wrap (a.tdiv 64)).toNat) (u64.wrap ((aA u64.bits c ||| aA u64.bits (u64.wrap (1*2 ^ (aAB ((u64.wrap (a)).tmod 64).toNat u64.bits)))).toNat)))) (by simp) r r r r r g r r (congrArg (λl=>D.agg (l.map Acd)) (Ss b ((i64.wrap (a.tdiv 64)).toNat) (u64.wrap ((aA u64.bits c ||| aA u64.bits (u64.wrap (1*2 ^ (aAB ((u64.wrap (a)).tmod 64).toNat u64.bits)))).toNat))).symm) r r<|?_
   exact B
  ·refine A 5 ?_;refine cK λhq=>TT r r r hq<|bD λd h=>XD (q:=d) (l:=b.toList) (en:=Acd) (j:=(i64.wrap (a.tdiv 64)).toNat) (by simp) r r r h r (λ_=>r)<|?_
   refine A 3 ?_;refine cK λhq=>TT r r r hq<|bD λi k=>Ajn (q:=i) (q':=u64.wrap ((aA u64.bits d &&& ~~~ aA u64.bits (u64.wrap (1*2 ^ (aAB ((u64.wrap (a)).tmod 64).toNat u64.bits)))).toNat)) (l:=b.toList) (en:=Acd) (j:=(i64.wrap (a.tdiv 64)).toNat) (z':=Ps (b.set ((i64.wrap (a.tdiv 64)).toNat) (u64.wrap ((aA u64.bits d &&& ~~~ aA u64.bits (u64.wrap (1*2 ^ (aAB ((u64.wrap (a)).tmod 64).toNat u64.bits)))).toNat)))) (by simp) r r r r r k r r (congrArg (λl=>D.agg (l.map Acd)) (Ss b ((i64.wrap (a.tdiv 64)).toNat) (u64.wrap ((aA u64.bits d &&& ~~~ aA u64.bits (u64.wrap (1*2 ^ (aAB ((u64.wrap (a)).tmod 64).toNat u64.bits)))).toNat))).symm) r r<|?_
   exact B

def SF (a:(List Int)):List D:=[.sl (a.map Le)]
def SE (ds:List D):(List Int):=(uL uI) (ds.getD 0 .top)
instance:Py SF SE:=⟨λa=>by simp[SE,SF,Qb (u:=uI) (en:=Le) (λ_=>rfl)]⟩
def AoF (b:OT):D:=Ps b
def US:Dw.Spec:=OY [] (.ptr 8 201) SF SE (λa=>Sn a) AoF noE
theorem VH:OW Tryz.prog 181 US:=by
 refine fn2 1 (OZ (l:=[(203,Zc)]) (by simp[AdS])) Tryz.func181<|?_
 intro a;unfold Sn;refine A 21 ?_;refine lP (E:=λ(s:OT×Int) (g:Nat)=>[(3,.optr 7 g 0 0),(8,.sl (a.map Le)),(9,Av (a.length:Int)),(10,Av s.2)]) (O:=λs g=>[(7,dV g 8 201 (Ps s.1))]) (body:=λs=>Adn a s.1 s.2) (s:=((OT.mk 0 0 0 0 0 0 0 0),0)) _ ((hX))<|?_
 rintro⟨d,b⟩ e nn
 try dsimp only
 unfold Adn;refine A 6 ?_;refine cD r ?_ ?_
 ·refine A 6 ?_;refine bD λf h=>?_
  refine A 8 ?_;refine bD λc i=>?_
  refine A 8 ?_;exact xL (s:=(c,i64.wrap (b+1))) _ ((hX))
 ·exact B

def Ws (a:OT):List D:=[Ps a]
def Wq (ds:List D):OT:=RD (ds.getD 0 .top)
instance:Py Ws Wq:=⟨λa=>by simp[Wq,Ws]⟩
def AjM (b:(List Int)×OT):D:=.sl (b.1.map Le)
def AjL (b:(List Int)×OT):List D:=[Ps b.2]
def Th:Dw.Spec:=OY [(0,(8,201))] (.row 1 3) Ws Wq (λa=>RP a) AjM AjL
theorem Us:OW Tryz.prog 184 Th:=by
 refine fn2 1 (OZ (l:=[(204,Ass)]) (by simp[AxH])) Tryz.func184<|?_
 intro b;unfold RP;refine A 18 ?_;refine lP (E:=λ(s:(List Int)×Int) (g:Nat)=>[(3,.osl 3 g 0 s.1.length),(6,.optr 8192 0 0 0),(7,Av s.2)]) (O:=λs g=>[(3,dW g 1 3 (s.1.map Le)),(8192,dV 0 8 201 (Ps b))]) (body:=λs=>XJ b s.1 s.2) (s:=(([]:List Int),0)) _ ((hX))<|?_
 rintro⟨f,a⟩ k nn
 try dsimp only
 unfold XJ;refine A 6 ?_;refine cD r ?_ ?_
 ·refine A 8 ?_;refine cK λhq=>TT r r r hq<|bD λc h=>XD (q:=c) (l:=b.toList) (en:=Acd) (j:=a.toNat) (by simp) r r r h r (λ_=>r)<|?_
  refine A 5 ?_;refine lP (E:=λ(s:(List Int)×Int) (g:Nat)=>[(3,.osl 3 g 0 s.1.length),(4,Av a),(5,AkM s.2),(6,.optr 8192 0 0 0),(7,Av a)]) (O:=λs g=>[(3,dW g 1 3 (s.1.map Le)),(8192,dV 0 8 201 (Ps b))]) (body:=λs=>XK a s.1 s.2) (s:=(f,c)) _ ((hX))<|?_
  rintro⟨d,e⟩ m nn
  try dsimp only
  unfold XK;refine A 7 ?_;refine cD r ?_ ?_
  ·refine A 9 ?_;refine bD λi o=>?_
   refine A 15 ?_;exact xL (s:=(d++([i64.wrap ((i64.wrap (64*a))+i)]:List Int),u64.wrap ((aA u64.bits e &&& aA u64.bits (u64.wrap (e-1))).toNat))) _ ((hX))
  ·refine A 10 ?_;exact xL (s:=(d,i64.wrap (a+1))) _ ((hX))
 ·exact B

def Qx (a:(List Int)×Int):List D:=[.sl (a.1.map Le),Av a.2]
def Qw (ds:List D):(List Int)×Int:=((uL uI) (ds.getD 0 .top),uI (ds.getD 1 .top))
instance:Py Qx Qw:=⟨λa=>by simp[Qw,Qx,uI,Qb (u:=uI) (en:=Le) (λ_=>rfl)]⟩
def AiO:Dw.Spec:=OY [] .val Qx Qw (λa=>WE a.1 a.2) PK noE
theorem AnT:OW Tryz.prog 185 AiO:=by
 refine fn2 2 (OZ (l:=[(181,US),(203,Zc),(184,Th)]) (by simp[VH,AdS,Us])) Tryz.func185<|?_
 intro a;unfold WE;exact B

def AgV:Dw.Spec:=OY [] (.row 1 3) Ry Rx (λa=>XS a) PK noE
theorem AjS:OW Tryz.prog 152 AgV:=by
 refine fn2 1 (Pp) Tryz.func152<|?_;intro a;unfold XS;exact B

def Ajq:Dw.Spec:=OY [] (.row 1 3) SF SE (λa=>AaI a) PK noE
theorem AlX:OW Tryz.prog 153 Ajq:=by
 refine fn2 1 (OZ (l:=[(181,US),(184,Th)]) (by simp[VH,Us])) Tryz.func153<|?_
 intro a;unfold AaI;exact B

def WV (a:Int×Int):List D:=[AkM a.1,AkM a.2]
def WU (ds:List D):Int×Int:=(uI (ds.getD 0 .top),uI (ds.getD 1 .top))
instance:Py WV WU:=⟨λa=>by simp[WU,WV,uI]⟩
def AhW (b:Int):D:=AkM b
def AhX:Dw.Spec:=OY [] .ground WV WU (λa=>Yq a.1 a.2) AhW noE
theorem Anj:OW Tryz.prog 183 AhX:=by
 refine fn2 2 (Pp) Tryz.func183<|?_;intro a;unfold Yq;exact B

def Ty (a:OT×OT):List D:=[Ps a.1,Ps a.2,.clo 183 []]
def Tx (ds:List D):OT×OT:=(RD (ds.getD 0 .top),RD (ds.getD 1 .top))
instance:Py Ty Tx:=⟨λa=>by simp[Tx,Ty]⟩
def XX (b:OT×OT×OT):D:=Ps b.1
def Afj (b:OT×OT×OT):List D:=[Ps b.2.1,Ps b.2.2]
def TY:Dw.Spec:=OY [(0,(8,201)),(1,(8,201))] (.ptr 8 201) Ty Tx (λa=>SJ a.1 a.2) XX Afj
theorem Aen:OW Tryz.prog 182 TY:=by
 refine fn2 3 (OZ (l:=[(183,AhX)]) (by simp[Anj])) Tryz.func182<|?_
 rintro⟨d,e⟩;unfold SJ;refine A 19 ?_;refine lP (E:=λ(s:OT×Int) (g:Nat)=>[(0,.optr 8192 0 0 0),(1,.optr 8193 1 0 0),(2,.clo 183 []),(7,.optr 10 g 0 0),(11,Av s.2)]) (O:=λs g=>[(10,dV g 8 201 (Ps s.1)),(8192,dV 0 8 201 (Ps d)),(8193,dV 1 8 201 (Ps e))]) (body:=λs=>Re d e s.1 s.2) (s:=((OT.mk 0 0 0 0 0 0 0 0),0)) _ ((hX))<|?_
 rintro⟨b,a⟩ p nn
 try dsimp only
 unfold Re;refine A 6 ?_;refine cD r ?_ ?_
 ·refine A 17 ?_;refine cK λhq=>TT r r r hq<|bD λf h=>XD (q:=f) (l:=d.toList) (en:=Acd) (j:=a.toNat) (by simp) r r r h r (λ_=>r)<|?_
  refine A 3 ?_;refine cK λhq=>TT r r r hq<|bD λi k=>XD (q:=i) (l:=e.toList) (en:=Acd) (j:=a.toNat) (by simp) r r r k r (λ_=>r)<|bD λc t=>?_
  refine A 2 ?_;refine cK λhq=>TT r r r hq<|bD λm o=>Apm (q:=m) (q':=c) (l:=b.toList) (en:=Acd) (j:=a.toNat) (z':=Ps (b.set a.toNat c)) (by simp) r r r r r o r r (congrArg (λl=>D.agg (l.map Acd)) (Ss b a.toNat c).symm)<|?_
  refine A 7 ?_;exact xL (s:=((b.set a.toNat c),i64.wrap (a+1))) _ ((hX))
 ·exact B

def RY (a:(List Int)×(List Int)):List D:=[.sl (a.1.map Le),.sl (a.2.map Le)]
def RX (ds:List D):(List Int)×(List Int):=((uL uI) (ds.getD 0 .top),(uL uI) (ds.getD 1 .top))
instance:Py RY RX:=⟨λa=>by simp[RX,RY,Qb (u:=uI) (en:=Le) (λ_=>rfl)]⟩
def Yr:Dw.Spec:=OY [] .val RY RX (λa=>TG a.1 a.2) PK noE
theorem Aek:OW Tryz.prog 139 Yr:=by
 refine fn2 2 (OZ (l:=[(181,US),(753846,TY),(184,Th)]) (by simp[VH,Aen,Us])) Tryz.func139<|?_
 rintro⟨d,e⟩;unfold TG;refine A 8 ?_;refine bD λa f=>?_
 refine A 2 ?_;refine bD λb g=>?_
 refine A 1 ?_;refine bD λh c=>cP (a,b) rfl rfl (show _=some TY from by kernel_rfl) Py.ok rfl rfl (by simp) r c<|?_
 exact B

def WJ (a:OP×(List Int)):List D:=[Ph a.1,.sl (a.2.map Le)]
def WI (ds:List D):OP×(List Int):=(Afh (ds.getD 0 .top),(uL uI) (ds.getD 1 .top))
instance:Py WJ WI:=⟨λa=>by simp[WI,WJ,Qb (u:=uI) (en:=Le) (λ_=>rfl)]⟩
def Agm:Dw.Spec:=OY [] .val WJ WI (λa=>AdZ a.1 a.2) PK noE
theorem Amn:OW Tryz.prog 140 Agm:=by
 refine fn2 2 (OZ (l:=[(143,Tf),(185,AiO),(152,AgV),(153,Ajq),(139,Yr)]) (by simp[TR,AnT,AjS,AlX,Aek])) Tryz.func140<|?_
 intro a;unfold AdZ;exact B

def AcJ:Dw.Spec:=OY [] .ground RY RX (λa=>TN a.1 a.2) Pe noE
theorem AiM:OW Tryz.prog 103 AcJ:=by
 refine fn2 2 (Pp) Tryz.func103<|?_;rintro⟨a,b⟩;unfold TN;refine A 15 ?_;refine cD r ?_ ?_
 ·exact B
 ·refine A 11 ?_;refine lP (E:=λ(s:Int) (_g:Unit)=>[(0,.sl (a.map Le)),(1,.sl (b.map Le)),(12,Av (a.length:Int)),(13,Av s)]) (O:=λ_ _=>[]) (body:=λs=>Ub a b s) (s:=0) () ((hX))<|?_
  rintro c ⟨⟩ nn
  try dsimp only
  unfold Ub;refine A 6 ?_;refine cD r ?_ ?_
  ·refine A 14 ?_;refine bD λd e=>?_
   refine A 4 ?_;refine bD λf g=>?_
   refine A 5 ?_;refine cD r ?_ ?_
   ·exact B
   ·refine A 7 ?_;exact xL (s:=i64.wrap (c+1)) () ((hX))
  ·exact B

def AqO:Qi:=(Tryz.f100.body.bind (PY Tryz.prog Tryz.f100.ntmps)).getD .skip
theorem AwB:(Tryz.f100.body.bind (PY Tryz.prog Tryz.f100.ntmps))=some AqO:=by kernel_rfl
theorem AwC:Tryz.f100.results.toList.mapM (Ug Tryz.prog)=some []:=by kernel_rfl

def AtB:Qi:=(Tryz.f101.body.bind (PY Tryz.prog Tryz.f101.ntmps)).getD .skip
theorem AwD:(Tryz.f101.body.bind (PY Tryz.prog Tryz.f101.ntmps))=some AtB:=by kernel_rfl
theorem AwE:Tryz.f101.results.toList.mapM (Ug Tryz.prog)=some [(.t 2)]:=by kernel_rfl

def AtC:Qi:=(Tryz.f102.body.bind (PY Tryz.prog Tryz.f102.ntmps)).getD .skip
theorem AwF:(Tryz.f102.body.bind (PY Tryz.prog Tryz.f102.ntmps))=some AtC:=by kernel_rfl
theorem AwG:Tryz.f102.results.toList.mapM (Ug Tryz.prog)=some [(.t 6)]:=by kernel_rfl

end
end Go.Proofs.YtilmapojncgflaaGreatDoor
