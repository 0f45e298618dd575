/-
  Programs on typed data, and the proofs that the code does what they say; written by a program (dx.py).
-/
import Derived.Test.YtilmapojncgflaaGreatDoorProg
import Derived.Test.YtilmapojncgflaaGreatDoorDd
import Derived.KernelRfl
import Derived.Test.YtilmapojncgflaaGreatDoorSh
import Derived.Test.YtilmapojncgflaaGreatDoorCl
import Derived.Test.YtilmapojncgflaaGreatDoorDxP
import Derived.Test.YtilmapojncgflaaGreatDoorDxF1
import Derived.Test.YtilmapojncgflaaGreatDoorDxF2
import Derived.Test.YtilmapojncgflaaGreatDoorDxF3
open List renaming replicate->aA
namespace Go.Proofs.YtilmapojncgflaaGreatDoor
open Go Go.Dw Go.Proofs
open Go.IntKind (i64)
set_option maxRecDepth 100000
set_option maxHeartbeats 40000000
open Go.Dw renaming Ra -> bD,Qe -> cK,Abn -> bS,Abo -> cV,TC -> sE,ZR -> iO,ZS -> cD,AbR -> xC,XW -> xL,YX -> hE,AbS -> lP,XE -> sC,Akr -> mF,rf -> r
noncomputable section
def XI (a:OT×Int):List D:=[Ps a.1,Av a.2]
def XH (ds:List D):OT×Int:=(RD (ds.getD 0 .top),uI (ds.getD 1 .top))
instance:Py XI XH:=⟨λa=>by simp[XH,XI,uI]⟩
def Akz (b:Bool×OT):D:=.bool b.1
def Aky (b:Bool×OT):List D:=[Ps b.2]
def Ael:Dw.Spec:=OY [(0,(8,201))] .val XI XH (λa=>UA a.1 a.2) Akz Aky
theorem AjK:OW Tryz.prog 190 Ael:=by
 refine fn2 2 (OZ (l:=[(193,Wb)]) (by simp[Zd])) Tryz.func190<|?_
 rintro⟨a,b⟩;unfold UA;refine A 8 ?_;refine bD λe f=>?_
 refine A 2 ?_;refine Pj r ?_ ?_
 ·refine A 4 ?_;refine cK λhq=>TT r r r hq<|bD λc d=>XD (q:=c) (l:=a.toList) (en:=Acd) (j:=(i64.wrap (b.tdiv 64)).toNat) (by simp) r r r d r (λ_=>r)<|?_
  exact B
 ·exact B

def AlW:Dw.Spec:=OY [] .ground Qx Qw (λa=>Aej a.1 a.2) Pe noE
theorem Aqp:OW Tryz.prog 149 AlW:=by
 refine fn2 2 (OZ (l:=[(181,US),(190,Ael)]) (by simp[VH,AjK])) Tryz.func149<|?_
 intro a;unfold Aej;exact B

def Aid:Dw.Spec:=OY [] (.row 1 3) PQ PO (λa=>Abu a.1 a.2) PK noE
theorem Anm:OW Tryz.prog 111 Aid:=by
 refine fn2 2 (OZ (l:=[(143,Tf),(149,AlW)]) (by simp[TR,Aqp])) Tryz.func111<|?_
 rintro⟨b,d⟩;unfold Abu;refine A 22 ?_;refine lP (E:=λ(s:(List Int)×Int) (g:Nat×Nat)=>[(3,.optr 3 g.1 0 0),(5,.osl 5 g.2 0 s.1.length),(11,.sl (b.Code.map Ph)),(12,Av (b.Code.length:Int)),(13,Av s.2)]) (O:=λs g=>[(3,dV g.1 1 40 (.agg [.sl (d.Out.map (eL Le))])),(5,dW g.2 1 3 (s.1.map Le))]) (body:=λs=>AbZ b d s.1 s.2) (s:=(([]:List Int),0)) (_,_) ((hX))<|?_
 rintro⟨c,a⟩ ⟨e,f⟩ nn
 try dsimp only
 unfold AbZ;refine A 6 ?_;refine cD r ?_ ?_
 ·refine A 7 ?_;refine bD λh i=>?_
  refine A 10 ?_;refine bD λj k=>?_
  refine A 12 ?_;refine Pj r ?_ ?_
  ·refine A 3 ?_;refine bD λm o=>?_
   refine A 3 ?_;refine bD λp q=>?_
   refine A 5 ?_;refine cD r ?_ ?_
   ·refine A 13 ?_;exact xL (s:=(c++([a]:List Int),i64.wrap (a+1))) (_,_) ((hX))
   ·refine A 7 ?_;exact xL (s:=(c,i64.wrap (a+1))) (_,_) ((hX))
  ·refine A 19 ?_;exact xL (s:=(c,i64.wrap (a+1))) (_,_) ((hX))
 ·exact B

def Xc (a:Mk×Pg×(List Int)):List D:=[Pf a.1,Uu a.2.1,.sl (a.2.2.map Le)]
def Xb (ds:List D):Mk×Pg×(List Int):=(Td (ds.getD 0 .top),Zs (ds.getD 1 .top),(uL uI) (ds.getD 2 .top))
instance:Py Xc Xb:=⟨λa=>by simp[Xb,Xc,Qb (u:=uI) (en:=Le) (λ_=>rfl)]⟩
def Aie (b:(List Bool)):D:=.sl (b.map D.bool)
def Aif:Dw.Spec:=OY [] (.row 1 4) Xc Xb (λa=>Yx a.1 a.2.1 a.2.2) Aie noE
theorem Ann:OW Tryz.prog 63 Aif:=by
 refine fn2 3 (OZ (l:=[(111,Aid)]) (by simp[Anm])) Tryz.func63<|?_
 rintro⟨b,i,c⟩;unfold Yx;refine A 20 ?_;refine bD λa j=>?_
 refine A 17 ?_;refine lP (E:=λ(s:(List Bool)×Int) (g:Nat×Nat)=>[(2,.sl (c.map Le)),(7,.osl 7 g.1 0 s.1.length),(8,.osl 8 g.2 0 a.length),(21,.sl (b.Code.map Ph)),(22,Av (b.Code.length:Int)),(23,Av s.2)]) (O:=λs g=>[(7,dW g.1 1 4 (s.1.map D.bool)),(8,dW g.2 1 3 (a.map Le))]) (body:=λs=>Aca b a c s.1 s.2) (s:=(aA (b.Code.length:Int).toNat false,0)) (_,_) ((hX))<|?_
 rintro⟨d,e⟩ ⟨k,m⟩ nn
 try dsimp only
 unfold Aca;refine A 6 ?_;refine cD r ?_ ?_
 ·refine A 7 ?_;refine bD λf o=>?_
  refine A 16 ?_;refine lP (E:=λ(s:Int) (g:Nat×Nat×Nat)=>[(2,.sl (c.map Le)),(7,.osl 7 g.1 0 d.length),(8,.osl 8 g.2.1 0 a.length),(9,Av e),(10,.optr 10 g.2.2 0 0),(21,.sl (b.Code.map Ph)),(22,Av (b.Code.length:Int)),(23,Av e),(28,.osl 8 g.2.1 0 a.length),(29,Av (a.length:Int)),(30,Av s)]) (O:=λ_ g=>[(7,dW g.1 1 4 (d.map D.bool)),(8,dW g.2.1 1 3 (a.map Le)),(10,dV g.2.2 5 63 (Ph f))]) (body:=λs=>Yh a e d f c s) (s:=0) (_,_,_) ((hX))<|?_
  rintro h ⟨p,q,t⟩ nn
  try dsimp only
  unfold Yh;refine A 6 ?_;refine cD r ?_ ?_
  ·refine A 7 ?_;refine bD λu v=>?_
   refine A 11 ?_;refine cD r ?_ ?_
   ·refine A 12 ?_;exact xL (s:=(d,i64.wrap (e+1))) (_,_) ((hX))
   ·refine A 7 ?_;exact xL (s:=i64.wrap (h+1)) (_,_,_) ((hX))
  ·exact B
 ·exact B

def WY (a:Mk×(List Int)):List D:=[Pf a.1,.sl (a.2.map Le)]
def WX (ds:List D):Mk×(List Int):=(Td (ds.getD 0 .top),(uL uI) (ds.getD 1 .top))
instance:Py WY WX:=⟨λa=>by simp[WX,WY,Qb (u:=uI) (en:=Le) (λ_=>rfl)]⟩
def Aib:Dw.Spec:=OY [] .ground WY WX (λa=>Yu a.1 a.2) Pe noE
theorem Ank:OW Tryz.prog 150 Aib:=by
 refine fn2 2 (Pp) Tryz.func150<|?_;rintro⟨b,a⟩;unfold Yu;refine A 17 ?_;refine cD r ?_ ?_
 ·exact B
 ·refine A 11 ?_;refine lP (E:=λ(s:Int) (g:Nat)=>[(1,.sl (a.map Le)),(2,.optr 2 g 0 0),(13,.sl (a.map Le)),(14,Av (a.length:Int)),(15,Av s)]) (O:=λ_ g=>[(2,dV g 3 36 (Pf b))]) (body:=λs=>Yd a b s) (s:=0) _ ((hX))<|?_
  rintro c d nn
  try dsimp only
  unfold Yd;refine A 6 ?_;refine cD r ?_ ?_
  ·refine A 7 ?_;refine bD λe f=>?_
   refine A 11 ?_;refine Pj r ?_ ?_
   ·exact B
   ·refine A 6 ?_;refine Pj r ?_ ?_
    ·exact B
    ·refine A 3 ?_;refine bD λh i=>?_
     refine A 6 ?_;refine bD λj k=>?_
     refine A 6 ?_;refine Pj r ?_ ?_
     ·exact B
     ·refine A 2 ?_;refine bD λl m=>?_
      refine A 7 ?_;refine cD r ?_ ?_
      ·exact B
      ·refine A 7 ?_;exact xL (s:=i64.wrap (c+1)) _ ((hX))
  ·exact B

def AgF:Dw.Spec:=OY [] .ground Ry Rx (λa=>Zk a) Pe noE
theorem AlP:OW Tryz.prog 151 AgF:=by
 refine fn2 1 (OZ (l:=[(143,Tf)]) (by simp[TR])) Tryz.func151<|?_
 intro a;unfold Zk;exact B

def RN (a:Mk×Pl):List D:=[Pf a.1,AhJ a.2]
def RM (ds:List D):Mk×Pl:=(Td (ds.getD 0 .top),AhP (ds.getD 1 .top))
instance:Py RN RM:=⟨λa=>by simp[RM,RN]⟩
def Ajj:Dw.Spec:=OY [] .ground RN RM (λa=>Adg a.1 a.2) Pb noE
theorem Aoy:OW Tryz.prog 112 Ajj:=by
 refine fn2 2 (OZ (l:=[(150,Aib),(151,AgF)]) (by simp[Ank,AlP])) Tryz.func112<|?_
 rintro⟨b,a⟩;unfold Adg;refine A 7 ?_;refine sC (E:=λ(_s:Unit) (g:Nat×Nat)=>[(2,.optr 2 g.1 0 0),(3,.optr 3 g.2 0 0)]) (O:=λ_ g=>[(2,dV g.1 3 36 (Pf b)),(3,dV g.2 2 44 (.agg [.sl (a.To.map Le),.sl (a.Keep.map D.bool)]))]) (j:=λ_=>AdL b a) ?_ ?_
 ·refine A 5 ?_;refine bD λd e=>?_
  refine A 3 ?_;refine Pj r ?_ ?_
  ·exact B
  ·refine A 10 ?_;refine cD r ?_ ?_
   ·exact B
   ·refine A 1 ?_;exact xC (s:=()) (_,_) ((hX))
 ·rintro⟨⟩ ⟨f,h⟩ nn
  try dsimp only
  unfold AdL;refine A 10 ?_;refine lP (E:=λ(s:Int) (g:Nat)=>[(3,.optr 3 g 0 0),(22,.sl (b.Code.map Ph)),(23,Av (b.Code.length:Int)),(24,Av s)]) (O:=λ_ g=>[(3,dV g 2 44 (.agg [.sl (a.To.map Le),.sl (a.Keep.map D.bool)]))]) (body:=λs=>AdK b a s) (s:=0) _ ((hX))<|?_
  rintro c i nn
  try dsimp only
  unfold AdK;refine A 6 ?_;refine cD r ?_ ?_
  ·refine A 7 ?_;refine bD λk m=>?_
   refine A 12 ?_;refine bD λo p=>?_
   refine A 4 ?_;refine Pj r ?_ ?_
   ·refine A 1 ?_;refine bD λq t=>?_
    refine A 5 ?_;refine cD r ?_ ?_
    ·exact B
    ·refine A 7 ?_;exact xL (s:=i64.wrap (c+1)) _ ((hX))
   ·refine A 14 ?_;exact xL (s:=i64.wrap (c+1)) _ ((hX))
  ·exact B

def Wy (a:Int×(List Int)):List D:=[Av a.1,.fptr (.sl (a.2.map Le)) 0]
def Wx (ds:List D):Int×(List Int):=(uI (ds.getD 0 .top),(uL uI) (fpD (ds.getD 1 .top)))
instance:Py Wy Wx:=⟨λa=>by simp[Wx,Wy,uI,fpD,Qb (u:=uI) (en:=Le) (λ_=>rfl)]⟩
def Aea:Dw.Spec:=OY [] .ground Wy Wx (λa=>Rq a.1 a.2) Pb noE
theorem AjA:OW Tryz.prog 191 Aea:=by
 refine fn2 2 (Pp) Tryz.func191<|?_;intro a;unfold Rq;exact B

def Aij (b:OP):D:=Ph b
def Aik:Dw.Spec:=OY [] .ground WJ WI (λa=>Yz a.1 a.2) Aij noE
theorem Anz:OW Tryz.prog 154 Aik:=by
 refine fn2 2 (OZ (l:=[(191,Aea)]) (by simp[AjA])) Tryz.func154<|?_
 rintro⟨b,a⟩;unfold Yz;refine A 6 ?_;refine Qg (E:=[(2,.optr 2 _ 0 0),(3,.fptr (.sl (a.map Le)) 0),(4,.optr 4 _ 0 0)]) (O:=[(2,dV _ 5 63 (Ph b)),(4,dV _ 5 63 (.agg [Av 0,Av 0,Av 0,Av 0,AkM 0]))]) ((hV 3 r (hY))) λnn=>?_
 refine A 2 ?_;refine mF (caps:=[.fptr (.sl (a.map Le)) 0]) r r (by simp[VF])<|?_
 exact B

def AdN (a:Mk×Pl×(List Int)):List D:=[Pf a.1,AhJ a.2.1,.sl (a.2.2.map Le)]
def AdM (ds:List D):Mk×Pl×(List Int):=(Td (ds.getD 0 .top),AhP (ds.getD 1 .top),(uL uI) (ds.getD 2 .top))
instance:Py AdN AdM:=⟨λa=>by simp[AdM,AdN,Qb (u:=uI) (en:=Le) (λ_=>rfl)]⟩
def ApS (b:(List OP)):D:=.sl (b.map Ph)
def Agf:Dw.Spec:=OY [] (.row 5 63) AdN AdM (λa=>YT a.1 a.2.1 a.2.2) ApS noE
theorem Ajk:OW Tryz.prog 118 Agf:=by
 refine fn2 3 (OZ (l:=[(154,Aik)]) (by simp[Anz])) Tryz.func118<|?_
 rintro⟨a,b,d⟩;unfold YT;refine A 22 ?_;refine lP (E:=λ(s:(List OP)×Int) (g:Nat×Nat)=>[(2,.sl (d.map Le)),(4,.optr 4 g.1 0 0),(7,.osl 7 g.2 0 s.1.length),(11,.sl (a.Code.map Ph)),(12,Av (a.Code.length:Int)),(13,Av s.2)]) (O:=λs g=>[(4,dV g.1 2 44 (.agg [.sl (b.To.map Le),.sl (b.Keep.map D.bool)])),(7,dW g.2 5 63 (s.1.map Ph))]) (body:=λs=>Afd a b d s.1 s.2) (s:=(([]:List OP),0)) (_,_) ((hX))<|?_
 rintro⟨c,e⟩ ⟨k,m⟩ nn
 try dsimp only
 unfold Afd;refine A 6 ?_;refine cD r ?_ ?_
 ·refine A 7 ?_;refine bD λf o=>?_
  refine A 7 ?_;refine sC (E:=λ(s:Bool) (g:Nat×Nat×Nat)=>[(2,.sl (d.map Le)),(4,.optr 4 g.1 0 0),(7,.osl 7 g.2.1 0 c.length),(9,.optr 9 g.2.2 0 0),(11,.sl (a.Code.map Ph)),(12,Av (a.Code.length:Int)),(13,Av e),(29,.bool s)]) (O:=λ_ g=>[(4,dV g.1 2 44 (.agg [.sl (b.To.map Le),.sl (b.Keep.map D.bool)])),(7,dW g.2.1 5 63 (c.map Ph)),(9,dV g.2.2 5 63 (Ph f))]) (j:=λs=>XB f d c e s) ?_ ?_
  ·refine A 7 ?_;refine Pj r ?_ ?_
   ·refine A 3 ?_;refine bD λi p=>?_
    refine A 4 ?_;exact xC (s:=i) (_,_,_) ((hX))
   ·refine A 7 ?_;exact xC (s:=false) (_,_,_) ((hX))
  ·rintro q ⟨t,u,v⟩ nn
   try dsimp only
   unfold XB;refine cD r ?_ ?_
   ·refine A 4 ?_;refine bD λh w=>?_
    refine A 1 ?_;refine bS ([h]:List OP) Ph r r r (by simp) r r r<|?_
    refine A 9 ?_;exact xL (s:=(c++([h]:List OP),i64.wrap (e+1))) (_,_) ((hX))
   ·refine A 7 ?_;exact xL (s:=(c,i64.wrap (e+1))) (_,_) ((hX))
 ·exact B

def Akp:Dw.Spec:=OY [] (.row 1 3) RN RM (λa=>Abj a.1 a.2) PK noE
theorem Aph:OW Tryz.prog 113 Akp:=by
 refine fn2 2 (OZ (l:=[(118,Agf),(152,AgV),(143,Tf),(153,Ajq)]) (by simp[Ajk,AjS,TR,AlX])) Tryz.func113<|?_
 rintro⟨f,h⟩;unfold Abj;refine A 19 ?_;refine bD λa i=>?_
 refine A 6 ?_;refine lP (E:=λ(s:(List Int)×Int) (g:Nat×Nat)=>[(5,.osl 5 g.1 0 s.1.length),(14,.osl 14 g.2 0 a.length),(15,Av (a.length:Int)),(16,Av s.2)]) (O:=λs g=>[(5,dW g.1 1 3 (s.1.map Le)),(14,dW g.2 5 63 (a.map Ph))]) (body:=λs=>Afc a s.1 s.2) (s:=(([]:List Int),0)) (_,_) ((hX))<|?_
 rintro⟨b,c⟩ ⟨j,k⟩ nn
 try dsimp only
 unfold Afc;refine A 6 ?_;refine cD r ?_ ?_
 ·refine A 7 ?_;refine bD λm o=>?_
  refine A 9 ?_;refine bD λd p=>?_
  refine A 8 ?_;refine bD λe q=>?_
  refine A 13 ?_;refine cD r ?_ ?_
  ·refine A 13 ?_;exact xL (s:=((b++d)++([e.1]:List Int),i64.wrap (c+1))) (_,_) ((hX))
  ·refine A 7 ?_;exact xL (s:=(b++d,i64.wrap (c+1))) (_,_) ((hX))
 ·exact B

def AgB:Dw.Spec:=OY [] (.row 1 3) Qx Qw (λa=>Zf a.1 a.2) PK noE
theorem AlM:OW Tryz.prog 114 AgB:=by
 refine fn2 2 (Pp) Tryz.func114<|?_;rintro⟨a,c⟩;unfold Zf;refine A 19 ?_;refine lP (E:=λ(s:(List Int)×Int) (g:Nat)=>[(1,Av c),(5,.osl 5 g 0 s.1.length),(8,.sl (a.map Le)),(9,Av (a.length:Int)),(10,Av s.2)]) (O:=λs g=>[(5,dW g 1 3 (s.1.map Le))]) (body:=λs=>ZZ a c s.1 s.2) (s:=(([]:List Int),0)) _ ((hX))<|?_
 rintro⟨d,b⟩ e nn
 try dsimp only
 unfold ZZ;refine A 6 ?_;refine cD r ?_ ?_
 ·refine A 7 ?_;refine bD λf h=>?_
  refine A 13 ?_;refine cD r ?_ ?_
  ·refine A 13 ?_;exact xL (s:=(d++([b]:List Int),i64.wrap (b+1))) _ ((hX))
  ·refine A 7 ?_;exact xL (s:=(d,i64.wrap (b+1))) _ ((hX))
 ·exact B

def XV:Dw.Spec:=OY [] .ground Qx Qw (λa=>SB a.1 a.2) Pb noE
theorem AbV:OW Tryz.prog 116 XV:=by
 refine fn2 2 (Pp) Tryz.func116<|?_;rintro⟨a,b⟩;unfold SB;refine A 14 ?_;refine lP (E:=λ(s:Int) (_g:Unit)=>[(0,.sl (a.map Le)),(1,Av b),(7,Av (a.length:Int)),(8,Av s)]) (O:=λ_ _=>[]) (body:=λs=>SD a b s) (s:=0) () ((hX))<|?_
 rintro c ⟨⟩ nn
 try dsimp only
 unfold SD;refine A 6 ?_;refine cD r ?_ ?_
 ·refine A 15 ?_;refine bD λd e=>?_
  refine A 5 ?_;refine cD r ?_ ?_
  ·exact B
  ·refine A 7 ?_;exact xL (s:=i64.wrap (c+1)) () ((hX))
 ·exact B

def XA (a:Pl):List D:=[AhJ a]
def Xz (ds:List D):Pl:=AhP (ds.getD 0 .top)
instance:Py XA Xz:=⟨λa=>by simp[Xz,XA]⟩
def AiG:Dw.Spec:=OY [] (.row 1 3) XA Xz (λa=>AbO a) PK noE
theorem AnC:OW Tryz.prog 117 AiG:=by
 refine fn2 1 (Pp) Tryz.func117<|?_;intro b;unfold AbO;refine A 26 ?_;refine lP (E:=λ(s:(List Int)×Int×Int) (g:Nat)=>[(3,.osl 3 g 0 s.1.length),(4,Av s.2.2),(8,.sl (b.Keep.map D.bool)),(9,Av (b.Keep.length:Int)),(10,Av s.2.1)]) (O:=λs g=>[(3,dW g 1 3 (s.1.map Le))]) (body:=λs=>Acu b s.1 s.2.1 s.2.2) (s:=(([]:List Int),0,0)) _ ((hX))<|?_
 rintro⟨c,d,a⟩ e nn
 try dsimp only
 unfold Acu;refine A 6 ?_;refine cD r ?_ ?_
 ·refine A 6 ?_;refine bD λf h=>?_
  refine A 19 ?_;refine cD r ?_ ?_
  ·refine A 11 ?_;exact xL (s:=(c++([a]:List Int),i64.wrap (d+1),i64.wrap (a+1))) _ ((hX))
  ·refine A 7 ?_;exact xL (s:=(c++([a]:List Int),i64.wrap (d+1),a)) _ ((hX))
 ·exact B

def Xy (b:Mk×Int):D:=.tup [Pf b.1,Av b.2]
def Aji:Dw.Spec:=OY [] .val RN RM (λa=>ZG a.1 a.2) Xy noE
theorem Aox:OW Tryz.prog 64 Aji:=by
 refine fn2 2 (OZ (l:=[(112,Ajj),(113,Akp),(114,AgB),(115,AnV),(116,XV),(117,AiG),(118,Agf)]) (by simp[Aoy,Aph,AlM,ApX,AbV,AnC,Ajk])) Tryz.func64<|?_
 rintro⟨a,e⟩;unfold ZG;refine A 13 ?_;refine bD λx ac=>?_
 refine A 10 ?_;refine cD r ?_ ?_
 ·refine A 10 ?_;refine Sq (b:=((Mk.mk 0 ([]) ([])),x)) r ?_ r r ?_ (by first|rfl|(simp only[Lo];rfl)|(simp only[OQ];rfl)|(simp only[Lo,OQ];rfl)|(simp[Xy,Pf];try rfl)) (by decide)
  all_goals first|(simp;done)|(simp;omega)|rfl|(simp[Qr,Qm];done)
 ·refine A 15 ?_;refine bD λc ad=>?_
  refine A 13 ?_;refine lP (E:=λ(s:(List Pa)×Int) (g:Nat×Nat×Nat×Nat×Nat×Nat×Nat)=>[(2,.optr 2 g.1 0 0),(3,.optr 3 g.2.1 0 0),(4,.optr 4 g.2.2.1 0 0),(7,.optr 7 g.2.2.2.1 0 0),(8,.osl 8 g.2.2.2.2.1 0 c.length),(33,.osl 8 g.2.2.2.2.1 0 c.length),(34,Av (c.length:Int)),(35,Av s.2)]) (O:=λs g=>[(2,dV g.1 3 36 (Pf a)),(3,dV g.2.1 2 44 (.agg [.sl (e.To.map Le),.sl (e.Keep.map D.bool)])),(4,dV g.2.2.1 3 36 (.agg [Av 0,.nils,.nils])),(7,dV g.2.2.2.1 3 36 (.agg [Av a.Params,.osl 900 g.2.2.2.2.2.1 0 s.1.length,.osl 901 g.2.2.2.2.2.2 0 (([]:List OP).length)])),(8,dW g.2.2.2.2.1 1 3 (c.map Le)),(900,dW g.2.2.2.2.2.1 2 60 (s.1.map Pm)),(901,dW g.2.2.2.2.2.2 5 63 (([]:List OP).map Ph))]) (body:=λs=>AdH c a e s.1 s.2) (s:=(([]:List Pa),0)) (_,_,_,_,_,_,_) ((Aog (gg:=7) (off:=1) (tt:=900) (s:=2) (tyy:=60) r r r r (Aog (gg:=7) (off:=2) (tt:=901) (s:=5) (tyy:=63) r r r r (hX))))<|?_
  rintro⟨d,o⟩ ⟨ae,af,ag,ah,ai,aj,ak⟩ nn
  try dsimp only
  unfold AdH;refine A 6 ?_;refine cD r ?_ ?_
  ·refine A 7 ?_;refine bD λao ap=>?_
   refine A 9 ?_;refine bD λj aq=>?_
   refine A 12 ?_;refine bD λp ar=>?_
   refine A 6 ?_;refine lP (E:=λ(s:Int×Int) (g:Nat×Nat×Nat×Nat×Nat×Nat×Nat×Nat×Nat)=>[(2,.optr 2 g.1 0 0),(3,.optr 3 g.2.1 0 0),(4,.optr 4 g.2.2.1 0 0),(7,.optr 7 g.2.2.2.1 0 0),(8,.osl 8 g.2.2.2.2.1 0 c.length),(11,.optr 11 g.2.2.2.2.2.1 0 0),(33,.osl 8 g.2.2.2.2.1 0 c.length),(34,Av (c.length:Int)),(35,Av o),(47,.osl 47 g.2.2.2.2.2.2.1 0 p.length),(48,Av (p.length:Int)),(49,Av s.2)]) (O:=λs g=>[(2,dV g.1 3 36 (Pf a)),(3,dV g.2.1 2 44 (.agg [.sl (e.To.map Le),.sl (e.Keep.map D.bool)])),(4,dV g.2.2.1 3 36 (.agg [Av 0,.nils,.nils])),(7,dV g.2.2.2.1 3 36 (.agg [Av a.Params,.osl 900 g.2.2.2.2.2.2.2.1 0 d.length,.osl 901 g.2.2.2.2.2.2.2.2 0 (([]:List OP).length)])),(8,dW g.2.2.2.2.1 1 3 (c.map Le)),(11,dV g.2.2.2.2.2.1 2 60 (.agg [Av j.Size,Av s.1])),(47,dW g.2.2.2.2.2.2.1 1 3 (p.map Le)),(900,dW g.2.2.2.2.2.2.2.1 2 60 (d.map Pm)),(901,dW g.2.2.2.2.2.2.2.2 5 63 (([]:List OP).map Ph))]) (body:=λs=>AdI p a d j o s.1 s.2) (s:=(j.Align,0)) (_,_,_,_,_,_,_,_,_) ((hX))<|?_
   rintro⟨k,y⟩ ⟨au,av,aw,ax,ay,az,ba,bb,bc⟩ nn
   try dsimp only
   unfold AdI;refine A 6 ?_;refine cD r ?_ ?_
   ·refine A 7 ?_;refine bD λbd bf=>?_
    refine A 10 ?_;refine bD λz bg=>?_
    refine A 13 ?_;exact xL (s:=(PJ k z.Align,i64.wrap (y+1))) (_,_,_,_,_,_,_,_,_) ((hX))
   ·refine A 9 ?_;refine bS ([(Pa.mk j.Size k)]:List Pa) Pm r r r (by simp) r r r<|?_
    refine A 10 ?_;exact xL (s:=(d++([(Pa.mk j.Size k)]:List Pa),i64.wrap (o+1))) (_,_,_,_,_,_,_) ((Qt (E1:=[(2,.optr 2 _ 0 0),(3,.optr 3 _ 0 0),(4,.optr 4 _ 0 0),(7,.optr 7 _ 0 0),(8,.osl 8 _ 0 c.length),(33,.osl 8 _ 0 c.length),(34,Av (c.length:Int)),(35,Av (i64.wrap (o+1)))]) (O1:=[(2,dV _ 3 36 (Pf a)),(3,dV _ 2 44 (.agg [.sl (e.To.map Le),.sl (e.Keep.map D.bool)])),(4,dV _ 3 36 (.agg [Av 0,.nils,.nils])),(7,dV _ 3 36 (.agg [Av a.Params,.osl 68 _ 0 ((d++([(Pa.mk j.Size k)]:List Pa)).length),.osl 901 _ 0 (([]:List OP).length)])),(8,dW _ 1 3 (c.map Le)),(68,dW _ 2 60 ((d++([(Pa.mk j.Size k)]:List Pa)).map Pm)),(901,dW _ 5 63 (([]:List OP).map Ph))]) (hX) (λ_=>PA (λg=>bif Nat.beq g 68 then 900 else g) (by rfl) (hX))))
  ·refine A 9 ?_;refine bD λq bh=>?_
   refine A 13 ?_;refine lP (E:=λ(s:(List Int)×Int) (g:Nat×Nat×Nat×Nat×Nat×Nat×Nat×Nat)=>[(2,.optr 2 g.1 0 0),(3,.optr 3 g.2.1 0 0),(4,.optr 4 g.2.2.1 0 0),(7,.optr 7 g.2.2.2.1 0 0),(8,.osl 8 g.2.2.2.2.1 0 c.length),(14,.osl 14 g.2.2.2.2.2.1 0 s.1.length),(74,.osl 14 g.2.2.2.2.2.1 0 s.1.length),(75,Av (q.length:Int)),(76,Av s.2)]) (O:=λs g=>[(2,dV g.1 3 36 (Pf a)),(3,dV g.2.1 2 44 (.agg [.sl (e.To.map Le),.sl (e.Keep.map D.bool)])),(4,dV g.2.2.1 3 36 (.agg [Av 0,.nils,.nils])),(7,dV g.2.2.2.1 3 36 (.agg [Av a.Params,.osl 900 g.2.2.2.2.2.2.1 0 d.length,.osl 901 g.2.2.2.2.2.2.2 0 (([]:List OP).length)])),(8,dW g.2.2.2.2.1 1 3 (c.map Le)),(14,dW g.2.2.2.2.2.1 1 3 (s.1.map Le)),(900,dW g.2.2.2.2.2.2.1 2 60 (d.map Pm)),(901,dW g.2.2.2.2.2.2.2 5 63 (([]:List OP).map Ph))]) (body:=λs=>AdJ q c e a d s.1 s.2) (s:=(q,0)) (_,_,_,_,_,_,_,_) ((hX))<|?_
   rintro⟨bi,bj⟩ ⟨bk,bl,bm,bn,bo,bp,bq,br⟩ nn
   try dsimp only
   unfold AdJ;refine A 6 ?_;refine cD r ?_ ?_
   ·exact B
   ·refine A 8 ?_;refine bD λt bs=>?_
    refine A 9 ?_;refine bD λu bt=>?_
    refine A 15 ?_;refine lP (E:=λ(s:(List OP)×Int) (g:Nat×Nat×Nat×Nat×Nat)=>[(4,.optr 4 g.1 0 0),(7,.optr 7 g.2.1 0 0),(17,.osl 17 g.2.2.1 0 t.length),(97,Av (u.length:Int)),(98,Av s.2)]) (O:=λs g=>[(4,dV g.1 3 36 (.agg [Av 0,.nils,.nils])),(7,dV g.2.1 3 36 (.agg [Av a.Params,.osl 900 g.2.2.2.2 0 d.length,.osl 93 g.2.2.2.1 0 s.1.length])),(17,dW g.2.2.1 1 3 (t.map Le)),(93,dW g.2.2.2.1 5 63 (s.1.map Ph)),(900,dW g.2.2.2.2 2 60 (d.map Pm))]) (body:=λs=>Zr u t a d s.1 s.2) (s:=(u,0)) (_,_,_,_,_) ((hX))<|?_
    rintro⟨f,m⟩ ⟨bu,bv,bw,bx,bz⟩ nn
    try dsimp only
    unfold Zr;refine A 6 ?_;refine cD r ?_ ?_
    ·refine A 24 ?_;refine bD λca cb=>?_
     refine A 10 ?_;refine cD r ?_ ?_
     ·refine A 6 ?_;refine bD λcc cd=>?_
      refine A 2 ?_;refine bD λv ce=>?_
      refine A 3 ?_;refine bD λh aa=>sE (l:=f) (en:=Ph) (q':=(OP.mk h.Op v h.B h.C h.Imm)) r r r r r r r (by simp) aa r r r r r<|?_
      refine A 8 ?_;exact xL (s:=(f.set m.toNat (OP.mk h.Op v h.B h.C h.Imm),i64.wrap (m+1))) (_,_,_,_,_) ((hE ⟨rfl,r,r,r,r,trivial⟩ ⟨rfl,(Eq.trans (b:=dV _ 3 36 (.agg [Av a.Params,.osl 900 _ 0 d.length,.osl 93 _ 0 f.length])) r (by simp)),r,r,r,trivial⟩))
     ·refine A 6 ?_;refine cD r ?_ ?_
      ·refine A 6 ?_;refine bD λcf cg=>?_
       refine A 2 ?_;refine bD λw ch=>?_
       refine A 3 ?_;refine bD λi ab=>sE (l:=f) (en:=Ph) (q':=(OP.mk i.Op i.A w i.C i.Imm)) r r r r r r r (by simp) ab r r r r r<|?_
       refine A 8 ?_;exact xL (s:=(f.set m.toNat (OP.mk i.Op i.A w i.C i.Imm),i64.wrap (m+1))) (_,_,_,_,_) ((hE ⟨rfl,r,r,r,r,trivial⟩ ⟨rfl,(Eq.trans (b:=dV _ 3 36 (.agg [Av a.Params,.osl 900 _ 0 d.length,.osl 93 _ 0 f.length])) r (by simp)),r,r,r,trivial⟩))
      ·refine A 8 ?_;exact xL (s:=(f,i64.wrap (m+1))) (_,_,_,_,_) ((hX))
    ·refine A 13 ?_;refine Sq (b:=((Mk.mk a.Params d f),0)) r ?_ r r ?_ (by first|rfl|(simp only[Lo];rfl)|(simp only[OQ];rfl)|(simp only[Lo,OQ];rfl)|(simp[Xy,Pf];try rfl)) (by decide)
     all_goals first|(simp;done)|(simp;omega)|rfl|(simp[Qr,Qm];done)

def Akb (b:PE):List D:=[Ti b]
def Aee:Dw.Spec:=OY [(0,(12,75))] .val Rj RH (λa=>Wn a) Vt Akb
theorem AjD:OW Tryz.prog 31 Aee:=by
 refine fn2 1 (OZ (l:=[(63,Aif),(64,Aji),(60,AdA)]) (by simp[Ann,Aox,Ahz])) Tryz.func31<|?_
 intro a;unfold Wn;refine A 18 ?_;refine bD λc e=>?_
 refine A 5 ?_;refine Aks (l:=c) (en:=D.bool) (z':=.agg [.sl (a.p.Funcs.map Pf),Av a.i,Av a.f.Params,.sl (a.f.Slots.map Pm),.sl (a.f.Code.map Ph),.sl (a.x.Live.Out.map (eL Le)),.sl (a.x.Rename.To.map Le),.row 1 4 (c.map D.bool),.sl (a.x.LiveAfter.Out.map (eL Le)),Av a.x.Layout.Args,Av a.x.Layout.Size,.sl (a.x.Layout.Off.map Le)]) r r r r r r (λ_=>r) r r<|?_
 refine A 1 ?_;refine Qg (E:=[(0,.optr 8192 0 0 0)]) (O:=[(8192,dV 0 12 75 (.agg [.sl (a.p.Funcs.map Pf),Av a.i,Av a.f.Params,.sl (a.f.Slots.map Pm),.sl (a.f.Code.map Ph),.sl (a.x.Live.Out.map (eL Le)),.sl (a.x.Rename.To.map Le),.sl (c.map D.bool),.sl (a.x.LiveAfter.Out.map (eL Le)),Av a.x.Layout.Args,Av a.x.Layout.Size,.sl (a.x.Layout.Off.map Le)]))]) ((Aeb (g:=8192) r (Atb (by repeat' first|exact FrL.nil|apply FrL.row (Abf λ_=>rfl)|apply FrL.same)) (hX))) λnn=>?_
 refine A 12 ?_;refine bD λb h=>?_
 refine A 6 ?_;refine TD (i:=0) (es':=[.agg [.sl (a.p.Funcs.map Pf),Av a.i,Av b.1.Params,.sl (b.1.Slots.map Pm),.sl (b.1.Code.map Ph),.sl (a.x.Live.Out.map (eL Le)),.sl (a.x.Rename.To.map Le),.sl (c.map D.bool),.sl (a.x.LiveAfter.Out.map (eL Le)),Av a.x.Layout.Args,Av a.x.Layout.Size,.sl (a.x.Layout.Off.map Le)]]) r r r r r r r (by first|trivial|(simp;done)|(simp;omega)) r r r r r r<|?_
 refine A 8 ?_;refine bD λd j=>?_
 refine A 4 ?_;refine TD (i:=0) (es':=[.agg [.sl (a.p.Funcs.map Pf),Av a.i,Av b.1.Params,.sl (b.1.Slots.map Pm),.sl (b.1.Code.map Ph),.sl (a.x.Live.Out.map (eL Le)),.sl (a.x.Rename.To.map Le),.sl (c.map D.bool),.sl (d.Out.map (eL Le)),Av a.x.Layout.Args,Av a.x.Layout.Size,.sl (a.x.Layout.Off.map Le)]]) r r r r r r r (by first|trivial|(simp;done)|(simp;omega)) r r r r r r<|?_
 exact B

def Vj (a:Pk×Int×Mk):List D:=[XR a.1,Av a.2.1,Pf a.2.2]
def Vi (ds:List D):Pk×Int×Mk:=(Agi (ds.getD 0 .top),uI (ds.getD 1 .top),Td (ds.getD 2 .top))
instance:Py Vj Vi:=⟨λa=>by simp[Vi,Vj,uI]⟩
def Xn (b:Pk):D:=XR b
def AiZ:Dw.Spec:=OY [] .val Vj Vi (λa=>Zv a.1 a.2.1 a.2.2) Xn noE
theorem Aoo:OW Tryz.prog 12 AiZ:=by
 refine fn2 3 (OZ (l:=[(27,Aro)]) (by simp[Auq])) Tryz.func12<|?_
 rintro⟨f,d,c⟩;unfold Zv;refine A 11 ?_;refine bD λa g=>?_
 refine A 12 ?_;refine cK λhq=>iO (l:=a) (en:=Pf) r r r r r hq<|bD λh e=>sE (l:=a) (en:=Pf) (q':=c) r r r r r r r (by simp) e r r r r r<|?_
 refine A 9 ?_;refine Aeg (b:=(Pk.mk (a.set d.toNat c))) r ?_ r r ?_ (by first|rfl|(simp only;rfl)|(simp only;rfl)|(simp only;rfl)|(simp[Xn,XR];try rfl))
 all_goals first|(simp;done)|(simp;omega)|rfl|(simp[Qr,Qm];done)

def AeE:Dw.Spec:=OY [] .ground UZ UY (λa=>Xl a.1 a.2) Pe noE
theorem AjY:OW Tryz.prog 119 AeE:=by
 refine fn2 2 (Pp) Tryz.func119<|?_;intro a;unfold Xl;exact B

def Ui (a:Mk×Pg):List D:=[Pf a.1,Uu a.2,.clo 119 []]
def Uh (ds:List D):Mk×Pg:=(Td (ds.getD 0 .top),Zs (ds.getD 1 .top))
instance:Py Ui Uh:=⟨λa=>by simp[Uh,Ui]⟩
def Vd:Dw.Spec:=OY [] .val Ui Uh (λa=>VP a.1 a.2) QG noE
def XY:Dw.Spec:=VV (specs []) 1 [(.t 2)] AoM
theorem AeF:OW Tryz.prog 142 XY:=Sg (Pp) Tryz.func142 (by decide) AsX AsY (by decide)
theorem AgI:OW Tryz.prog 104 Vd:=by
 refine fn2 3 (OZ (l:=[(141,Acg),(142,XY),(143,Tf),(119,AeE),(144,WA)]) (by simp[AgJ,AeF,TR,AjY,AaX])) Tryz.func104<|?_
 rintro⟨a,e⟩;unfold VP;refine A 13 ?_;refine bD λr3 au=>?_
 refine A 10 ?_;refine cD r ?_ ?_
 ·exact B
 ·refine A 7 ?_;refine RV (E:=λ(g:Nat×Nat)=>[(2,.clo 119 []),(3,.optr 1003 g.1 0 0),(4,.optr 1004 g.2 0 0),(24,Av (a.Slots.length:Int))]) (O:=λg=>[(1003,dV g.1 3 36 (Pf a)),(1004,dV g.2 1 40 (.agg [.sl (e.Out.map (eL Le))]))]) (_,_) ((PA (λg=>bif Nat.ble 4096 g then g+20000 else g+1000) (by rfl) (hX)))<|?_
  rintro⟨y,aa⟩ nn
  try dsimp only
  refine ZP (ES:=λ(s:(List (List Bool))) (g:Nat×Nat×Nat)=>[(2,.clo 119 []),(3,.optr 3 g.1 0 0),(4,.optr 4 g.2.1 0 0),(25,.osl 4697 g.2.2 0 s.length)]) (OS:=λs g=>[(3,dV g.1 3 36 (Pf a)),(4,dV g.2.1 1 40 (.agg [.sl (e.Out.map (eL Le))])),(4697,dW g.2.2 1 42 (s.map (eR 1 4 D.bool)))]) (j:=λs=>SL a e s) (ds:=[Av (a.Slots.length:Int)]) (caps:=[]) (E:=[(0,Av (a.Slots.length:Int))]) r r r r r r r r ?_ ?_
  ·refine Va (c:=AoM)<|?_;refine A 8 ?_;refine cK λhq=>Vz (α:=Bool) r r r hq r<|?_
   refine A 2 ?_;refine Qg (E:=[(0,Av (a.Slots.length:Int)),(3,.osl 4099 _ 0 ((aA (a.Slots.length:Int).toNat ([]:(List Bool))).length))]) (O:=[(1003,dV y 3 36 (Pf a)),(1004,dV aa 1 40 (.agg [.sl (e.Out.map (eL Le))])),(4099,dW _ 1 42 ((aA (a.Slots.length:Int).toNat ([]:(List Bool))).map (eR 1 4 D.bool)))]) ((AhD (g:=3) (g2:=4099) r r r (AkP (l:=aA (a.Slots.length:Int).toNat ([]:(List Bool))) (s':=1) (ty':=4) D.bool (by decide) (λ_ h=>List.eq_of_mem_replicate h)) (hX))) λnn=>?_
   refine A 9 ?_;refine lP (E:=λ(s:(List (List Bool))×Int) (g:Nat)=>[(0,Av (a.Slots.length:Int)),(3,.osl 4099 g 0 s.1.length),(8,Av ((aA (a.Slots.length:Int).toNat ([]:(List Bool))).length:Int)),(9,Av s.2)]) (O:=λs g=>[(1003,dV y 3 36 (Pf a)),(1004,dV aa 1 40 (.agg [.sl (e.Out.map (eL Le))])),(4099,dW g 1 42 (s.1.map (eR 1 4 D.bool)))]) (body:=λs=>SK a e s.1 s.2) (s:=(aA (a.Slots.length:Int).toNat ([]:(List Bool)),0)) _ ((hX))<|?_
   rintro⟨w,av⟩ aw nn
   try dsimp only
   unfold SK;refine A 6 ?_;refine cD r ?_ ?_
   ·refine A 16 ?_;refine bD λag ah=>Agu (l:=w) (q:=ag) (q':=aA (a.Slots.length:Int).toNat false) D.bool rfl rfl rfl rfl (.inl rfl) ah rfl rfl ⟨⟨rfl,rfl,by simp,Abf λ_=>rfl⟩,trivial,rfl⟩ (congrArg (λz=>[D.row _ _ z]) (QO _ _ rfl)) rfl<|?_
    exact B
   ·refine A 12 ?_;exact RS (d:=.osl 4099 _ 0 w.length) (s:=w) (_,_,_) r (by first|rfl|(simp[Pz,PC,rdA,raw,strip,PI,cells,PD];done)|(simp[Pz,PC,rdA,raw,strip,PI,S.ge,S.go,look,UR,cells,PD];done)) r ((Qt (E1:=[(2,.clo 119 []),(3,.optr 1003 y 0 0),(4,.optr 1004 aa 0 0),(25,.osl 4099 _ 0 w.length)]) (O1:=[(1003,dV y 3 36 (Pf a)),(1004,dV aa 1 40 (.agg [.sl (e.Out.map (eL Le))])),(4099,dW _ 1 42 (w.map (eR 1 4 D.bool)))]) (hX) (λ_=>PA (λg=>bif Nat.ble 24096 g then g-20000 else bif (Nat.ble 1000 g&&Nat.blt g 4096)then g-1000 else bif Nat.beq g 4099 then 4697 else g) (by rfl) (hX))))
  ·rintro x4 ⟨ax,ay,az⟩ nn
   try dsimp only
   unfold SL;refine A 13 ?_;refine lP (E:=λ(s:(List (List Bool))×Int) (g:Nat×Nat)=>[(2,.clo 119 []),(4,.optr 4 g.1 0 0),(9,.osl 4697 g.2 0 s.1.length),(27,.sl (a.Code.map Ph)),(28,Av (a.Code.length:Int)),(29,Av s.2)]) (O:=λs g=>[(4,dV g.1 1 40 (.agg [.sl (e.Out.map (eL Le))])),(4697,dW g.2 1 42 (s.1.map (eR 1 4 D.bool)))]) (body:=λs=>UJ a e s.1 s.2) (s:=(x4,0)) (_,_) ((hX))<|?_
   rintro⟨o,k⟩ ⟨ba,bb⟩ nn
   try dsimp only
   unfold UJ;refine A 6 ?_;refine cD r ?_ ?_
   ·refine A 7 ?_;refine bD λb bc=>?_
    refine A 10 ?_;refine bD λf bd=>?_
    refine A 8 ?_;refine sC (E:=λ(s:Bool×Bool) (g:Nat×Nat×Nat)=>[(2,.clo 119 []),(4,.optr 4 g.1 0 0),(9,.osl 4697 g.2.2 0 o.length),(10,Av k),(11,.optr 11 g.2.1 0 0),(12,Av f.1),(27,.sl (a.Code.map Ph)),(28,Av (a.Code.length:Int)),(29,Av k),(42,.optr 11 g.2.1 0 0),(43,Av b.Op),(44,.bool (b.Op==17)),(45,.bool s.1),(51,.bool s.2)]) (O:=λ_ g=>[(4,dV g.1 1 40 (.agg [.sl (e.Out.map (eL Le))])),(11,dV g.2.1 5 63 (Ph b)),(4697,dW g.2.2 1 42 (o.map (eR 1 4 D.bool)))]) (j:=λs=>QT e k f b o s.1 s.2) ?_ ?_
    ·refine A 5 ?_;refine Pj r ?_ ?_
     ·refine A 22 ?_;exact xL (s:=(o,i64.wrap (k+1))) (_,_) ((hX))
     ·refine A 4 ?_;refine Pj r ?_ ?_
      ·refine A 9 ?_;refine cD r ?_ ?_
       ·refine A 8 ?_;exact xL (s:=(o,i64.wrap (k+1))) (_,_) ((hX))
       ·refine A 1 ?_;exact xC (s:=(true,(b.A==b.B))) (_,_,_) ((hX))
      ·refine A 11 ?_;exact xC (s:=(false,false)) (_,_,_) ((hX))
    ·rintro⟨x9,ac⟩ ⟨bf,bg,bh⟩ nn
     try dsimp only
     unfold QT;refine A 5 ?_;refine bD λp bi=>?_
     refine A 7 ?_;refine lP (E:=λ(s:(List (List Bool))×Int) (g:Nat×Nat×Nat)=>[(2,.clo 119 []),(4,.optr 4 g.1 0 0),(9,.osl 4697 g.2.2 0 s.1.length),(11,.optr 11 g.2.1 0 0),(12,Av f.1),(27,.sl (a.Code.map Ph)),(28,Av (a.Code.length:Int)),(29,Av k),(42,.optr 11 g.2.1 0 0),(43,Av b.Op),(44,.bool (b.Op==17)),(45,.bool x9),(51,.bool ac),(57,.sl (p.map Le)),(58,Av (p.length:Int)),(59,Av s.2)]) (O:=λs g=>[(4,dV g.1 1 40 (.agg [.sl (e.Out.map (eL Le))])),(11,dV g.2.1 5 63 (Ph b)),(4697,dW g.2.2 1 42 (s.1.map (eR 1 4 D.bool)))]) (body:=λs=>UK p f b k s.1 s.2) (s:=(o,0)) (_,_,_) ((hX))<|?_
     rintro⟨m,x⟩ ⟨bj,bk,bl⟩ nn
     try dsimp only
     unfold UK;refine A 6 ?_;refine cD r ?_ ?_
     ·refine A 6 ?_;refine bD λt bm=>?_
      refine A 5 ?_;refine sC (E:=λ(s:Bool) (g:Nat×Nat×Nat)=>[(2,.clo 119 []),(4,.optr 4 g.1 0 0),(9,.osl 4697 g.2.2 0 m.length),(11,.optr 11 g.2.1 0 0),(12,Av f.1),(15,Av t),(27,.sl (a.Code.map Ph)),(28,Av (a.Code.length:Int)),(29,Av k),(42,.optr 11 g.2.1 0 0),(43,Av b.Op),(44,.bool (b.Op==17)),(45,.bool x9),(51,.bool ac),(57,.sl (p.map Le)),(58,Av (p.length:Int)),(59,Av x),(72,.bool s)]) (O:=λ_ g=>[(4,dV g.1 1 40 (.agg [.sl (e.Out.map (eL Le))])),(11,dV g.2.1 5 63 (Ph b)),(4697,dW g.2.2 1 42 (m.map (eR 1 4 D.bool)))]) (j:=λs=>Qk m f t x s) ?_ ?_
      ·refine A 5 ?_;refine Pj r ?_ ?_
       ·refine A 3 ?_;refine bD λaj bn=>?_
        refine A 4 ?_;exact xC (s:=(!aj)) (_,_,_) ((hX))
       ·refine A 7 ?_;exact xC (s:=false) (_,_,_) ((hX))
      ·rintro bo ⟨bp,bq,br⟩ nn
       try dsimp only
       unfold Qk;refine cD r ?_ ?_
       ·refine Ang λu ad=>Ang λv ae=>Avn λaf=>Apn (E:=[(2,.clo 119 []),(4,.optr 4 _ 0 0),(9,.osl 4697 _ 0 m.length),(11,.optr 11 _ 0 0),(12,Av f.1),(15,Av t),(27,.sl (a.Code.map Ph)),(28,Av (a.Code.length:Int)),(29,Av k),(42,.optr 11 _ 0 0),(43,Av b.Op),(44,.bool (b.Op==17)),(45,.bool x9),(51,.bool ac),(57,.sl (p.map Le)),(58,Av (p.length:Int)),(59,Av x)]) (O:=[(4,dV _ 1 40 (.agg [.sl (e.Out.map (eL Le))])),(11,dV _ 5 63 (Ph b)),(4697,dW _ 1 42 (((m.map (eR 1 4 D.bool)).set f.1.toNat (.hole 4717 _ u.length)).set t.toNat (.hole 4718 _ v.length))),(4717,dW _ 1 4 (u.map D.bool)),(4718,dW _ 1 4 (v.map D.bool))]) (Aqb (g:=4697) (i:=f.1.toNat) (j:=t.toNat) (t1:=621) (t2:=622) D.bool r ad ae af (hX)) λnn=>?_
        refine A 2 ?_;refine cK λhq=>ZQ (by simp) r r r r (by simpa using hq)<|Agt (nm:=4717) (q:=u.length) r r r (Atc ad af)<|?_
        refine A 3 ?_;refine cK λhq=>ZQ (by simp) r r r r (by simpa using hq)<|Agt (nm:=4718) (q:=v.length) r r r (Atd ae)<|?_
        refine A 2 ?_;refine bD λak ao=>Adj (l:=u) (en:=D.bool) (q:=ak) (q':=true) r r r r r ao r (λ_=>r) r r r ⟨trivial,trivial,r⟩<|?_
        refine A 1 ?_;refine bD λap aq=>Adj (l:=v) (en:=D.bool) (q:=ap) (q':=true) r r r r r aq r (λ_=>r) r r r ⟨trivial,trivial,r⟩<|?_
        refine A 2 ?_;refine Qg (E:=[(2,.clo 119 []),(4,.optr 4 _ 0 0),(9,.osl 4697 _ 0 m.length),(11,.optr 11 _ 0 0),(12,Av f.1),(27,.sl (a.Code.map Ph)),(28,Av (a.Code.length:Int)),(29,Av k),(42,.optr 11 _ 0 0),(43,Av b.Op),(44,.bool (b.Op==17)),(45,.bool x9),(51,.bool ac),(57,.sl (p.map Le)),(58,Av (p.length:Int)),(59,Av x)]) (O:=[(4,dV _ 1 40 (.agg [.sl (e.Out.map (eL Le))])),(11,dV _ 5 63 (Ph b)),(4697,dW _ 1 42 (((m.set f.1.toNat (u.set t.toNat true)).set t.toNat (v.set f.1.toNat true)).map (eR 1 4 D.bool)))]) ((AoT (g:=4697) (g1:=4717) (g2:=4718) (l:=m) (en:=D.bool) (i:=f.1.toNat) (j:=t.toNat) (q1:=u) (q2:=v) (q1':=u.set t.toNat true) (q2':=v.set f.1.toNat true) ad ae af r r r (by simp) (by simp) (λ_=>r) (hE ⟨rfl,r,(QV (q:=m.length) r (by simp)),r,r,r,r,r,r,r,r,r,r,r,r,r,trivial⟩ ⟨rfl,r,r,trivial⟩))) λnn=>?_
        exact B
       ·refine A 7 ?_;exact xL (s:=(m,i64.wrap (x+1))) (_,_,_) ((hX))
     ·refine A 10 ?_;exact xL (s:=(m,i64.wrap (k+1))) (_,_) ((hX))
   ·refine A 4 ?_;refine Qg (E:=[(9,.osl 4697 _ 0 o.length)]) (O:=[(4697,dW _ 1 42 (o.map (eL D.bool)))]) ((Aeb (g:=4697) r (AkQ (l:=o) D.bool (λ_=>r)) (hX))) λnn=>?_
    exact B

def AgH:Dw.Spec:=OY [] .val PQ PO (λa=>VO a.1 a.2) QG noE
theorem AlQ:OW Tryz.prog 65 AgH:=by
 refine fn2 2 (OZ (l:=[(491624,Vd)]) (by simp[AgI])) Tryz.func65<|?_
 rintro⟨a,b⟩;unfold VO;refine A 12 ?_;refine bD λd c=>cV (a,b) rfl rfl (show _=some Vd from by kernel_rfl) Py.ok rfl rfl (by simp) r c<|?_
 exact B

def WN (a:Pk×Int):List D:=[XR a.1,Av a.2]
def WM (ds:List D):Pk×Int:=(Agi (ds.getD 0 .top),uI (ds.getD 1 .top))
instance:Py WN WM:=⟨λa=>by simp[WM,WN,uI]⟩
def AjF:Dw.Spec:=OY [] .ground WN WM (λa=>Za a.1 a.2) Pb noE
theorem AmB:OW Tryz.prog 67 AjF:=by
 refine fn2 2 (Pp) Tryz.func67<|?_;rintro⟨d,h⟩;unfold Za;refine A 17 ?_;refine bD λa i=>?_
 refine A 8 ?_;refine lP (E:=λ(s:Int×Int) (g:Nat)=>[(2,.optr 2 g 0 0),(5,Av s.2),(13,.sl (a.Code.map Ph)),(14,Av (a.Code.length:Int)),(15,Av s.1)]) (O:=λ_ g=>[(2,dV g 1 28 (.agg [.sl (d.Funcs.map Pf)]))]) (body:=λs=>Ait a d s.1 s.2) (s:=(0,0)) _ ((hX))<|?_
 rintro⟨b,c⟩ j nn
 try dsimp only
 unfold Ait;refine A 6 ?_;refine cD r ?_ ?_
 ·refine A 6 ?_;refine bD λe k=>?_
  refine A 19 ?_;refine cD r ?_ ?_
  ·refine A 15 ?_;exact xL (s:=(i64.wrap (b+1),PJ c (i64.wrap (e.A+1)))) _ ((hX))
  ·refine A 6 ?_;refine cD r ?_ ?_
   ·refine A 6 ?_;refine bD λf l=>?_
    refine A 13 ?_;exact xL (s:=(i64.wrap (b+1),PJ c f.Params)) _ ((hX))
   ·refine A 8 ?_;exact xL (s:=(i64.wrap (b+1),c)) _ ((hX))
 ·exact B

def AmW:Dw.Spec:=OY [] .ground PU PT (λa=>AbT a) Pe noE
theorem AqI:OW Tryz.prog 157 AmW:=by
 refine fn2 1 (Pp) Tryz.func157<|?_;intro a;unfold AbT;exact B

def Abx:Dw.Spec:=OY [] .ground PU PT (λa=>Rs a) Pe noE
theorem AeB:OW Tryz.prog 158 Abx:=by
 refine fn2 1 (Pp) Tryz.func158<|?_;intro a;unfold Rs;exact B

def AaS (a:Pa):List D:=[Pm a]
def AaR (ds:List D):Pa:=Uy (ds.getD 0 .top)
instance:Py AaS AaR:=⟨λa=>by simp[AaR,AaS]⟩
def Ail:Dw.Spec:=OY [] .ground AaS AaR (λa=>YD a) Pe noE
theorem AnA:OW Tryz.prog 156 Ail:=by
 refine fn2 1 (OZ (l:=[(157,AmW),(158,Abx)]) (by simp[AqI,AeB])) Tryz.func156<|?_
 intro a;unfold YD;exact B

end
end Go.Proofs.YtilmapojncgflaaGreatDoor
