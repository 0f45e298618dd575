/-
  Programs on typed data, and the proofs that the code does what they say; written by a program (dx.py).
-/
import Derived.Test.YtilmapojncgflaaGreatDoorProg
import Derived.Test.YtilmapojncgflaaGreatDoorDd
import Derived.KernelRfl
import Derived.Test.YtilmapojncgflaaGreatDoorSh
import Derived.Test.YtilmapojncgflaaGreatDoorCl
import Derived.Test.YtilmapojncgflaaGreatDoorDxP
import Derived.Test.YtilmapojncgflaaGreatDoorDxF1
import Derived.Test.YtilmapojncgflaaGreatDoorDxF2
import Derived.Test.YtilmapojncgflaaGreatDoorDxF3
open List renaming replicate->aA
namespace Go.Proofs.YtilmapojncgflaaGreatDoor
open Go Go.Dw Go.Proofs
open Go.IntKind (i64)
set_option maxRecDepth 100000
set_option maxHeartbeats 40000000
open Go.Dw renaming Rm -> bD,Qa -> cK,AdY -> bS,ZW -> cV,TI -> sE,Yw -> iO,Ack -> cD,Aea -> xC,ZX -> xL,ZA -> hE,Aeb -> lP,Aap -> sC,Aib -> mF,rf -> r
noncomputable section
def Wx (a:OW×Int):List D:=[Ps a.1,Av a.2]
def Ww (ds:List D):OW×Int:=(Rx (ds.getD 0 .top),uI (ds.getD 1 .top))
instance:Py Wx Ww:=⟨λa=>by simp[Ww,Wx,uI]⟩
def Aik (b:Bool×OW):D:=.bool b.1
def Aij (b:Bool×OW):List D:=[Ps b.2]
def Acp:Dw.Spec:=Pe [(0,(8,201))] .val Wx Ww (λa=>TK a.1 a.2) Aik Aij
theorem Ahv:Pb Tryz.prog 190 Acp:=by
 refine fn2 2 (Pf (l:=[(193,Vs)]) (by simp[XO])) Tryz.func190<|?_
 rintro⟨a,b⟩;unfold TK;refine A 8 ?_;refine bD λe f=>?_
 refine A 2 ?_;refine PI r ?_ ?_
 ·refine A 4 ?_;refine cK λhq=>Ul r r r hq<|bD λc d=>Ws (q:=c) (l:=a.toList) (en:=AaB) (j:=(i64.wrap (b.tdiv 64)).toNat) (by simp) r r r d r (λ_=>r)<|?_
  exact B
 ·exact B

def Ajx:Dw.Spec:=Pe [] .ground RF RE (λa=>Acn a.1 a.2) Po noE
theorem AnJ:Pb Tryz.prog 149 Ajx:=by
 refine fn2 2 (Pf (l:=[(181,Ud),(190,Acp)]) (by simp[Vc,Ahv])) Tryz.func149<|?_
 intro a;unfold Acn;exact B

def AfT:Dw.Spec:=Pe [] (.row 1 3) QU QT (λa=>Aac a.1 a.2) QX noE
theorem AkJ:Pb Tryz.prog 111 AfT:=by
 refine fn2 2 (Pf (l:=[(143,SC),(149,Ajx)]) (by simp[Tf,AnJ])) Tryz.func111<|?_
 rintro⟨b,d⟩;unfold Aac;refine A 22 ?_;refine lP (E:=λ(s:(List Int)×Int) (g:Nat×Nat)=>[(3,.optr 3 g.1 0 0),(5,.osl 5 g.2 0 s.1.length),(11,.sl (b.Code.map Pl)),(12,Av (b.Code.length:Int)),(13,Av s.2)]) (O:=λs g=>[(3,dV g.1 1 40 (.agg [.sl (d.Out.map (eL Mk))])),(5,dW g.2 1 3 (s.1.map Mk))]) (body:=λs=>Aay b d s.1 s.2) (s:=(([]:List Int),0)) (_,_) ((hX))<|?_
 rintro⟨c,a⟩ ⟨e,f⟩ nn
 try dsimp only
 unfold Aay;refine A 6 ?_;refine cD r ?_ ?_
 ·refine A 7 ?_;refine bD λh i=>?_
  refine A 10 ?_;refine bD λj k=>?_
  refine A 12 ?_;refine PI r ?_ ?_
  ·refine A 3 ?_;refine bD λm o=>?_
   refine A 3 ?_;refine bD λp q=>?_
   refine A 5 ?_;refine cD r ?_ ?_
   ·refine A 13 ?_;exact xL (s:=(c++([a]:List Int),i64.wrap (a+1))) (_,_) ((hX))
   ·refine A 7 ?_;exact xL (s:=(c,i64.wrap (a+1))) (_,_) ((hX))
  ·refine A 19 ?_;exact xL (s:=(c,i64.wrap (a+1))) (_,_) ((hX))
 ·exact B

def Zq (a:Le×Pj×(List Int)):List D:=[Pk a.1,WY a.2.1,.sl (a.2.2.map Mk)]
def Zp (ds:List D):Le×Pj×(List Int):=(Sz (ds.getD 0 .top),Adg (ds.getD 1 .top),(uL uI) (ds.getD 2 .top))
instance:Py Zq Zp:=⟨λa=>by simp[Zp,Zq,Qf (u:=uI) (en:=Mk) (λ_=>rfl)]⟩
def AlA (b:(List Bool)):D:=.sl (b.map D.bool)
def AfU:Dw.Spec:=Pe [] (.row 1 4) Zq Zp (λa=>Xn a.1 a.2.1 a.2.2) AlA noE
theorem AkK:Pb Tryz.prog 63 AfU:=by
 refine fn2 3 (Pf (l:=[(111,AfT)]) (by simp[AkJ])) Tryz.func63<|?_
 rintro⟨b,i,c⟩;unfold Xn;refine A 20 ?_;refine bD λa j=>?_
 refine A 17 ?_;refine lP (E:=λ(s:(List Bool)×Int) (g:Nat×Nat)=>[(2,.sl (c.map Mk)),(7,.osl 7 g.1 0 s.1.length),(8,.osl 8 g.2 0 a.length),(21,.sl (b.Code.map Pl)),(22,Av (b.Code.length:Int)),(23,Av s.2)]) (O:=λs g=>[(7,dW g.1 1 4 (s.1.map D.bool)),(8,dW g.2 1 3 (a.map Mk))]) (body:=λs=>Aaz b a c s.1 s.2) (s:=(aA (b.Code.length:Int).toNat false,0)) (_,_) ((hX))<|?_
 rintro⟨d,e⟩ ⟨k,m⟩ nn
 try dsimp only
 unfold Aaz;refine A 6 ?_;refine cD r ?_ ?_
 ·refine A 7 ?_;refine bD λf o=>?_
  refine A 16 ?_;refine lP (E:=λ(s:Int) (g:Nat×Nat×Nat)=>[(2,.sl (c.map Mk)),(7,.osl 7 g.1 0 d.length),(8,.osl 8 g.2.1 0 a.length),(9,Av e),(10,.optr 10 g.2.2 0 0),(21,.sl (b.Code.map Pl)),(22,Av (b.Code.length:Int)),(23,Av e),(28,.osl 8 g.2.1 0 a.length),(29,Av (a.length:Int)),(30,Av s)]) (O:=λ_ g=>[(7,dW g.1 1 4 (d.map D.bool)),(8,dW g.2.1 1 3 (a.map Mk)),(10,dV g.2.2 5 63 (Pl f))]) (body:=λs=>WX a e d f c s) (s:=0) (_,_,_) ((hX))<|?_
  rintro h ⟨p,q,t⟩ nn
  try dsimp only
  unfold WX;refine A 6 ?_;refine cD r ?_ ?_
  ·refine A 7 ?_;refine bD λu v=>?_
   refine A 11 ?_;refine cD r ?_ ?_
   ·refine A 12 ?_;exact xL (s:=(d,i64.wrap (e+1))) (_,_) ((hX))
   ·refine A 7 ?_;exact xL (s:=i64.wrap (h+1)) (_,_,_) ((hX))
  ·exact B
 ·exact B

def Zl (a:Le×(List Int)):List D:=[Pk a.1,.sl (a.2.map Mk)]
def Zk (ds:List D):Le×(List Int):=(Sz (ds.getD 0 .top),(uL uI) (ds.getD 1 .top))
instance:Py Zl Zk:=⟨λa=>by simp[Zk,Zl,Qf (u:=uI) (en:=Mk) (λ_=>rfl)]⟩
def AfR:Dw.Spec:=Pe [] .ground Zl Zk (λa=>Xk a.1 a.2) Po noE
theorem AkH:Pb Tryz.prog 150 AfR:=by
 refine fn2 2 (PD) Tryz.func150<|?_;rintro⟨b,a⟩;unfold Xk;refine A 17 ?_;refine cD r ?_ ?_
 ·exact B
 ·refine A 11 ?_;refine lP (E:=λ(s:Int) (g:Nat)=>[(1,.sl (a.map Mk)),(2,.optr 2 g 0 0),(13,.sl (a.map Mk)),(14,Av (a.length:Int)),(15,Av s)]) (O:=λ_ g=>[(2,dV g 3 36 (Pk b))]) (body:=λs=>WU a b s) (s:=0) _ ((hX))<|?_
  rintro c d nn
  try dsimp only
  unfold WU;refine A 6 ?_;refine cD r ?_ ?_
  ·refine A 7 ?_;refine bD λe f=>?_
   refine A 11 ?_;refine PI r ?_ ?_
   ·exact B
   ·refine A 6 ?_;refine PI r ?_ ?_
    ·exact B
    ·refine A 3 ?_;refine bD λh i=>?_
     refine A 6 ?_;refine bD λj k=>?_
     refine A 6 ?_;refine PI r ?_ ?_
     ·exact B
     ·refine A 2 ?_;refine bD λl m=>?_
      refine A 7 ?_;refine cD r ?_ ?_
      ·exact B
      ·refine A 7 ?_;exact xL (s:=i64.wrap (c+1)) _ ((hX))
  ·exact B

def Aew:Dw.Spec:=Pe [] .ground TT TS (λa=>XX a) Po noE
theorem Ajp:Pb Tryz.prog 151 Aew:=by
 refine fn2 1 (Pf (l:=[(143,SC)]) (by simp[Tf])) Tryz.func151<|?_
 intro a;unfold XX;exact B

def UB (a:Le×Pn):List D:=[Pk a.1,AhD a.2]
def UA (ds:List D):Le×Pn:=(Sz (ds.getD 0 .top),Aig (ds.getD 1 .top))
instance:Py UB UA:=⟨λa=>by simp[UA,UB]⟩
def AgL:Dw.Spec:=Pe [] .ground UB UA (λa=>Abl a.1 a.2) Pg noE
theorem AlY:Pb Tryz.prog 112 AgL:=by
 refine fn2 2 (Pf (l:=[(150,AfR),(151,Aew)]) (by simp[AkH,Ajp])) Tryz.func112<|?_
 rintro⟨b,a⟩;unfold Abl;refine A 7 ?_;refine sC (E:=λ(_s:Unit) (g:Nat×Nat)=>[(2,.optr 2 g.1 0 0),(3,.optr 3 g.2 0 0)]) (O:=λ_ g=>[(2,dV g.1 3 36 (Pk b)),(3,dV g.2 2 44 (.agg [.sl (a.To.map Mk),.sl (a.Keep.map D.bool)]))]) (j:=λ_=>AbL b a) ?_ ?_
 ·refine A 5 ?_;refine bD λd e=>?_
  refine A 3 ?_;refine PI r ?_ ?_
  ·exact B
  ·refine A 10 ?_;refine cD r ?_ ?_
   ·exact B
   ·refine A 1 ?_;exact xC (s:=()) (_,_) ((hX))
 ·rintro⟨⟩ ⟨f,h⟩ nn
  try dsimp only
  unfold AbL;refine A 10 ?_;refine lP (E:=λ(s:Int) (g:Nat)=>[(3,.optr 3 g 0 0),(22,.sl (b.Code.map Pl)),(23,Av (b.Code.length:Int)),(24,Av s)]) (O:=λ_ g=>[(3,dV g 2 44 (.agg [.sl (a.To.map Mk),.sl (a.Keep.map D.bool)]))]) (body:=λs=>AbK b a s) (s:=0) _ ((hX))<|?_
  rintro c i nn
  try dsimp only
  unfold AbK;refine A 6 ?_;refine cD r ?_ ?_
  ·refine A 7 ?_;refine bD λk m=>?_
   refine A 12 ?_;refine bD λo p=>?_
   refine A 4 ?_;refine PI r ?_ ?_
   ·refine A 1 ?_;refine bD λq t=>?_
    refine A 5 ?_;refine cD r ?_ ?_
    ·exact B
    ·refine A 7 ?_;exact xL (s:=i64.wrap (c+1)) _ ((hX))
   ·refine A 14 ?_;exact xL (s:=i64.wrap (c+1)) _ ((hX))
  ·exact B

def VK (a:Int×(List Int)):List D:=[Av a.1,.fptr (.sl (a.2.map Mk)) 0]
def VJ (ds:List D):Int×(List Int):=(uI (ds.getD 0 .top),(uL uI) (fpD (ds.getD 1 .top)))
instance:Py VK VJ:=⟨λa=>by simp[VJ,VK,uI,fpD,Qf (u:=uI) (en:=Mk) (λ_=>rfl)]⟩
def Acb:Dw.Spec:=Pe [] .ground VK VJ (λa=>Rg a.1 a.2) Pg noE
theorem Ahb:Pb Tryz.prog 191 Acb:=by
 refine fn2 2 (PD) Tryz.func191<|?_;intro a;unfold Rg;exact B

def AlC (b:Lo):D:=Pl b
def AfZ:Dw.Spec:=Pe [] .ground AaV AaU (λa=>Xp a.1 a.2) AlC noE
theorem AkV:Pb Tryz.prog 154 AfZ:=by
 refine fn2 2 (Pf (l:=[(191,Acb)]) (by simp[Ahb])) Tryz.func154<|?_
 rintro⟨b,a⟩;unfold Xp;refine A 6 ?_;refine Qn (E:=[(2,.optr 2 _ 0 0),(3,.fptr (.sl (a.map Mk)) 0),(4,.optr 4 _ 0 0)]) (O:=[(2,dV _ 5 63 (Pl b)),(4,dV _ 5 63 (.agg [Av 0,Av 0,Av 0,Av 0,AjG 0]))]) ((hV 3 r (hY))) λnn=>?_
 refine A 2 ?_;refine mF (caps:=[.fptr (.sl (a.map Mk)) 0]) r r (by simp[UX])<|?_
 exact B

def AbN (a:Le×Pn×(List Int)):List D:=[Pk a.1,AhD a.2.1,.sl (a.2.2.map Mk)]
def AbM (ds:List D):Le×Pn×(List Int):=(Sz (ds.getD 0 .top),Aig (ds.getD 1 .top),(uL uI) (ds.getD 2 .top))
instance:Py AbN AbM:=⟨λa=>by simp[AbM,AbN,Qf (u:=uI) (en:=Mk) (λ_=>rfl)]⟩
def Ank (b:(List Lo)):D:=.sl (b.map Pl)
def AdW:Dw.Spec:=Pe [] (.row 5 63) AbN AbM (λa=>XH a.1 a.2.1 a.2.2) Ank noE
theorem AgM:Pb Tryz.prog 118 AdW:=by
 refine fn2 3 (Pf (l:=[(154,AfZ)]) (by simp[AkV])) Tryz.func118<|?_
 rintro⟨a,b,d⟩;unfold XH;refine A 22 ?_;refine lP (E:=λ(s:(List Lo)×Int) (g:Nat×Nat)=>[(2,.sl (d.map Mk)),(4,.optr 4 g.1 0 0),(7,.osl 7 g.2 0 s.1.length),(11,.sl (a.Code.map Pl)),(12,Av (a.Code.length:Int)),(13,Av s.2)]) (O:=λs g=>[(4,dV g.1 2 44 (.agg [.sl (b.To.map Mk),.sl (b.Keep.map D.bool)])),(7,dW g.2 5 63 (s.1.map Pl))]) (body:=λs=>Adb a b d s.1 s.2) (s:=(([]:List Lo),0)) (_,_) ((hX))<|?_
 rintro⟨c,e⟩ ⟨k,m⟩ nn
 try dsimp only
 unfold Adb;refine A 6 ?_;refine cD r ?_ ?_
 ·refine A 7 ?_;refine bD λf o=>?_
  refine A 7 ?_;refine sC (E:=λ(s:Bool) (g:Nat×Nat×Nat)=>[(2,.sl (d.map Mk)),(4,.optr 4 g.1 0 0),(7,.osl 7 g.2.1 0 c.length),(9,.optr 9 g.2.2 0 0),(11,.sl (a.Code.map Pl)),(12,Av (a.Code.length:Int)),(13,Av e),(29,.bool s)]) (O:=λ_ g=>[(4,dV g.1 2 44 (.agg [.sl (b.To.map Mk),.sl (b.Keep.map D.bool)])),(7,dW g.2.1 5 63 (c.map Pl)),(9,dV g.2.2 5 63 (Pl f))]) (j:=λs=>Wp f d c e s) ?_ ?_
  ·refine A 7 ?_;refine PI r ?_ ?_
   ·refine A 3 ?_;refine bD λi p=>?_
    refine A 4 ?_;exact xC (s:=i) (_,_,_) ((hX))
   ·refine A 7 ?_;exact xC (s:=false) (_,_,_) ((hX))
  ·rintro q ⟨t,u,v⟩ nn
   try dsimp only
   unfold Wp;refine cD r ?_ ?_
   ·refine A 4 ?_;refine bD λh w=>?_
    refine A 1 ?_;refine bS ([h]:List Lo) Pl r r r (by simp) r r r<|?_
    refine A 9 ?_;exact xL (s:=(c++([h]:List Lo),i64.wrap (e+1))) (_,_) ((hX))
   ·refine A 7 ?_;exact xL (s:=(c,i64.wrap (e+1))) (_,_) ((hX))
 ·exact B

def Aia:Dw.Spec:=Pe [] (.row 1 3) UB UA (λa=>ZS a.1 a.2) QX noE
theorem AmF:Pb Tryz.prog 113 Aia:=by
 refine fn2 2 (Pf (l:=[(118,AdW),(152,AeL),(143,SC),(153,AgR)]) (by simp[AgM,AhE,Tf,Ajy])) Tryz.func113<|?_
 rintro⟨f,h⟩;unfold ZS;refine A 19 ?_;refine bD λa i=>?_
 refine A 6 ?_;refine lP (E:=λ(s:(List Int)×Int) (g:Nat×Nat)=>[(5,.osl 5 g.1 0 s.1.length),(14,.osl 14 g.2 0 a.length),(15,Av (a.length:Int)),(16,Av s.2)]) (O:=λs g=>[(5,dW g.1 1 3 (s.1.map Mk)),(14,dW g.2 5 63 (a.map Pl))]) (body:=λs=>Ada a s.1 s.2) (s:=(([]:List Int),0)) (_,_) ((hX))<|?_
 rintro⟨b,c⟩ ⟨j,k⟩ nn
 try dsimp only
 unfold Ada;refine A 6 ?_;refine cD r ?_ ?_
 ·refine A 7 ?_;refine bD λm o=>?_
  refine A 9 ?_;refine bD λd p=>?_
  refine A 8 ?_;refine bD λe q=>?_
  refine A 13 ?_;refine cD r ?_ ?_
  ·refine A 13 ?_;exact xL (s:=((b++d)++([e.1]:List Int),i64.wrap (c+1))) (_,_) ((hX))
  ·refine A 7 ?_;exact xL (s:=(b++d,i64.wrap (c+1))) (_,_) ((hX))
 ·exact B

def Aer:Dw.Spec:=Pe [] (.row 1 3) RF RE (λa=>XS a.1 a.2) QX noE
theorem Ajm:Pb Tryz.prog 114 Aer:=by
 refine fn2 2 (PD) Tryz.func114<|?_;rintro⟨a,c⟩;unfold XS;refine A 19 ?_;refine lP (E:=λ(s:(List Int)×Int) (g:Nat)=>[(1,Av c),(5,.osl 5 g 0 s.1.length),(8,.sl (a.map Mk)),(9,Av (a.length:Int)),(10,Av s.2)]) (O:=λs g=>[(5,dW g 1 3 (s.1.map Mk))]) (body:=λs=>YD a c s.1 s.2) (s:=(([]:List Int),0)) _ ((hX))<|?_
 rintro⟨d,b⟩ e nn
 try dsimp only
 unfold YD;refine A 6 ?_;refine cD r ?_ ?_
 ·refine A 7 ?_;refine bD λf h=>?_
  refine A 13 ?_;refine cD r ?_ ?_
  ·refine A 13 ?_;exact xL (s:=(d++([b]:List Int),i64.wrap (b+1))) _ ((hX))
  ·refine A 7 ?_;exact xL (s:=(d,i64.wrap (b+1))) _ ((hX))
 ·exact B

def WM:Dw.Spec:=Pe [] .ground RF RE (λa=>Sd a.1 a.2) Pg noE
theorem Aas:Pb Tryz.prog 116 WM:=by
 refine fn2 2 (PD) Tryz.func116<|?_;rintro⟨a,b⟩;unfold Sd;refine A 14 ?_;refine lP (E:=λ(s:Int) (_g:Unit)=>[(0,.sl (a.map Mk)),(1,Av b),(7,Av (a.length:Int)),(8,Av s)]) (O:=λ_ _=>[]) (body:=λs=>Sf a b s) (s:=0) () ((hX))<|?_
 rintro c ⟨⟩ nn
 try dsimp only
 unfold Sf;refine A 6 ?_;refine cD r ?_ ?_
 ·refine A 15 ?_;refine bD λd e=>?_
  refine A 5 ?_;refine cD r ?_ ?_
  ·exact B
  ·refine A 7 ?_;exact xL (s:=i64.wrap (c+1)) () ((hX))
 ·exact B

def ZR (a:Pn):List D:=[AhD a]
def ZQ (ds:List D):Pn:=Aig (ds.getD 0 .top)
instance:Py ZR ZQ:=⟨λa=>by simp[ZQ,ZR]⟩
def Agp:Dw.Spec:=Pe [] (.row 1 3) ZR ZQ (λa=>Aan a) QX noE
theorem Alc:Pb Tryz.prog 117 Agp:=by
 refine fn2 1 (PD) Tryz.func117<|?_;intro b;unfold Aan;refine A 26 ?_;refine lP (E:=λ(s:(List Int)×Int×Int) (g:Nat)=>[(3,.osl 3 g 0 s.1.length),(4,Av s.2.2),(8,.sl (b.Keep.map D.bool)),(9,Av (b.Keep.length:Int)),(10,Av s.2.1)]) (O:=λs g=>[(3,dW g 1 3 (s.1.map Mk))]) (body:=λs=>AaK b s.1 s.2.1 s.2.2) (s:=(([]:List Int),0,0)) _ ((hX))<|?_
 rintro⟨c,d,a⟩ e nn
 try dsimp only
 unfold AaK;refine A 6 ?_;refine cD r ?_ ?_
 ·refine A 6 ?_;refine bD λf h=>?_
  refine A 19 ?_;refine cD r ?_ ?_
  ·refine A 11 ?_;exact xL (s:=(c++([a]:List Int),i64.wrap (d+1),i64.wrap (a+1))) _ ((hX))
  ·refine A 7 ?_;exact xL (s:=(c++([a]:List Int),i64.wrap (d+1),a)) _ ((hX))
 ·exact B

def AcZ (b:Le×Int):D:=.tup [Pk b.1,Av b.2]
def AgK:Dw.Spec:=Pe [] .val UB UA (λa=>Yl a.1 a.2) AcZ noE
theorem AlX:Pb Tryz.prog 64 AgK:=by
 refine fn2 2 (Pf (l:=[(112,AgL),(113,Aia),(114,Aer),(115,Alx),(116,WM),(117,Agp),(118,AdW)]) (by simp[AlY,AmF,Ajm,Anp,Aas,Alc,AgM])) Tryz.func64<|?_
 rintro⟨a,e⟩;unfold Yl;refine A 13 ?_;refine bD λx ac=>?_
 refine A 10 ?_;refine cD r ?_ ?_
 ·refine A 10 ?_;refine Yt (b:=((Le.mk 0 ([]) ([])),x)) r ?_ r r ?_ (by first|rfl|(simp only[OT];rfl)|(simp only[OV];rfl)|(simp only[OT,OV];rfl)|(simp[AcZ,Pk];try rfl)) (by decide)
  all_goals first|(simp;done)|(simp;omega)|rfl|(simp[QS,QJ];done)
 ·refine A 15 ?_;refine bD λc ad=>?_
  refine A 13 ?_;refine lP (E:=λ(s:(List Pa)×Int) (g:Nat×Nat×Nat×Nat×Nat×Nat×Nat)=>[(2,.optr 2 g.1 0 0),(3,.optr 3 g.2.1 0 0),(4,.optr 4 g.2.2.1 0 0),(7,.optr 7 g.2.2.2.1 0 0),(8,.osl 8 g.2.2.2.2.1 0 c.length),(33,.osl 8 g.2.2.2.2.1 0 c.length),(34,Av (c.length:Int)),(35,Av s.2)]) (O:=λs g=>[(2,dV g.1 3 36 (Pk a)),(3,dV g.2.1 2 44 (.agg [.sl (e.To.map Mk),.sl (e.Keep.map D.bool)])),(4,dV g.2.2.1 3 36 (.agg [Av 0,.nils,.nils])),(7,dV g.2.2.2.1 3 36 (.agg [Av a.Params,.osl 900 g.2.2.2.2.2.1 0 s.1.length,.osl 901 g.2.2.2.2.2.2 0 (([]:List Lo).length)])),(8,dW g.2.2.2.2.1 1 3 (c.map Mk)),(900,dW g.2.2.2.2.2.1 2 60 (s.1.map Pu)),(901,dW g.2.2.2.2.2.2 5 63 (([]:List Lo).map Pl))]) (body:=λs=>AbH c a e s.1 s.2) (s:=(([]:List Pa),0)) (_,_,_,_,_,_,_) ((AlK (gg:=7) (off:=1) (tt:=900) (s:=2) (tyy:=60) r r r r (AlK (gg:=7) (off:=2) (tt:=901) (s:=5) (tyy:=63) r r r r (hX))))<|?_
  rintro⟨d,o⟩ ⟨ae,af,ag,ah,ai,aj,ak⟩ nn
  try dsimp only
  unfold AbH;refine A 6 ?_;refine cD r ?_ ?_
  ·refine A 7 ?_;refine bD λao ap=>?_
   refine A 9 ?_;refine bD λj aq=>?_
   refine A 12 ?_;refine bD λp ar=>?_
   refine A 6 ?_;refine lP (E:=λ(s:Int×Int) (g:Nat×Nat×Nat×Nat×Nat×Nat×Nat×Nat×Nat)=>[(2,.optr 2 g.1 0 0),(3,.optr 3 g.2.1 0 0),(4,.optr 4 g.2.2.1 0 0),(7,.optr 7 g.2.2.2.1 0 0),(8,.osl 8 g.2.2.2.2.1 0 c.length),(11,.optr 11 g.2.2.2.2.2.1 0 0),(33,.osl 8 g.2.2.2.2.1 0 c.length),(34,Av (c.length:Int)),(35,Av o),(47,.osl 47 g.2.2.2.2.2.2.1 0 p.length),(48,Av (p.length:Int)),(49,Av s.2)]) (O:=λs g=>[(2,dV g.1 3 36 (Pk a)),(3,dV g.2.1 2 44 (.agg [.sl (e.To.map Mk),.sl (e.Keep.map D.bool)])),(4,dV g.2.2.1 3 36 (.agg [Av 0,.nils,.nils])),(7,dV g.2.2.2.1 3 36 (.agg [Av a.Params,.osl 900 g.2.2.2.2.2.2.2.1 0 d.length,.osl 901 g.2.2.2.2.2.2.2.2 0 (([]:List Lo).length)])),(8,dW g.2.2.2.2.1 1 3 (c.map Mk)),(11,dV g.2.2.2.2.2.1 2 60 (.agg [Av j.Size,Av s.1])),(47,dW g.2.2.2.2.2.2.1 1 3 (p.map Mk)),(900,dW g.2.2.2.2.2.2.2.1 2 60 (d.map Pu)),(901,dW g.2.2.2.2.2.2.2.2 5 63 (([]:List Lo).map Pl))]) (body:=λs=>AbI p a d j o s.1 s.2) (s:=(j.Align,0)) (_,_,_,_,_,_,_,_,_) ((hX))<|?_
   rintro⟨k,y⟩ ⟨au,av,aw,ax,ay,az,ba,bb,bc⟩ nn
   try dsimp only
   unfold AbI;refine A 6 ?_;refine cD r ?_ ?_
   ·refine A 7 ?_;refine bD λbd bf=>?_
    refine A 10 ?_;refine bD λz bg=>?_
    refine A 13 ?_;exact xL (s:=(PJ k z.Align,i64.wrap (y+1))) (_,_,_,_,_,_,_,_,_) ((hX))
   ·refine A 9 ?_;refine bS ([(Pa.mk j.Size k)]:List Pa) Pu r r r (by simp) r r r<|?_
    refine A 10 ?_;exact xL (s:=(d++([(Pa.mk j.Size k)]:List Pa),i64.wrap (o+1))) (_,_,_,_,_,_,_) ((Ql (E1:=[(2,.optr 2 _ 0 0),(3,.optr 3 _ 0 0),(4,.optr 4 _ 0 0),(7,.optr 7 _ 0 0),(8,.osl 8 _ 0 c.length),(33,.osl 8 _ 0 c.length),(34,Av (c.length:Int)),(35,Av (i64.wrap (o+1)))]) (O1:=[(2,dV _ 3 36 (Pk a)),(3,dV _ 2 44 (.agg [.sl (e.To.map Mk),.sl (e.Keep.map D.bool)])),(4,dV _ 3 36 (.agg [Av 0,.nils,.nils])),(7,dV _ 3 36 (.agg [Av a.Params,.osl 68 _ 0 ((d++([(Pa.mk j.Size k)]:List Pa)).length),.osl 901 _ 0 (([]:List Lo).length)])),(8,dW _ 1 3 (c.map Mk)),(68,dW _ 2 60 ((d++([(Pa.mk j.Size k)]:List Pa)).map Pu)),(901,dW _ 5 63 (([]:List Lo).map Pl))]) (hX) (λ_=>Pz (λg=>bif Nat.beq g 68 then 900 else g) (by rfl) (hX))))
  ·refine A 9 ?_;refine bD λq bh=>?_
   refine A 13 ?_;refine lP (E:=λ(s:(List Int)×Int) (g:Nat×Nat×Nat×Nat×Nat×Nat×Nat×Nat)=>[(2,.optr 2 g.1 0 0),(3,.optr 3 g.2.1 0 0),(4,.optr 4 g.2.2.1 0 0),(7,.optr 7 g.2.2.2.1 0 0),(8,.osl 8 g.2.2.2.2.1 0 c.length),(14,.osl 14 g.2.2.2.2.2.1 0 s.1.length),(74,.osl 14 g.2.2.2.2.2.1 0 s.1.length),(75,Av (q.length:Int)),(76,Av s.2)]) (O:=λs g=>[(2,dV g.1 3 36 (Pk a)),(3,dV g.2.1 2 44 (.agg [.sl (e.To.map Mk),.sl (e.Keep.map D.bool)])),(4,dV g.2.2.1 3 36 (.agg [Av 0,.nils,.nils])),(7,dV g.2.2.2.1 3 36 (.agg [Av a.Params,.osl 900 g.2.2.2.2.2.2.1 0 d.length,.osl 901 g.2.2.2.2.2.2.2 0 (([]:List Lo).length)])),(8,dW g.2.2.2.2.1 1 3 (c.map Mk)),(14,dW g.2.2.2.2.2.1 1 3 (s.1.map Mk)),(900,dW g.2.2.2.2.2.2.1 2 60 (d.map Pu)),(901,dW g.2.2.2.2.2.2.2 5 63 (([]:List Lo).map Pl))]) (body:=λs=>AbJ q c e a d s.1 s.2) (s:=(q,0)) (_,_,_,_,_,_,_,_) ((hX))<|?_
   rintro⟨bi,bj⟩ ⟨bk,bl,bm,bn,bo,bp,bq,br⟩ nn
   try dsimp only
   unfold AbJ;refine A 6 ?_;refine cD r ?_ ?_
   ·exact B
   ·refine A 8 ?_;refine bD λt bs=>?_
    refine A 9 ?_;refine bD λu bt=>?_
    refine A 15 ?_;refine lP (E:=λ(s:(List Lo)×Int) (g:Nat×Nat×Nat×Nat×Nat)=>[(4,.optr 4 g.1 0 0),(7,.optr 7 g.2.1 0 0),(17,.osl 17 g.2.2.1 0 t.length),(97,Av (u.length:Int)),(98,Av s.2)]) (O:=λs g=>[(4,dV g.1 3 36 (.agg [Av 0,.nils,.nils])),(7,dV g.2.1 3 36 (.agg [Av a.Params,.osl 900 g.2.2.2.2 0 d.length,.osl 93 g.2.2.2.1 0 s.1.length])),(17,dW g.2.2.1 1 3 (t.map Mk)),(93,dW g.2.2.2.1 5 63 (s.1.map Pl)),(900,dW g.2.2.2.2 2 60 (d.map Pu))]) (body:=λs=>Yg u t a d s.1 s.2) (s:=(u,0)) (_,_,_,_,_) ((hX))<|?_
    rintro⟨f,m⟩ ⟨bu,bv,bw,bx,bz⟩ nn
    try dsimp only
    unfold Yg;refine A 6 ?_;refine cD r ?_ ?_
    ·refine A 24 ?_;refine bD λca cb=>?_
     refine A 10 ?_;refine cD r ?_ ?_
     ·refine A 6 ?_;refine bD λcc cd=>?_
      refine A 2 ?_;refine bD λv ce=>?_
      refine A 3 ?_;refine bD λh aa=>sE (l:=f) (en:=Pl) (q':=(Lo.mk h.Op v h.B h.C h.Imm)) r r r r r r r (by simp) aa r r r r r<|?_
      refine A 8 ?_;exact xL (s:=(f.set m.toNat (Lo.mk h.Op v h.B h.C h.Imm),i64.wrap (m+1))) (_,_,_,_,_) ((hE ⟨rfl,r,r,r,r,trivial⟩ ⟨rfl,(Eq.trans (b:=dV _ 3 36 (.agg [Av a.Params,.osl 900 _ 0 d.length,.osl 93 _ 0 f.length])) r (by simp)),r,r,r,trivial⟩))
     ·refine A 6 ?_;refine cD r ?_ ?_
      ·refine A 6 ?_;refine bD λcf cg=>?_
       refine A 2 ?_;refine bD λw ch=>?_
       refine A 3 ?_;refine bD λi ab=>sE (l:=f) (en:=Pl) (q':=(Lo.mk i.Op i.A w i.C i.Imm)) r r r r r r r (by simp) ab r r r r r<|?_
       refine A 8 ?_;exact xL (s:=(f.set m.toNat (Lo.mk i.Op i.A w i.C i.Imm),i64.wrap (m+1))) (_,_,_,_,_) ((hE ⟨rfl,r,r,r,r,trivial⟩ ⟨rfl,(Eq.trans (b:=dV _ 3 36 (.agg [Av a.Params,.osl 900 _ 0 d.length,.osl 93 _ 0 f.length])) r (by simp)),r,r,r,trivial⟩))
      ·refine A 8 ?_;exact xL (s:=(f,i64.wrap (m+1))) (_,_,_,_,_) ((hX))
    ·refine A 13 ?_;refine Yt (b:=((Le.mk a.Params d f),0)) r ?_ r r ?_ (by first|rfl|(simp only[OT];rfl)|(simp only[OV];rfl)|(simp only[OT,OV];rfl)|(simp[AcZ,Pk];try rfl)) (by decide)
     all_goals first|(simp;done)|(simp;omega)|rfl|(simp[QS,QJ];done)

def AhO (b:PE):List D:=[SE b]
def Ach:Dw.Spec:=Pe [(0,(12,75))] .val QZ RB (λa=>VB a) UJ AhO
theorem Ahe:Pb Tryz.prog 31 Ach:=by
 refine fn2 1 (Pf (l:=[(63,AfU),(64,AgK),(60,AbC)]) (by simp[AkK,AlX,Afo])) Tryz.func31<|?_
 intro a;unfold VB;refine A 18 ?_;refine bD λc e=>?_
 refine A 5 ?_;refine Aic (l:=c) (en:=D.bool) (z':=.agg [.sl (a.p.Funcs.map Pk),Av a.i,Av a.f.Params,.sl (a.f.Slots.map Pu),.sl (a.f.Code.map Pl),.sl (a.x.Live.Out.map (eL Mk)),.sl (a.x.Rename.To.map Mk),.row 1 4 (c.map D.bool),.sl (a.x.LiveAfter.Out.map (eL Mk)),Av a.x.Layout.Args,Av a.x.Layout.Size,.sl (a.x.Layout.Off.map Mk)]) r r r r r r (λ_=>r) r r<|?_
 refine A 1 ?_;refine Qn (E:=[(0,.optr 8192 0 0 0)]) (O:=[(8192,dV 0 12 75 (.agg [.sl (a.p.Funcs.map Pk),Av a.i,Av a.f.Params,.sl (a.f.Slots.map Pu),.sl (a.f.Code.map Pl),.sl (a.x.Live.Out.map (eL Mk)),.sl (a.x.Rename.To.map Mk),.sl (c.map D.bool),.sl (a.x.LiveAfter.Out.map (eL Mk)),Av a.x.Layout.Args,Av a.x.Layout.Size,.sl (a.x.Layout.Off.map Mk)]))]) ((Acd (g:=8192) r (Aqr (by repeat' first|exact FrL.nil|apply FrL.row (ZJ λ_=>rfl)|apply FrL.same)) (hX))) λnn=>?_
 refine A 12 ?_;refine bD λb h=>?_
 refine A 6 ?_;refine SR (i:=0) (es':=[.agg [.sl (a.p.Funcs.map Pk),Av a.i,Av b.1.Params,.sl (b.1.Slots.map Pu),.sl (b.1.Code.map Pl),.sl (a.x.Live.Out.map (eL Mk)),.sl (a.x.Rename.To.map Mk),.sl (c.map D.bool),.sl (a.x.LiveAfter.Out.map (eL Mk)),Av a.x.Layout.Args,Av a.x.Layout.Size,.sl (a.x.Layout.Off.map Mk)]]) r r r r r r r (by first|trivial|(simp;done)|(simp;omega)) r r r r r r<|?_
 refine A 8 ?_;refine bD λd j=>?_
 refine A 4 ?_;refine SR (i:=0) (es':=[.agg [.sl (a.p.Funcs.map Pk),Av a.i,Av b.1.Params,.sl (b.1.Slots.map Pu),.sl (b.1.Code.map Pl),.sl (a.x.Live.Out.map (eL Mk)),.sl (a.x.Rename.To.map Mk),.sl (c.map D.bool),.sl (d.Out.map (eL Mk)),Av a.x.Layout.Args,Av a.x.Layout.Size,.sl (a.x.Layout.Off.map Mk)]]) r r r r r r r (by first|trivial|(simp;done)|(simp;omega)) r r r r r r<|?_
 exact B

def Ux (a:Ph×Int×Le):List D:=[Un a.1,Av a.2.1,Pk a.2.2]
def Uw (ds:List D):Ph×Int×Le:=(ZY (ds.getD 0 .top),uI (ds.getD 1 .top),Sz (ds.getD 2 .top))
instance:Py Ux Uw:=⟨λa=>by simp[Uw,Ux,uI]⟩
def Wj (b:Ph):D:=Un b
def AcP:Dw.Spec:=Pe [] .val Ux Uw (λa=>VT a.1 a.2.1 a.2.2) Wj noE
theorem Agh:Pb Tryz.prog 12 AcP:=by
 refine fn2 3 (Pf (l:=[(27,AoC)]) (by simp[ArI])) Tryz.func12<|?_
 rintro⟨f,d,c⟩;unfold VT;refine A 11 ?_;refine bD λa g=>?_
 refine A 12 ?_;refine cK λhq=>iO (l:=a) (en:=Pk) r r r r r hq<|bD λh e=>sE (l:=a) (en:=Pk) (q':=c) r r r r r r r (by simp) e r r r r r<|?_
 refine A 9 ?_;refine AhZ (b:=(Ph.mk (a.set d.toNat c))) r ?_ r r ?_ (by first|rfl|(simp only;rfl)|(simp only;rfl)|(simp only;rfl)|(simp[Wj,Un];try rfl))
 all_goals first|(simp;done)|(simp;omega)|rfl|(simp[QS,QJ];done)

def AcK:Dw.Spec:=Pe [] .ground Uj Ui (λa=>Wh a.1 a.2) Po noE
theorem AhK:Pb Tryz.prog 119 AcK:=by
 refine fn2 2 (PD) Tryz.func119<|?_;intro a;unfold Wh;exact B

def Ty (a:Le×Pj):List D:=[Pk a.1,WY a.2,.clo 119 []]
def Tx (ds:List D):Le×Pj:=(Sz (ds.getD 0 .top),Adg (ds.getD 1 .top))
instance:Py Ty Tx:=⟨λa=>by simp[Tx,Ty]⟩
def Ur:Dw.Spec:=Pe [] .val Ty Tx (λa=>Vi a.1 a.2) SK noE
def WO:Dw.Spec:=Vm (specs []) 1 [(.t 2)] Amo
theorem AcL:Pb Tryz.prog 142 WO:=RR (PD) Tryz.func142 (by decide) Aqn Aqo (by decide)
theorem Aez:Pb Tryz.prog 104 Ur:=by
 refine fn2 3 (Pf (l:=[(141,AaE),(142,WO),(143,SC),(119,AcK),(144,VM)]) (by simp[AeA,AcL,Tf,AhK,ZB])) Tryz.func104<|?_
 rintro⟨a,e⟩;unfold Vi;refine A 13 ?_;refine bD λr3 au=>?_
 refine A 10 ?_;refine cD r ?_ ?_
 ·exact B
 ·refine A 7 ?_;refine RN (E:=λ(g:Nat×Nat)=>[(2,.clo 119 []),(3,.optr 1003 g.1 0 0),(4,.optr 1004 g.2 0 0),(24,Av (a.Slots.length:Int))]) (O:=λg=>[(1003,dV g.1 3 36 (Pk a)),(1004,dV g.2 1 40 (.agg [.sl (e.Out.map (eL Mk))]))]) (_,_) ((Pz (λg=>bif Nat.ble 4096 g then g+20000 else g+1000) (by rfl) (hX)))<|?_
  rintro⟨y,aa⟩ nn
  try dsimp only
  refine Yu (ES:=λ(s:(List (List Bool))) (g:Nat×Nat×Nat)=>[(2,.clo 119 []),(3,.optr 3 g.1 0 0),(4,.optr 4 g.2.1 0 0),(25,.osl 4697 g.2.2 0 s.length)]) (OS:=λs g=>[(3,dV g.1 3 36 (Pk a)),(4,dV g.2.1 1 40 (.agg [.sl (e.Out.map (eL Mk))])),(4697,dW g.2.2 1 42 (s.map (eR 1 4 D.bool)))]) (j:=λs=>Sl a e s) (ds:=[Av (a.Slots.length:Int)]) (caps:=[]) (E:=[(0,Av (a.Slots.length:Int))]) r r r r r r r r ?_ ?_
  ·refine Um (c:=Amo)<|?_;refine A 8 ?_;refine cK λhq=>AaR (α:=Bool) r r r hq r<|?_
   refine A 2 ?_;refine Qn (E:=[(0,Av (a.Slots.length:Int)),(3,.osl 4099 _ 0 ((aA (a.Slots.length:Int).toNat ([]:(List Bool))).length))]) (O:=[(1003,dV y 3 36 (Pk a)),(1004,dV aa 1 40 (.agg [.sl (e.Out.map (eL Mk))])),(4099,dW _ 1 42 ((aA (a.Slots.length:Int).toNat ([]:(List Bool))).map (eR 1 4 D.bool)))]) ((Aft (g:=3) (g2:=4099) r r r (AiA (l:=aA (a.Slots.length:Int).toNat ([]:(List Bool))) (s':=1) (ty':=4) D.bool (by decide) (λ_ h=>List.eq_of_mem_replicate h)) (hX))) λnn=>?_
   refine A 9 ?_;refine lP (E:=λ(s:(List (List Bool))×Int) (g:Nat)=>[(0,Av (a.Slots.length:Int)),(3,.osl 4099 g 0 s.1.length),(8,Av ((aA (a.Slots.length:Int).toNat ([]:(List Bool))).length:Int)),(9,Av s.2)]) (O:=λs g=>[(1003,dV y 3 36 (Pk a)),(1004,dV aa 1 40 (.agg [.sl (e.Out.map (eL Mk))])),(4099,dW g 1 42 (s.1.map (eR 1 4 D.bool)))]) (body:=λs=>Sk a e s.1 s.2) (s:=(aA (a.Slots.length:Int).toNat ([]:(List Bool)),0)) _ ((hX))<|?_
   rintro⟨w,av⟩ aw nn
   try dsimp only
   unfold Sk;refine A 6 ?_;refine cD r ?_ ?_
   ·refine A 16 ?_;refine bD λag ah=>Aek (l:=w) (q:=ag) (q':=aA (a.Slots.length:Int).toNat false) D.bool rfl rfl rfl rfl (.inl rfl) ah rfl rfl ⟨⟨rfl,rfl,by simp,ZJ λ_=>rfl⟩,trivial,rfl⟩ (congrArg (λz=>[D.row _ _ z]) (Rj _ _ rfl)) rfl<|?_
    exact B
   ·refine A 12 ?_;exact RK (d:=.osl 4099 _ 0 w.length) (s:=w) (_,_,_) r (by first|rfl|(simp[Px,PA,rdA,raw,strip,PG,cells,PC];done)|(simp[Px,PA,rdA,raw,strip,PG,S.ge,S.go,look,Ub,cells,PC];done)) r ((Ql (E1:=[(2,.clo 119 []),(3,.optr 1003 y 0 0),(4,.optr 1004 aa 0 0),(25,.osl 4099 _ 0 w.length)]) (O1:=[(1003,dV y 3 36 (Pk a)),(1004,dV aa 1 40 (.agg [.sl (e.Out.map (eL Mk))])),(4099,dW _ 1 42 (w.map (eR 1 4 D.bool)))]) (hX) (λ_=>Pz (λg=>bif Nat.ble 24096 g then g-20000 else bif (Nat.ble 1000 g&&Nat.blt g 4096)then g-1000 else bif Nat.beq g 4099 then 4697 else g) (by rfl) (hX))))
  ·rintro x4 ⟨ax,ay,az⟩ nn
   try dsimp only
   unfold Sl;refine A 13 ?_;refine lP (E:=λ(s:(List (List Bool))×Int) (g:Nat×Nat)=>[(2,.clo 119 []),(4,.optr 4 g.1 0 0),(9,.osl 4697 g.2 0 s.1.length),(27,.sl (a.Code.map Pl)),(28,Av (a.Code.length:Int)),(29,Av s.2)]) (O:=λs g=>[(4,dV g.1 1 40 (.agg [.sl (e.Out.map (eL Mk))])),(4697,dW g.2 1 42 (s.1.map (eR 1 4 D.bool)))]) (body:=λs=>TW a e s.1 s.2) (s:=(x4,0)) (_,_) ((hX))<|?_
   rintro⟨o,k⟩ ⟨ba,bb⟩ nn
   try dsimp only
   unfold TW;refine A 6 ?_;refine cD r ?_ ?_
   ·refine A 7 ?_;refine bD λb bc=>?_
    refine A 10 ?_;refine bD λf bd=>?_
    refine A 8 ?_;refine sC (E:=λ(s:Bool×Bool) (g:Nat×Nat×Nat)=>[(2,.clo 119 []),(4,.optr 4 g.1 0 0),(9,.osl 4697 g.2.2 0 o.length),(10,Av k),(11,.optr 11 g.2.1 0 0),(12,Av f.1),(27,.sl (a.Code.map Pl)),(28,Av (a.Code.length:Int)),(29,Av k),(42,.optr 11 g.2.1 0 0),(43,Av b.Op),(44,.bool (b.Op==17)),(45,.bool s.1),(51,.bool s.2)]) (O:=λ_ g=>[(4,dV g.1 1 40 (.agg [.sl (e.Out.map (eL Mk))])),(11,dV g.2.1 5 63 (Pl b)),(4697,dW g.2.2 1 42 (o.map (eR 1 4 D.bool)))]) (j:=λs=>QF e k f b o s.1 s.2) ?_ ?_
    ·refine A 5 ?_;refine PI r ?_ ?_
     ·refine A 22 ?_;exact xL (s:=(o,i64.wrap (k+1))) (_,_) ((hX))
     ·refine A 4 ?_;refine PI r ?_ ?_
      ·refine A 9 ?_;refine cD r ?_ ?_
       ·refine A 8 ?_;exact xL (s:=(o,i64.wrap (k+1))) (_,_) ((hX))
       ·refine A 1 ?_;exact xC (s:=(true,(b.A==b.B))) (_,_,_) ((hX))
      ·refine A 11 ?_;exact xC (s:=(false,false)) (_,_,_) ((hX))
    ·rintro⟨x9,ac⟩ ⟨bf,bg,bh⟩ nn
     try dsimp only
     unfold QF;refine A 5 ?_;refine bD λp bi=>?_
     refine A 7 ?_;refine lP (E:=λ(s:(List (List Bool))×Int) (g:Nat×Nat×Nat)=>[(2,.clo 119 []),(4,.optr 4 g.1 0 0),(9,.osl 4697 g.2.2 0 s.1.length),(11,.optr 11 g.2.1 0 0),(12,Av f.1),(27,.sl (a.Code.map Pl)),(28,Av (a.Code.length:Int)),(29,Av k),(42,.optr 11 g.2.1 0 0),(43,Av b.Op),(44,.bool (b.Op==17)),(45,.bool x9),(51,.bool ac),(57,.sl (p.map Mk)),(58,Av (p.length:Int)),(59,Av s.2)]) (O:=λs g=>[(4,dV g.1 1 40 (.agg [.sl (e.Out.map (eL Mk))])),(11,dV g.2.1 5 63 (Pl b)),(4697,dW g.2.2 1 42 (s.1.map (eR 1 4 D.bool)))]) (body:=λs=>TX p f b k s.1 s.2) (s:=(o,0)) (_,_,_) ((hX))<|?_
     rintro⟨m,x⟩ ⟨bj,bk,bl⟩ nn
     try dsimp only
     unfold TX;refine A 6 ?_;refine cD r ?_ ?_
     ·refine A 6 ?_;refine bD λt bm=>?_
      refine A 5 ?_;refine sC (E:=λ(s:Bool) (g:Nat×Nat×Nat)=>[(2,.clo 119 []),(4,.optr 4 g.1 0 0),(9,.osl 4697 g.2.2 0 m.length),(11,.optr 11 g.2.1 0 0),(12,Av f.1),(15,Av t),(27,.sl (a.Code.map Pl)),(28,Av (a.Code.length:Int)),(29,Av k),(42,.optr 11 g.2.1 0 0),(43,Av b.Op),(44,.bool (b.Op==17)),(45,.bool x9),(51,.bool ac),(57,.sl (p.map Mk)),(58,Av (p.length:Int)),(59,Av x),(72,.bool s)]) (O:=λ_ g=>[(4,dV g.1 1 40 (.agg [.sl (e.Out.map (eL Mk))])),(11,dV g.2.1 5 63 (Pl b)),(4697,dW g.2.2 1 42 (m.map (eR 1 4 D.bool)))]) (j:=λs=>Qc m f t x s) ?_ ?_
      ·refine A 5 ?_;refine PI r ?_ ?_
       ·refine A 3 ?_;refine bD λaj bn=>?_
        refine A 4 ?_;exact xC (s:=(!aj)) (_,_,_) ((hX))
       ·refine A 7 ?_;exact xC (s:=false) (_,_,_) ((hX))
      ·rintro bo ⟨bp,bq,br⟩ nn
       try dsimp only
       unfold Qc;refine cD r ?_ ?_
       ·refine AkD λu ad=>AkD λv ae=>AsI λaf=>AmK (E:=[(2,.clo 119 []),(4,.optr 4 _ 0 0),(9,.osl 4697 _ 0 m.length),(11,.optr 11 _ 0 0),(12,Av f.1),(15,Av t),(27,.sl (a.Code.map Pl)),(28,Av (a.Code.length:Int)),(29,Av k),(42,.optr 11 _ 0 0),(43,Av b.Op),(44,.bool (b.Op==17)),(45,.bool x9),(51,.bool ac),(57,.sl (p.map Mk)),(58,Av (p.length:Int)),(59,Av x)]) (O:=[(4,dV _ 1 40 (.agg [.sl (e.Out.map (eL Mk))])),(11,dV _ 5 63 (Pl b)),(4697,dW _ 1 42 (((m.map (eR 1 4 D.bool)).set f.1.toNat (.hole 4717 _ u.length)).set t.toNat (.hole 4718 _ v.length))),(4717,dW _ 1 4 (u.map D.bool)),(4718,dW _ 1 4 (v.map D.bool))]) (Ant (g:=4697) (i:=f.1.toNat) (j:=t.toNat) (t1:=621) (t2:=622) D.bool r ad ae af (hX)) λnn=>?_
        refine A 2 ?_;refine cK λhq=>Yv (by simp) r r r r (by simpa using hq)<|Aej (nm:=4717) (q:=u.length) r r r (Aqs ad af)<|?_
        refine A 3 ?_;refine cK λhq=>Yv (by simp) r r r r (by simpa using hq)<|Aej (nm:=4718) (q:=v.length) r r r (Aqt ae)<|?_
        refine A 2 ?_;refine bD λak ao=>Abo (l:=u) (en:=D.bool) (q:=ak) (q':=true) r r r r r ao r (λ_=>r) r r r ⟨trivial,trivial,r⟩<|?_
        refine A 1 ?_;refine bD λap aq=>Abo (l:=v) (en:=D.bool) (q:=ap) (q':=true) r r r r r aq r (λ_=>r) r r r ⟨trivial,trivial,r⟩<|?_
        refine A 2 ?_;refine Qn (E:=[(2,.clo 119 []),(4,.optr 4 _ 0 0),(9,.osl 4697 _ 0 m.length),(11,.optr 11 _ 0 0),(12,Av f.1),(27,.sl (a.Code.map Pl)),(28,Av (a.Code.length:Int)),(29,Av k),(42,.optr 11 _ 0 0),(43,Av b.Op),(44,.bool (b.Op==17)),(45,.bool x9),(51,.bool ac),(57,.sl (p.map Mk)),(58,Av (p.length:Int)),(59,Av x)]) (O:=[(4,dV _ 1 40 (.agg [.sl (e.Out.map (eL Mk))])),(11,dV _ 5 63 (Pl b)),(4697,dW _ 1 42 (((m.set f.1.toNat (u.set t.toNat true)).set t.toNat (v.set f.1.toNat true)).map (eR 1 4 D.bool)))]) ((Amv (g:=4697) (g1:=4717) (g2:=4718) (l:=m) (en:=D.bool) (i:=f.1.toNat) (j:=t.toNat) (q1:=u) (q2:=v) (q1':=u.set t.toNat true) (q2':=v.set f.1.toNat true) ad ae af r r r (by simp) (by simp) (λ_=>r) (hE ⟨rfl,r,(QH (q:=m.length) r (by simp)),r,r,r,r,r,r,r,r,r,r,r,r,r,trivial⟩ ⟨rfl,r,r,trivial⟩))) λnn=>?_
        exact B
       ·refine A 7 ?_;exact xL (s:=(m,i64.wrap (x+1))) (_,_,_) ((hX))
     ·refine A 10 ?_;exact xL (s:=(m,i64.wrap (k+1))) (_,_) ((hX))
   ·refine A 4 ?_;refine Qn (E:=[(9,.osl 4697 _ 0 o.length)]) (O:=[(4697,dW _ 1 42 (o.map (eL D.bool)))]) ((Acd (g:=4697) r (AiB (l:=o) D.bool (λ_=>r)) (hX))) λnn=>?_
    exact B

def Aey:Dw.Spec:=Pe [] .val QU QT (λa=>Vh a.1 a.2) SK noE
theorem Ajq:Pb Tryz.prog 65 Aey:=by
 refine fn2 2 (Pf (l:=[(491624,Ur)]) (by simp[Aez])) Tryz.func65<|?_
 rintro⟨a,b⟩;unfold Vh;refine A 12 ?_;refine bD λd c=>cV (a,b) rfl rfl (show _=some Ur from by kernel_rfl) Py.ok rfl rfl (by simp) r c<|?_
 exact B

def Abe (a:Ph×Int):List D:=[Un a.1,Av a.2]
def Abd (ds:List D):Ph×Int:=(ZY (ds.getD 0 .top),uI (ds.getD 1 .top))
instance:Py Abe Abd:=⟨λa=>by simp[Abd,Abe,uI]⟩
def Ahg:Dw.Spec:=Pe [] .ground Abe Abd (λa=>XL a.1 a.2) Pg noE
theorem Ake:Pb Tryz.prog 67 Ahg:=by
 refine fn2 2 (PD) Tryz.func67<|?_;rintro⟨d,h⟩;unfold XL;refine A 17 ?_;refine bD λa i=>?_
 refine A 8 ?_;refine lP (E:=λ(s:Int×Int) (g:Nat)=>[(2,.optr 2 g 0 0),(5,Av s.2),(13,.sl (a.Code.map Pl)),(14,Av (a.Code.length:Int)),(15,Av s.1)]) (O:=λ_ g=>[(2,dV g 1 28 (.agg [.sl (d.Funcs.map Pk)]))]) (body:=λs=>Agi a d s.1 s.2) (s:=(0,0)) _ ((hX))<|?_
 rintro⟨b,c⟩ j nn
 try dsimp only
 unfold Agi;refine A 6 ?_;refine cD r ?_ ?_
 ·refine A 6 ?_;refine bD λe k=>?_
  refine A 19 ?_;refine cD r ?_ ?_
  ·refine A 15 ?_;exact xL (s:=(i64.wrap (b+1),PJ c (i64.wrap (e.A+1)))) _ ((hX))
  ·refine A 6 ?_;refine cD r ?_ ?_
   ·refine A 6 ?_;refine bD λf l=>?_
    refine A 13 ?_;exact xL (s:=(i64.wrap (b+1),PJ c f.Params)) _ ((hX))
   ·refine A 8 ?_;exact xL (s:=(i64.wrap (b+1),c)) _ ((hX))
 ·exact B

def Akt:Dw.Spec:=Pe [] .ground Qp Qo (λa=>Aaq a) Po noE
theorem AnX:Pb Tryz.prog 157 Akt:=by
 refine fn2 1 (PD) Tryz.func157<|?_;intro a;unfold Aaq;exact B

def Aad:Dw.Spec:=Pe [] .ground Qp Qo (λa=>Rk a) Po noE
theorem AcH:Pb Tryz.prog 158 Aad:=by
 refine fn2 1 (PD) Tryz.func158<|?_;intro a;unfold Rk;exact B

def Zv (a:Pa):List D:=[Pu a]
def Zu (ds:List D):Pa:=UL (ds.getD 0 .top)
instance:Py Zv Zu:=⟨λa=>by simp[Zu,Zv]⟩
def Aga:Dw.Spec:=Pe [] .ground Zv Zu (λa=>Xs a) Po noE
theorem AkW:Pb Tryz.prog 156 Aga:=by
 refine fn2 1 (Pf (l:=[(157,Akt),(158,Aad)]) (by simp[AnX,AcH])) Tryz.func156<|?_
 intro a;unfold Xs;exact B

end
end Go.Proofs.YtilmapojncgflaaGreatDoor
