/-
  Programs on typed data, and the proofs that the code does what they say; written by a program (dx.py).
-/
import Derived.Test.YtilmapojncgflaaGreatDoorProg
import Derived.Test.YtilmapojncgflaaGreatDoorDd
import Derived.KernelRfl
import Derived.Test.YtilmapojncgflaaGreatDoorSh
import Derived.Test.YtilmapojncgflaaGreatDoorCl
import Derived.Test.YtilmapojncgflaaGreatDoorDxP
import Derived.Test.YtilmapojncgflaaGreatDoorDxF1
import Derived.Test.YtilmapojncgflaaGreatDoorDxF2
import Derived.Test.YtilmapojncgflaaGreatDoorDxF3
open List renaming replicate->aA
namespace Go.Proofs.YtilmapojncgflaaGreatDoor
open Go Go.Dw Go.Proofs
open Go.IntKind (i64)
set_option maxRecDepth 100000
set_option maxHeartbeats 40000000
open Go.Dw renaming Rl -> bD,Qf -> cK,AdA -> bS,Abc -> cV,Uz -> sE,Zy -> iO,AbB -> cD,AdW -> xC,Zg -> xL,AaD -> hE,AdX -> lP,Zh -> sC,Akj -> mF,rf -> r
noncomputable section
def Xu (a:OW×Int):List D:=[Pu a.1,Av a.2]
def Xt (ds:List D):OW×Int:=(RI (ds.getD 0 .top),uI (ds.getD 1 .top))
instance:PA Xu Xt:=⟨λa=>by simp[Xt,Xu,uI]⟩
def Aks (b:Bool×OW):D:=.bool b.1
def Akr (b:Bool×OW):List D:=[Pu b.2]
def Aed:Dw.Spec:=Pd [(0,(8,201))] .val Xu Xt (λa=>UB a.1 a.2) Aks Akr
theorem AjB:Pa Tryz.prog 190 Aed:=by
 refine fn2 2 (Pe (l:=[(193,VV)]) (by simp[YQ])) Tryz.func190<|?_
 rintro⟨a,b⟩;unfold UB;refine A 8 ?_;refine bD λe f=>?_
 refine A 2 ?_;refine Px r ?_ ?_
 ·refine A 4 ?_;refine cK λhq=>UY r r r hq<|bD λc d=>Xr (q:=c) (l:=a.toList) (en:=AbP) (j:=(i64.wrap (b.tdiv 64)).toNat) (by simp) r r r d r (λ_=>r)<|?_
  exact B
 ·exact B

def AlN:Dw.Spec:=Pd [] .ground Qw Qv (λa=>Aeb a.1 a.2) Pm noE
theorem Aqh:Pa Tryz.prog 149 AlN:=by
 refine fn2 2 (Pe (l:=[(181,UQ),(190,Aed)]) (by simp[VE,AjB])) Tryz.func149<|?_
 intro a;unfold Aeb;exact B

def AhW:Dw.Spec:=Pd [] (.row 1 3) Ql Qk (λa=>Abh a.1 a.2) PL noE
theorem Ang:Pa Tryz.prog 111 AhW:=by
 refine fn2 2 (Pe (l:=[(143,Te),(149,AlN)]) (by simp[TK,Aqh])) Tryz.func111<|?_
 rintro⟨b,d⟩;unfold Abh;refine A 22 ?_;refine lP (E:=λ(s:(List Int)×Int) (g:Nat×Nat)=>[(3,.optr 3 g.1 0 0),(5,.osl 5 g.2 0 s.1.length),(11,.sl (b.Code.map Pp)),(12,Av (b.Code.length:Int)),(13,Av s.2)]) (O:=λs g=>[(3,dV g.1 1 40 (.agg [.sl (d.Out.map (eL Lo))])),(5,dW g.2 1 3 (s.1.map Lo))]) (body:=λs=>AbM b d s.1 s.2) (s:=(([]:List Int),0)) (_,_) ((hX))<|?_
 rintro⟨c,a⟩ ⟨e,f⟩ nn
 try dsimp only
 unfold AbM;refine A 6 ?_;refine cD r ?_ ?_
 ·refine A 7 ?_;refine bD λh i=>?_
  refine A 10 ?_;refine bD λj k=>?_
  refine A 12 ?_;refine Px r ?_ ?_
  ·refine A 3 ?_;refine bD λm o=>?_
   refine A 3 ?_;refine bD λp q=>?_
   refine A 5 ?_;refine cD r ?_ ?_
   ·refine A 13 ?_;exact xL (s:=(c++([a]:List Int),i64.wrap (a+1))) (_,_) ((hX))
   ·refine A 7 ?_;exact xL (s:=(c,i64.wrap (a+1))) (_,_) ((hX))
  ·refine A 19 ?_;exact xL (s:=(c,i64.wrap (a+1))) (_,_) ((hX))
 ·exact B

def Aat (a:Le×Pj×(List Int)):List D:=[Pl a.1,Uu a.2.1,.sl (a.2.2.map Lo)]
def Aas (ds:List D):Le×Pj×(List Int):=(Sz (ds.getD 0 .top),XY (ds.getD 1 .top),(uL uI) (ds.getD 2 .top))
instance:PA Aat Aas:=⟨λa=>by simp[Aas,Aat,Qh (u:=uI) (en:=Lo) (λ_=>rfl)]⟩
def AnR (b:(List Bool)):D:=.sl (b.map D.bool)
def AhX:Dw.Spec:=Pd [] (.row 1 4) Aat Aas (λa=>Yl a.1 a.2.1 a.2.2) AnR noE
theorem Anh:Pa Tryz.prog 63 AhX:=by
 refine fn2 3 (Pe (l:=[(111,AhW)]) (by simp[Ang])) Tryz.func63<|?_
 rintro⟨b,i,c⟩;unfold Yl;refine A 20 ?_;refine bD λa j=>?_
 refine A 17 ?_;refine lP (E:=λ(s:(List Bool)×Int) (g:Nat×Nat)=>[(2,.sl (c.map Lo)),(7,.osl 7 g.1 0 s.1.length),(8,.osl 8 g.2 0 a.length),(21,.sl (b.Code.map Pp)),(22,Av (b.Code.length:Int)),(23,Av s.2)]) (O:=λs g=>[(7,dW g.1 1 4 (s.1.map D.bool)),(8,dW g.2 1 3 (a.map Lo))]) (body:=λs=>AbN b a c s.1 s.2) (s:=(aA (b.Code.length:Int).toNat false,0)) (_,_) ((hX))<|?_
 rintro⟨d,e⟩ ⟨k,m⟩ nn
 try dsimp only
 unfold AbN;refine A 6 ?_;refine cD r ?_ ?_
 ·refine A 7 ?_;refine bD λf o=>?_
  refine A 16 ?_;refine lP (E:=λ(s:Int) (g:Nat×Nat×Nat)=>[(2,.sl (c.map Lo)),(7,.osl 7 g.1 0 d.length),(8,.osl 8 g.2.1 0 a.length),(9,Av e),(10,.optr 10 g.2.2 0 0),(21,.sl (b.Code.map Pp)),(22,Av (b.Code.length:Int)),(23,Av e),(28,.osl 8 g.2.1 0 a.length),(29,Av (a.length:Int)),(30,Av s)]) (O:=λ_ g=>[(7,dW g.1 1 4 (d.map D.bool)),(8,dW g.2.1 1 3 (a.map Lo)),(10,dV g.2.2 5 63 (Pp f))]) (body:=λs=>XQ a e d f c s) (s:=0) (_,_,_) ((hX))<|?_
  rintro h ⟨p,q,t⟩ nn
  try dsimp only
  unfold XQ;refine A 6 ?_;refine cD r ?_ ?_
  ·refine A 7 ?_;refine bD λu v=>?_
   refine A 11 ?_;refine cD r ?_ ?_
   ·refine A 12 ?_;exact xL (s:=(d,i64.wrap (e+1))) (_,_) ((hX))
   ·refine A 7 ?_;exact xL (s:=i64.wrap (h+1)) (_,_,_) ((hX))
  ·exact B
 ·exact B

def WN (a:Le×(List Int)):List D:=[Pl a.1,.sl (a.2.map Lo)]
def WM (ds:List D):Le×(List Int):=(Sz (ds.getD 0 .top),(uL uI) (ds.getD 1 .top))
instance:PA WN WM:=⟨λa=>by simp[WM,WN,Qh (u:=uI) (en:=Lo) (λ_=>rfl)]⟩
def AhU:Dw.Spec:=Pd [] .ground WN WM (λa=>Yi a.1 a.2) Pm noE
theorem Ane:Pa Tryz.prog 150 AhU:=by
 refine fn2 2 (Py) Tryz.func150<|?_;rintro⟨b,a⟩;unfold Yi;refine A 17 ?_;refine cD r ?_ ?_
 ·exact B
 ·refine A 11 ?_;refine lP (E:=λ(s:Int) (g:Nat)=>[(1,.sl (a.map Lo)),(2,.optr 2 g 0 0),(13,.sl (a.map Lo)),(14,Av (a.length:Int)),(15,Av s)]) (O:=λ_ g=>[(2,dV g 3 36 (Pl b))]) (body:=λs=>XO a b s) (s:=0) _ ((hX))<|?_
  rintro c d nn
  try dsimp only
  unfold XO;refine A 6 ?_;refine cD r ?_ ?_
  ·refine A 7 ?_;refine bD λe f=>?_
   refine A 11 ?_;refine Px r ?_ ?_
   ·exact B
   ·refine A 6 ?_;refine Px r ?_ ?_
    ·exact B
    ·refine A 3 ?_;refine bD λh i=>?_
     refine A 6 ?_;refine bD λj k=>?_
     refine A 6 ?_;refine Px r ?_ ?_
     ·exact B
     ·refine A 2 ?_;refine bD λl m=>?_
      refine A 7 ?_;refine cD r ?_ ?_
      ·exact B
      ·refine A 7 ?_;exact xL (s:=i64.wrap (c+1)) _ ((hX))
  ·exact B

def Agx:Dw.Spec:=Pd [] .ground RC RB (λa=>YZ a) Pm noE
theorem AlH:Pa Tryz.prog 151 Agx:=by
 refine fn2 1 (Pe (l:=[(143,Te)]) (by simp[TK])) Tryz.func151<|?_
 intro a;unfold YZ;exact B

def RR (a:Le×Pk):List D:=[Pl a.1,AdL a.2]
def RQ (ds:List D):Le×Pk:=(Sz (ds.getD 0 .top),AdY (ds.getD 1 .top))
instance:PA RR RQ:=⟨λa=>by simp[RQ,RR]⟩
def AiW:Dw.Spec:=Pd [] .ground RR RQ (λa=>AcQ a.1 a.2) Pc noE
theorem Aoo:Pa Tryz.prog 112 AiW:=by
 refine fn2 2 (Pe (l:=[(150,AhU),(151,Agx)]) (by simp[Ane,AlH])) Tryz.func112<|?_
 rintro⟨b,a⟩;unfold AcQ;refine A 7 ?_;refine sC (E:=λ(_s:Unit) (g:Nat×Nat)=>[(2,.optr 2 g.1 0 0),(3,.optr 3 g.2 0 0)]) (O:=λ_ g=>[(2,dV g.1 3 36 (Pl b)),(3,dV g.2 2 44 (.agg [.sl (a.To.map Lo),.sl (a.Keep.map D.bool)]))]) (j:=λ_=>Adx b a) ?_ ?_
 ·refine A 5 ?_;refine bD λd e=>?_
  refine A 3 ?_;refine Px r ?_ ?_
  ·exact B
  ·refine A 10 ?_;refine cD r ?_ ?_
   ·exact B
   ·refine A 1 ?_;exact xC (s:=()) (_,_) ((hX))
 ·rintro⟨⟩ ⟨f,h⟩ nn
  try dsimp only
  unfold Adx;refine A 10 ?_;refine lP (E:=λ(s:Int) (g:Nat)=>[(3,.optr 3 g 0 0),(22,.sl (b.Code.map Pp)),(23,Av (b.Code.length:Int)),(24,Av s)]) (O:=λ_ g=>[(3,dV g 2 44 (.agg [.sl (a.To.map Lo),.sl (a.Keep.map D.bool)]))]) (body:=λs=>Adw b a s) (s:=0) _ ((hX))<|?_
  rintro c i nn
  try dsimp only
  unfold Adw;refine A 6 ?_;refine cD r ?_ ?_
  ·refine A 7 ?_;refine bD λk m=>?_
   refine A 12 ?_;refine bD λo p=>?_
   refine A 4 ?_;refine Px r ?_ ?_
   ·refine A 1 ?_;refine bD λq t=>?_
    refine A 5 ?_;refine cD r ?_ ?_
    ·exact B
    ·refine A 7 ?_;exact xL (s:=i64.wrap (c+1)) _ ((hX))
   ·refine A 14 ?_;exact xL (s:=i64.wrap (c+1)) _ ((hX))
  ·exact B

def Wo (a:Int×(List Int)):List D:=[Av a.1,.fptr (.sl (a.2.map Lo)) 0]
def Wn (ds:List D):Int×(List Int):=(uI (ds.getD 0 .top),(uL uI) (fpD (ds.getD 1 .top)))
instance:PA Wo Wn:=⟨λa=>by simp[Wn,Wo,uI,fpD,Qh (u:=uI) (en:=Lo) (λ_=>rfl)]⟩
def AdO:Dw.Spec:=Pd [] .ground Wo Wn (λa=>Ro a.1 a.2) Pc noE
theorem Ajl:Pa Tryz.prog 191 AdO:=by
 refine fn2 2 (Py) Tryz.func191<|?_;intro a;unfold Ro;exact B

def Aib (b:OT):D:=Pp b
def Aic:Dw.Spec:=Pd [] .ground WA Wz (λa=>Yn a.1 a.2) Aib noE
theorem Ans:Pa Tryz.prog 154 Aic:=by
 refine fn2 2 (Pe (l:=[(191,AdO)]) (by simp[Ajl])) Tryz.func154<|?_
 rintro⟨b,a⟩;unfold Yn;refine A 6 ?_;refine Qx (E:=[(2,.optr 2 _ 0 0),(3,.fptr (.sl (a.map Lo)) 0),(4,.optr 4 _ 0 0)]) (O:=[(2,dV _ 5 63 (Pp b)),(4,dV _ 5 63 (.agg [Av 0,Av 0,Av 0,Av 0,AkE 0]))]) ((hV 3 r (hY))) λnn=>?_
 refine A 2 ?_;refine mF (caps:=[.fptr (.sl (a.map Lo)) 0]) r r (by simp[VC])<|?_
 exact B

def Adz (a:Le×Pk×(List Int)):List D:=[Pl a.1,AdL a.2.1,.sl (a.2.2.map Lo)]
def Ady (ds:List D):Le×Pk×(List Int):=(Sz (ds.getD 0 .top),AdY (ds.getD 1 .top),(uL uI) (ds.getD 2 .top))
instance:PA Adz Ady:=⟨λa=>by simp[Ady,Adz,Qh (u:=uI) (en:=Lo) (λ_=>rfl)]⟩
def ApK (b:(List OT)):D:=.sl (b.map Pp)
def AfU:Dw.Spec:=Pd [] (.row 5 63) Adz Ady (λa=>YI a.1 a.2.1 a.2.2) ApK noE
theorem AiX:Pa Tryz.prog 118 AfU:=by
 refine fn2 3 (Pe (l:=[(154,Aic)]) (by simp[Ans])) Tryz.func118<|?_
 rintro⟨a,b,d⟩;unfold YI;refine A 22 ?_;refine lP (E:=λ(s:(List OT)×Int) (g:Nat×Nat)=>[(2,.sl (d.map Lo)),(4,.optr 4 g.1 0 0),(7,.osl 7 g.2 0 s.1.length),(11,.sl (a.Code.map Pp)),(12,Av (a.Code.length:Int)),(13,Av s.2)]) (O:=λs g=>[(4,dV g.1 2 44 (.agg [.sl (b.To.map Lo),.sl (b.Keep.map D.bool)])),(7,dW g.2 5 63 (s.1.map Pp))]) (body:=λs=>AeP a b d s.1 s.2) (s:=(([]:List OT),0)) (_,_) ((hX))<|?_
 rintro⟨c,e⟩ ⟨k,m⟩ nn
 try dsimp only
 unfold AeP;refine A 6 ?_;refine cD r ?_ ?_
 ·refine A 7 ?_;refine bD λf o=>?_
  refine A 7 ?_;refine sC (E:=λ(s:Bool) (g:Nat×Nat×Nat)=>[(2,.sl (d.map Lo)),(4,.optr 4 g.1 0 0),(7,.osl 7 g.2.1 0 c.length),(9,.optr 9 g.2.2 0 0),(11,.sl (a.Code.map Pp)),(12,Av (a.Code.length:Int)),(13,Av e),(29,.bool s)]) (O:=λ_ g=>[(4,dV g.1 2 44 (.agg [.sl (b.To.map Lo),.sl (b.Keep.map D.bool)])),(7,dW g.2.1 5 63 (c.map Pp)),(9,dV g.2.2 5 63 (Pp f))]) (j:=λs=>Xp f d c e s) ?_ ?_
  ·refine A 7 ?_;refine Px r ?_ ?_
   ·refine A 3 ?_;refine bD λi p=>?_
    refine A 4 ?_;exact xC (s:=i) (_,_,_) ((hX))
   ·refine A 7 ?_;exact xC (s:=false) (_,_,_) ((hX))
  ·rintro q ⟨t,u,v⟩ nn
   try dsimp only
   unfold Xp;refine cD r ?_ ?_
   ·refine A 4 ?_;refine bD λh w=>?_
    refine A 1 ?_;refine bS ([h]:List OT) Pp r r r (by simp) r r r<|?_
    refine A 9 ?_;exact xL (s:=(c++([h]:List OT),i64.wrap (e+1))) (_,_) ((hX))
   ·refine A 7 ?_;exact xL (s:=(c,i64.wrap (e+1))) (_,_) ((hX))
 ·exact B

def Akh:Dw.Spec:=Pd [] (.row 1 3) RR RQ (λa=>AaY a.1 a.2) PL noE
theorem AoZ:Pa Tryz.prog 113 Akh:=by
 refine fn2 2 (Pe (l:=[(118,AfU),(152,AgQ),(143,Te),(153,Ajc)]) (by simp[AiX,AjJ,TK,AlO])) Tryz.func113<|?_
 rintro⟨f,h⟩;unfold AaY;refine A 19 ?_;refine bD λa i=>?_
 refine A 6 ?_;refine lP (E:=λ(s:(List Int)×Int) (g:Nat×Nat)=>[(5,.osl 5 g.1 0 s.1.length),(14,.osl 14 g.2 0 a.length),(15,Av (a.length:Int)),(16,Av s.2)]) (O:=λs g=>[(5,dW g.1 1 3 (s.1.map Lo)),(14,dW g.2 5 63 (a.map Pp))]) (body:=λs=>AeO a s.1 s.2) (s:=(([]:List Int),0)) (_,_) ((hX))<|?_
 rintro⟨b,c⟩ ⟨j,k⟩ nn
 try dsimp only
 unfold AeO;refine A 6 ?_;refine cD r ?_ ?_
 ·refine A 7 ?_;refine bD λm o=>?_
  refine A 9 ?_;refine bD λd p=>?_
  refine A 8 ?_;refine bD λe q=>?_
  refine A 13 ?_;refine cD r ?_ ?_
  ·refine A 13 ?_;exact xL (s:=((b++d)++([e.1]:List Int),i64.wrap (c+1))) (_,_) ((hX))
  ·refine A 7 ?_;exact xL (s:=(b++d,i64.wrap (c+1))) (_,_) ((hX))
 ·exact B

def Agt:Dw.Spec:=Pd [] (.row 1 3) Qw Qv (λa=>YU a.1 a.2) PL noE
theorem AlE:Pa Tryz.prog 114 Agt:=by
 refine fn2 2 (Py) Tryz.func114<|?_;rintro⟨a,c⟩;unfold YU;refine A 19 ?_;refine lP (E:=λ(s:(List Int)×Int) (g:Nat)=>[(1,Av c),(5,.osl 5 g 0 s.1.length),(8,.sl (a.map Lo)),(9,Av (a.length:Int)),(10,Av s.2)]) (O:=λs g=>[(5,dW g 1 3 (s.1.map Lo))]) (body:=λs=>ZF a c s.1 s.2) (s:=(([]:List Int),0)) _ ((hX))<|?_
 rintro⟨d,b⟩ e nn
 try dsimp only
 unfold ZF;refine A 6 ?_;refine cD r ?_ ?_
 ·refine A 7 ?_;refine bD λf h=>?_
  refine A 13 ?_;refine cD r ?_ ?_
  ·refine A 13 ?_;exact xL (s:=(d++([b]:List Int),i64.wrap (b+1))) _ ((hX))
  ·refine A 7 ?_;exact xL (s:=(d,i64.wrap (b+1))) _ ((hX))
 ·exact B

def XI:Dw.Spec:=Pd [] .ground Qw Qv (λa=>Sy a.1 a.2) Pc noE
theorem AbF:Pa Tryz.prog 116 XI:=by
 refine fn2 2 (Py) Tryz.func116<|?_;rintro⟨a,b⟩;unfold Sy;refine A 14 ?_;refine lP (E:=λ(s:Int) (_g:Unit)=>[(0,.sl (a.map Lo)),(1,Av b),(7,Av (a.length:Int)),(8,Av s)]) (O:=λ_ _=>[]) (body:=λs=>SB a b s) (s:=0) () ((hX))<|?_
 rintro c ⟨⟩ nn
 try dsimp only
 unfold SB;refine A 6 ?_;refine cD r ?_ ?_
 ·refine A 15 ?_;refine bD λd e=>?_
  refine A 5 ?_;refine cD r ?_ ?_
  ·exact B
  ·refine A 7 ?_;exact xL (s:=i64.wrap (c+1)) () ((hX))
 ·exact B

def Xo (a:Pk):List D:=[AdL a]
def Xn (ds:List D):Pk:=AdY (ds.getD 0 .top)
instance:PA Xo Xn:=⟨λa=>by simp[Xn,Xo]⟩
def Aix:Dw.Spec:=Pd [] (.row 1 3) Xo Xn (λa=>Abz a) PL noE
theorem Anz:Pa Tryz.prog 117 Aix:=by
 refine fn2 1 (Py) Tryz.func117<|?_;intro b;unfold Abz;refine A 26 ?_;refine lP (E:=λ(s:(List Int)×Int×Int) (g:Nat)=>[(3,.osl 3 g 0 s.1.length),(4,Av s.2.2),(8,.sl (b.Keep.map D.bool)),(9,Av (b.Keep.length:Int)),(10,Av s.2.1)]) (O:=λs g=>[(3,dW g 1 3 (s.1.map Lo))]) (body:=λs=>Aci b s.1 s.2.1 s.2.2) (s:=(([]:List Int),0,0)) _ ((hX))<|?_
 rintro⟨c,d,a⟩ e nn
 try dsimp only
 unfold Aci;refine A 6 ?_;refine cD r ?_ ?_
 ·refine A 6 ?_;refine bD λf h=>?_
  refine A 19 ?_;refine cD r ?_ ?_
  ·refine A 11 ?_;exact xL (s:=(c++([a]:List Int),i64.wrap (d+1),i64.wrap (a+1))) _ ((hX))
  ·refine A 7 ?_;exact xL (s:=(c++([a]:List Int),i64.wrap (d+1),a)) _ ((hX))
 ·exact B

def Xm (b:Le×Int):D:=.tup [Pl b.1,Av b.2]
def AiV:Dw.Spec:=Pd [] .val RR RQ (λa=>Zs a.1 a.2) Xm noE
theorem Aon:Pa Tryz.prog 64 AiV:=by
 refine fn2 2 (Pe (l:=[(112,AiW),(113,Akh),(114,Agt),(115,AnO),(116,XI),(117,Aix),(118,AfU)]) (by simp[Aoo,AoZ,AlE,ApP,AbF,Anz,AiX])) Tryz.func64<|?_
 rintro⟨a,e⟩;unfold Zs;refine A 13 ?_;refine bD λx ac=>?_
 refine A 10 ?_;refine cD r ?_ ?_
 ·refine A 10 ?_;refine Sm (b:=((Le.mk 0 ([]) ([])),x)) r ?_ r r ?_ (by first|rfl|(simp only[Mk];rfl)|(simp only[OV];rfl)|(simp only[Mk,OV];rfl)|(simp[Xm,Pl];try rfl)) (by decide)
  all_goals first|(simp;done)|(simp;omega)|rfl|(simp[QA,Qu];done)
 ·refine A 15 ?_;refine bD λc ad=>?_
  refine A 13 ?_;refine lP (E:=λ(s:(List Pb)×Int) (g:Nat×Nat×Nat×Nat×Nat×Nat×Nat)=>[(2,.optr 2 g.1 0 0),(3,.optr 3 g.2.1 0 0),(4,.optr 4 g.2.2.1 0 0),(7,.optr 7 g.2.2.2.1 0 0),(8,.osl 8 g.2.2.2.2.1 0 c.length),(33,.osl 8 g.2.2.2.2.1 0 c.length),(34,Av (c.length:Int)),(35,Av s.2)]) (O:=λs g=>[(2,dV g.1 3 36 (Pl a)),(3,dV g.2.1 2 44 (.agg [.sl (e.To.map Lo),.sl (e.Keep.map D.bool)])),(4,dV g.2.2.1 3 36 (.agg [Av 0,.nils,.nils])),(7,dV g.2.2.2.1 3 36 (.agg [Av a.Params,.osl 900 g.2.2.2.2.2.1 0 s.1.length,.osl 901 g.2.2.2.2.2.2 0 (([]:List OT).length)])),(8,dW g.2.2.2.2.1 1 3 (c.map Lo)),(900,dW g.2.2.2.2.2.1 2 60 (s.1.map Ps)),(901,dW g.2.2.2.2.2.2 5 63 (([]:List OT).map Pp))]) (body:=λs=>Adt c a e s.1 s.2) (s:=(([]:List Pb),0)) (_,_,_,_,_,_,_) ((Aif (gg:=7) (off:=1) (tt:=900) (s:=2) (tyy:=60) r r r r (Aif (gg:=7) (off:=2) (tt:=901) (s:=5) (tyy:=63) r r r r (hX))))<|?_
  rintro⟨d,o⟩ ⟨ae,af,ag,ah,ai,aj,ak⟩ nn
  try dsimp only
  unfold Adt;refine A 6 ?_;refine cD r ?_ ?_
  ·refine A 7 ?_;refine bD λao ap=>?_
   refine A 9 ?_;refine bD λj aq=>?_
   refine A 12 ?_;refine bD λp ar=>?_
   refine A 6 ?_;refine lP (E:=λ(s:Int×Int) (g:Nat×Nat×Nat×Nat×Nat×Nat×Nat×Nat×Nat)=>[(2,.optr 2 g.1 0 0),(3,.optr 3 g.2.1 0 0),(4,.optr 4 g.2.2.1 0 0),(7,.optr 7 g.2.2.2.1 0 0),(8,.osl 8 g.2.2.2.2.1 0 c.length),(11,.optr 11 g.2.2.2.2.2.1 0 0),(33,.osl 8 g.2.2.2.2.1 0 c.length),(34,Av (c.length:Int)),(35,Av o),(47,.osl 47 g.2.2.2.2.2.2.1 0 p.length),(48,Av (p.length:Int)),(49,Av s.2)]) (O:=λs g=>[(2,dV g.1 3 36 (Pl a)),(3,dV g.2.1 2 44 (.agg [.sl (e.To.map Lo),.sl (e.Keep.map D.bool)])),(4,dV g.2.2.1 3 36 (.agg [Av 0,.nils,.nils])),(7,dV g.2.2.2.1 3 36 (.agg [Av a.Params,.osl 900 g.2.2.2.2.2.2.2.1 0 d.length,.osl 901 g.2.2.2.2.2.2.2.2 0 (([]:List OT).length)])),(8,dW g.2.2.2.2.1 1 3 (c.map Lo)),(11,dV g.2.2.2.2.2.1 2 60 (.agg [Av j.Size,Av s.1])),(47,dW g.2.2.2.2.2.2.1 1 3 (p.map Lo)),(900,dW g.2.2.2.2.2.2.2.1 2 60 (d.map Ps)),(901,dW g.2.2.2.2.2.2.2.2 5 63 (([]:List OT).map Pp))]) (body:=λs=>Adu p a d j o s.1 s.2) (s:=(j.Align,0)) (_,_,_,_,_,_,_,_,_) ((hX))<|?_
   rintro⟨k,y⟩ ⟨au,av,aw,ax,ay,az,ba,bb,bc⟩ nn
   try dsimp only
   unfold Adu;refine A 6 ?_;refine cD r ?_ ?_
   ·refine A 7 ?_;refine bD λbd bf=>?_
    refine A 10 ?_;refine bD λz bg=>?_
    refine A 13 ?_;exact xL (s:=(PH k z.Align,i64.wrap (y+1))) (_,_,_,_,_,_,_,_,_) ((hX))
   ·refine A 9 ?_;refine bS ([(Pb.mk j.Size k)]:List Pb) Ps r r r (by simp) r r r<|?_
    refine A 10 ?_;exact xL (s:=(d++([(Pb.mk j.Size k)]:List Pb),i64.wrap (o+1))) (_,_,_,_,_,_,_) ((Qp (E1:=[(2,.optr 2 _ 0 0),(3,.optr 3 _ 0 0),(4,.optr 4 _ 0 0),(7,.optr 7 _ 0 0),(8,.osl 8 _ 0 c.length),(33,.osl 8 _ 0 c.length),(34,Av (c.length:Int)),(35,Av (i64.wrap (o+1)))]) (O1:=[(2,dV _ 3 36 (Pl a)),(3,dV _ 2 44 (.agg [.sl (e.To.map Lo),.sl (e.Keep.map D.bool)])),(4,dV _ 3 36 (.agg [Av 0,.nils,.nils])),(7,dV _ 3 36 (.agg [Av a.Params,.osl 68 _ 0 ((d++([(Pb.mk j.Size k)]:List Pb)).length),.osl 901 _ 0 (([]:List OT).length)])),(8,dW _ 1 3 (c.map Lo)),(68,dW _ 2 60 ((d++([(Pb.mk j.Size k)]:List Pb)).map Ps)),(901,dW _ 5 63 (([]:List OT).map Pp))]) (hX) (λ_=>PD (λg=>bif Nat.beq g 68 then 900 else g) (by rfl) (hX))))
  ·refine A 9 ?_;refine bD λq bh=>?_
   refine A 13 ?_;refine lP (E:=λ(s:(List Int)×Int) (g:Nat×Nat×Nat×Nat×Nat×Nat×Nat×Nat)=>[(2,.optr 2 g.1 0 0),(3,.optr 3 g.2.1 0 0),(4,.optr 4 g.2.2.1 0 0),(7,.optr 7 g.2.2.2.1 0 0),(8,.osl 8 g.2.2.2.2.1 0 c.length),(14,.osl 14 g.2.2.2.2.2.1 0 s.1.length),(74,.osl 14 g.2.2.2.2.2.1 0 s.1.length),(75,Av (q.length:Int)),(76,Av s.2)]) (O:=λs g=>[(2,dV g.1 3 36 (Pl a)),(3,dV g.2.1 2 44 (.agg [.sl (e.To.map Lo),.sl (e.Keep.map D.bool)])),(4,dV g.2.2.1 3 36 (.agg [Av 0,.nils,.nils])),(7,dV g.2.2.2.1 3 36 (.agg [Av a.Params,.osl 900 g.2.2.2.2.2.2.1 0 d.length,.osl 901 g.2.2.2.2.2.2.2 0 (([]:List OT).length)])),(8,dW g.2.2.2.2.1 1 3 (c.map Lo)),(14,dW g.2.2.2.2.2.1 1 3 (s.1.map Lo)),(900,dW g.2.2.2.2.2.2.1 2 60 (d.map Ps)),(901,dW g.2.2.2.2.2.2.2 5 63 (([]:List OT).map Pp))]) (body:=λs=>Adv q c e a d s.1 s.2) (s:=(q,0)) (_,_,_,_,_,_,_,_) ((hX))<|?_
   rintro⟨bi,bj⟩ ⟨bk,bl,bm,bn,bo,bp,bq,br⟩ nn
   try dsimp only
   unfold Adv;refine A 6 ?_;refine cD r ?_ ?_
   ·exact B
   ·refine A 8 ?_;refine bD λt bs=>?_
    refine A 9 ?_;refine bD λu bt=>?_
    refine A 15 ?_;refine lP (E:=λ(s:(List OT)×Int) (g:Nat×Nat×Nat×Nat×Nat)=>[(4,.optr 4 g.1 0 0),(7,.optr 7 g.2.1 0 0),(17,.osl 17 g.2.2.1 0 t.length),(97,Av (u.length:Int)),(98,Av s.2)]) (O:=λs g=>[(4,dV g.1 3 36 (.agg [Av 0,.nils,.nils])),(7,dV g.2.1 3 36 (.agg [Av a.Params,.osl 900 g.2.2.2.2 0 d.length,.osl 93 g.2.2.2.1 0 s.1.length])),(17,dW g.2.2.1 1 3 (t.map Lo)),(93,dW g.2.2.2.1 5 63 (s.1.map Pp)),(900,dW g.2.2.2.2 2 60 (d.map Ps))]) (body:=λs=>Ze u t a d s.1 s.2) (s:=(u,0)) (_,_,_,_,_) ((hX))<|?_
    rintro⟨f,m⟩ ⟨bu,bv,bw,bx,bz⟩ nn
    try dsimp only
    unfold Ze;refine A 6 ?_;refine cD r ?_ ?_
    ·refine A 24 ?_;refine bD λca cb=>?_
     refine A 10 ?_;refine cD r ?_ ?_
     ·refine A 6 ?_;refine bD λcc cd=>?_
      refine A 2 ?_;refine bD λv ce=>?_
      refine A 3 ?_;refine bD λh aa=>sE (l:=f) (en:=Pp) (q':=(OT.mk h.Op v h.B h.C h.Imm)) r r r r r r r (by simp) aa r r r r r<|?_
      refine A 8 ?_;exact xL (s:=(f.set m.toNat (OT.mk h.Op v h.B h.C h.Imm),i64.wrap (m+1))) (_,_,_,_,_) ((hE ⟨rfl,r,r,r,r,trivial⟩ ⟨rfl,(Eq.trans (b:=dV _ 3 36 (.agg [Av a.Params,.osl 900 _ 0 d.length,.osl 93 _ 0 f.length])) r (by simp)),r,r,r,trivial⟩))
     ·refine A 6 ?_;refine cD r ?_ ?_
      ·refine A 6 ?_;refine bD λcf cg=>?_
       refine A 2 ?_;refine bD λw ch=>?_
       refine A 3 ?_;refine bD λi ab=>sE (l:=f) (en:=Pp) (q':=(OT.mk i.Op i.A w i.C i.Imm)) r r r r r r r (by simp) ab r r r r r<|?_
       refine A 8 ?_;exact xL (s:=(f.set m.toNat (OT.mk i.Op i.A w i.C i.Imm),i64.wrap (m+1))) (_,_,_,_,_) ((hE ⟨rfl,r,r,r,r,trivial⟩ ⟨rfl,(Eq.trans (b:=dV _ 3 36 (.agg [Av a.Params,.osl 900 _ 0 d.length,.osl 93 _ 0 f.length])) r (by simp)),r,r,r,trivial⟩))
      ·refine A 8 ?_;exact xL (s:=(f,i64.wrap (m+1))) (_,_,_,_,_) ((hX))
    ·refine A 13 ?_;refine Sm (b:=((Le.mk a.Params d f),0)) r ?_ r r ?_ (by first|rfl|(simp only[Mk];rfl)|(simp only[OV];rfl)|(simp only[Mk,OV];rfl)|(simp[Xm,Pl];try rfl)) (by decide)
     all_goals first|(simp;done)|(simp;omega)|rfl|(simp[QA,Qu];done)

def AjR (b:PG):List D:=[Ti b]
def AdT:Dw.Spec:=Pd [(0,(12,75))] .val Ri RN (λa=>We a) Vp AjR
theorem Ajo:Pa Tryz.prog 31 AdT:=by
 refine fn2 1 (Pe (l:=[(63,AhX),(64,AiV),(60,Adl)]) (by simp[Anh,Aon,Ahs])) Tryz.func31<|?_
 intro a;unfold We;refine A 18 ?_;refine bD λc e=>?_
 refine A 5 ?_;refine Akk (l:=c) (en:=D.bool) (z':=.agg [.sl (a.p.Funcs.map Pl),Av a.i,Av a.f.Params,.sl (a.f.Slots.map Ps),.sl (a.f.Code.map Pp),.sl (a.x.Live.Out.map (eL Lo)),.sl (a.x.Rename.To.map Lo),.row 1 4 (c.map D.bool),.sl (a.x.LiveAfter.Out.map (eL Lo)),Av a.x.Layout.Args,Av a.x.Layout.Size,.sl (a.x.Layout.Off.map Lo)]) r r r r r r (λ_=>r) r r<|?_
 refine A 1 ?_;refine Qx (E:=[(0,.optr 8192 0 0 0)]) (O:=[(8192,dV 0 12 75 (.agg [.sl (a.p.Funcs.map Pl),Av a.i,Av a.f.Params,.sl (a.f.Slots.map Ps),.sl (a.f.Code.map Pp),.sl (a.x.Live.Out.map (eL Lo)),.sl (a.x.Rename.To.map Lo),.sl (c.map D.bool),.sl (a.x.LiveAfter.Out.map (eL Lo)),Av a.x.Layout.Args,Av a.x.Layout.Size,.sl (a.x.Layout.Off.map Lo)]))]) ((AdP (g:=8192) r (Atb (by repeat' first|exact FrL.nil|apply FrL.row (AaO λ_=>rfl)|apply FrL.same)) (hX))) λnn=>?_
 refine A 12 ?_;refine bD λb h=>?_
 refine A 6 ?_;refine Ty (i:=0) (es':=[.agg [.sl (a.p.Funcs.map Pl),Av a.i,Av b.1.Params,.sl (b.1.Slots.map Ps),.sl (b.1.Code.map Pp),.sl (a.x.Live.Out.map (eL Lo)),.sl (a.x.Rename.To.map Lo),.sl (c.map D.bool),.sl (a.x.LiveAfter.Out.map (eL Lo)),Av a.x.Layout.Args,Av a.x.Layout.Size,.sl (a.x.Layout.Off.map Lo)]]) r r r r r r r (by first|trivial|(simp;done)|(simp;omega)) r r r r r r<|?_
 refine A 8 ?_;refine bD λd j=>?_
 refine A 4 ?_;refine Ty (i:=0) (es':=[.agg [.sl (a.p.Funcs.map Pl),Av a.i,Av b.1.Params,.sl (b.1.Slots.map Ps),.sl (b.1.Code.map Pp),.sl (a.x.Live.Out.map (eL Lo)),.sl (a.x.Rename.To.map Lo),.sl (c.map D.bool),.sl (d.Out.map (eL Lo)),Av a.x.Layout.Args,Av a.x.Layout.Size,.sl (a.x.Layout.Off.map Lo)]]) r r r r r r r (by first|trivial|(simp;done)|(simp;omega)) r r r r r r<|?_
 exact B

def Vh (a:Ph×Int×Le):List D:=[Uf a.1,Av a.2.1,Pl a.2.2]
def Vg (ds:List D):Ph×Int×Le:=(Zi (ds.getD 0 .top),uI (ds.getD 1 .top),Sz (ds.getD 2 .top))
instance:PA Vh Vg:=⟨λa=>by simp[Vg,Vh,uI]⟩
def Xe (b:Ph):D:=Uf b
def AiL:Dw.Spec:=Pd [] .val Vh Vg (λa=>Zl a.1 a.2.1 a.2.2) Xe noE
theorem Aog:Pa Tryz.prog 12 AiL:=by
 refine fn2 3 (Pe (l:=[(27,Arb)]) (by simp[Aut])) Tryz.func12<|?_
 rintro⟨f,d,c⟩;unfold Zl;refine A 11 ?_;refine bD λa g=>?_
 refine A 12 ?_;refine cK λhq=>iO (l:=a) (en:=Pl) r r r r r hq<|bD λh e=>sE (l:=a) (en:=Pl) (q':=c) r r r r r r r (by simp) e r r r r r<|?_
 refine A 9 ?_;refine Akg (b:=(Ph.mk (a.set d.toNat c))) r ?_ r r ?_ (by first|rfl|(simp only;rfl)|(simp only;rfl)|(simp only;rfl)|(simp[Xe,Uf];try rfl))
 all_goals first|(simp;done)|(simp;omega)|rfl|(simp[QA,Qu];done)

def Aew:Dw.Spec:=Pd [] .ground UX UW (λa=>Xc a.1 a.2) Pm noE
theorem AjP:Pa Tryz.prog 119 Aew:=by
 refine fn2 2 (Py) Tryz.func119<|?_;intro a;unfold Xc;exact B

def Uh (a:Le×Pj):List D:=[Pl a.1,Uu a.2,.clo 119 []]
def Ug (ds:List D):Le×Pj:=(Sz (ds.getD 0 .top),XY (ds.getD 1 .top))
instance:PA Uh Ug:=⟨λa=>by simp[Ug,Uh]⟩
def Vc:Dw.Spec:=Pd [] .val Uh Ug (λa=>VN a.1 a.2) Tp noE
def XK:Dw.Spec:=VR (specs []) 1 [(.t 2)] AoD
theorem Aex:Pa Tryz.prog 142 XK:=Sf (Py) Tryz.func142 (by decide) AsX AsY (by decide)
theorem AgA:Pa Tryz.prog 104 Vc:=by
 refine fn2 3 (Pe (l:=[(141,AbQ),(142,XK),(143,Te),(119,Aew),(144,Wq)]) (by simp[AgD,Aex,TK,AjP,AaE])) Tryz.func104<|?_
 rintro⟨a,e⟩;unfold VN;refine A 13 ?_;refine bD λr3 au=>?_
 refine A 10 ?_;refine cD r ?_ ?_
 ·exact B
 ·refine A 7 ?_;refine RZ (E:=λ(g:Nat×Nat)=>[(2,.clo 119 []),(3,.optr 1003 g.1 0 0),(4,.optr 1004 g.2 0 0),(24,Av (a.Slots.length:Int))]) (O:=λg=>[(1003,dV g.1 3 36 (Pl a)),(1004,dV g.2 1 40 (.agg [.sl (e.Out.map (eL Lo))]))]) (_,_) ((PD (λg=>bif Nat.ble 4096 g then g+20000 else g+1000) (by rfl) (hX)))<|?_
  rintro⟨y,aa⟩ nn
  try dsimp only
  refine Zw (ES:=λ(s:(List (List Bool))) (g:Nat×Nat×Nat)=>[(2,.clo 119 []),(3,.optr 3 g.1 0 0),(4,.optr 4 g.2.1 0 0),(25,.osl 4697 g.2.2 0 s.length)]) (OS:=λs g=>[(3,dV g.1 3 36 (Pl a)),(4,dV g.2.1 1 40 (.agg [.sl (e.Out.map (eL Lo))])),(4697,dW g.2.2 1 42 (s.map (eR 1 4 D.bool)))]) (j:=λs=>SJ a e s) (ds:=[Av (a.Slots.length:Int)]) (caps:=[]) (E:=[(0,Av (a.Slots.length:Int))]) r r r r r r r r ?_ ?_
  ·refine UZ (c:=AoD)<|?_;refine A 8 ?_;refine cK λhq=>Acv (α:=Bool) r r r hq r<|?_
   refine A 2 ?_;refine Qx (E:=[(0,Av (a.Slots.length:Int)),(3,.osl 4099 _ 0 ((aA (a.Slots.length:Int).toNat ([]:(List Bool))).length))]) (O:=[(1003,dV y 3 36 (Pl a)),(1004,dV aa 1 40 (.agg [.sl (e.Out.map (eL Lo))])),(4099,dW _ 1 42 ((aA (a.Slots.length:Int).toNat ([]:(List Bool))).map (eR 1 4 D.bool)))]) ((Ahw (g:=3) (g2:=4099) r r r (AkH (l:=aA (a.Slots.length:Int).toNat ([]:(List Bool))) (s':=1) (ty':=4) D.bool (by decide) (λ_ h=>List.eq_of_mem_replicate h)) (hX))) λnn=>?_
   refine A 9 ?_;refine lP (E:=λ(s:(List (List Bool))×Int) (g:Nat)=>[(0,Av (a.Slots.length:Int)),(3,.osl 4099 g 0 s.1.length),(8,Av ((aA (a.Slots.length:Int).toNat ([]:(List Bool))).length:Int)),(9,Av s.2)]) (O:=λs g=>[(1003,dV y 3 36 (Pl a)),(1004,dV aa 1 40 (.agg [.sl (e.Out.map (eL Lo))])),(4099,dW g 1 42 (s.1.map (eR 1 4 D.bool)))]) (body:=λs=>SI a e s.1 s.2) (s:=(aA (a.Slots.length:Int).toNat ([]:(List Bool)),0)) _ ((hX))<|?_
   rintro⟨w,av⟩ aw nn
   try dsimp only
   unfold SI;refine A 6 ?_;refine cD r ?_ ?_
   ·refine A 16 ?_;refine bD λag ah=>Agl (l:=w) (q:=ag) (q':=aA (a.Slots.length:Int).toNat false) D.bool rfl rfl rfl rfl (.inl rfl) ah rfl rfl ⟨⟨rfl,rfl,by simp,AaO λ_=>rfl⟩,trivial,rfl⟩ (congrArg (λz=>[D.row _ _ z]) (Rt _ _ rfl)) rfl<|?_
    exact B
   ·refine A 12 ?_;exact RW (d:=.osl 4099 _ 0 w.length) (s:=w) (_,_,_) r (by first|rfl|(simp[PC,PE,rdA,raw,strip,PJ,cells,PF];done)|(simp[PC,PE,rdA,raw,strip,PJ,S.ge,S.go,look,UO,cells,PF];done)) r ((Qp (E1:=[(2,.clo 119 []),(3,.optr 1003 y 0 0),(4,.optr 1004 aa 0 0),(25,.osl 4099 _ 0 w.length)]) (O1:=[(1003,dV y 3 36 (Pl a)),(1004,dV aa 1 40 (.agg [.sl (e.Out.map (eL Lo))])),(4099,dW _ 1 42 (w.map (eR 1 4 D.bool)))]) (hX) (λ_=>PD (λg=>bif Nat.ble 24096 g then g-20000 else bif (Nat.ble 1000 g&&Nat.blt g 4096)then g-1000 else bif Nat.beq g 4099 then 4697 else g) (by rfl) (hX))))
  ·rintro x4 ⟨ax,ay,az⟩ nn
   try dsimp only
   unfold SJ;refine A 13 ?_;refine lP (E:=λ(s:(List (List Bool))×Int) (g:Nat×Nat)=>[(2,.clo 119 []),(4,.optr 4 g.1 0 0),(9,.osl 4697 g.2 0 s.1.length),(27,.sl (a.Code.map Pp)),(28,Av (a.Code.length:Int)),(29,Av s.2)]) (O:=λs g=>[(4,dV g.1 1 40 (.agg [.sl (e.Out.map (eL Lo))])),(4697,dW g.2 1 42 (s.1.map (eR 1 4 D.bool)))]) (body:=λs=>UK a e s.1 s.2) (s:=(x4,0)) (_,_) ((hX))<|?_
   rintro⟨o,k⟩ ⟨ba,bb⟩ nn
   try dsimp only
   unfold UK;refine A 6 ?_;refine cD r ?_ ?_
   ·refine A 7 ?_;refine bD λb bc=>?_
    refine A 10 ?_;refine bD λf bd=>?_
    refine A 8 ?_;refine sC (E:=λ(s:Bool×Bool) (g:Nat×Nat×Nat)=>[(2,.clo 119 []),(4,.optr 4 g.1 0 0),(9,.osl 4697 g.2.2 0 o.length),(10,Av k),(11,.optr 11 g.2.1 0 0),(12,Av f.1),(27,.sl (a.Code.map Pp)),(28,Av (a.Code.length:Int)),(29,Av k),(42,.optr 11 g.2.1 0 0),(43,Av b.Op),(44,.bool (b.Op==17)),(45,.bool s.1),(51,.bool s.2)]) (O:=λ_ g=>[(4,dV g.1 1 40 (.agg [.sl (e.Out.map (eL Lo))])),(11,dV g.2.1 5 63 (Pp b)),(4697,dW g.2.2 1 42 (o.map (eR 1 4 D.bool)))]) (j:=λs=>QS e k f b o s.1 s.2) ?_ ?_
    ·refine A 5 ?_;refine Px r ?_ ?_
     ·refine A 22 ?_;exact xL (s:=(o,i64.wrap (k+1))) (_,_) ((hX))
     ·refine A 4 ?_;refine Px r ?_ ?_
      ·refine A 9 ?_;refine cD r ?_ ?_
       ·refine A 8 ?_;exact xL (s:=(o,i64.wrap (k+1))) (_,_) ((hX))
       ·refine A 1 ?_;exact xC (s:=(true,(b.A==b.B))) (_,_,_) ((hX))
      ·refine A 11 ?_;exact xC (s:=(false,false)) (_,_,_) ((hX))
    ·rintro⟨x9,ac⟩ ⟨bf,bg,bh⟩ nn
     try dsimp only
     unfold QS;refine A 5 ?_;refine bD λp bi=>?_
     refine A 7 ?_;refine lP (E:=λ(s:(List (List Bool))×Int) (g:Nat×Nat×Nat)=>[(2,.clo 119 []),(4,.optr 4 g.1 0 0),(9,.osl 4697 g.2.2 0 s.1.length),(11,.optr 11 g.2.1 0 0),(12,Av f.1),(27,.sl (a.Code.map Pp)),(28,Av (a.Code.length:Int)),(29,Av k),(42,.optr 11 g.2.1 0 0),(43,Av b.Op),(44,.bool (b.Op==17)),(45,.bool x9),(51,.bool ac),(57,.sl (p.map Lo)),(58,Av (p.length:Int)),(59,Av s.2)]) (O:=λs g=>[(4,dV g.1 1 40 (.agg [.sl (e.Out.map (eL Lo))])),(11,dV g.2.1 5 63 (Pp b)),(4697,dW g.2.2 1 42 (s.1.map (eR 1 4 D.bool)))]) (body:=λs=>UL p f b k s.1 s.2) (s:=(o,0)) (_,_,_) ((hX))<|?_
     rintro⟨m,x⟩ ⟨bj,bk,bl⟩ nn
     try dsimp only
     unfold UL;refine A 6 ?_;refine cD r ?_ ?_
     ·refine A 6 ?_;refine bD λt bm=>?_
      refine A 5 ?_;refine sC (E:=λ(s:Bool) (g:Nat×Nat×Nat)=>[(2,.clo 119 []),(4,.optr 4 g.1 0 0),(9,.osl 4697 g.2.2 0 m.length),(11,.optr 11 g.2.1 0 0),(12,Av f.1),(15,Av t),(27,.sl (a.Code.map Pp)),(28,Av (a.Code.length:Int)),(29,Av k),(42,.optr 11 g.2.1 0 0),(43,Av b.Op),(44,.bool (b.Op==17)),(45,.bool x9),(51,.bool ac),(57,.sl (p.map Lo)),(58,Av (p.length:Int)),(59,Av x),(72,.bool s)]) (O:=λ_ g=>[(4,dV g.1 1 40 (.agg [.sl (e.Out.map (eL Lo))])),(11,dV g.2.1 5 63 (Pp b)),(4697,dW g.2.2 1 42 (m.map (eR 1 4 D.bool)))]) (j:=λs=>Qi m f t x s) ?_ ?_
      ·refine A 5 ?_;refine Px r ?_ ?_
       ·refine A 3 ?_;refine bD λaj bn=>?_
        refine A 4 ?_;exact xC (s:=(!aj)) (_,_,_) ((hX))
       ·refine A 7 ?_;exact xC (s:=false) (_,_,_) ((hX))
      ·rintro bo ⟨bp,bq,br⟩ nn
       try dsimp only
       unfold Qi;refine cD r ?_ ?_
       ·refine AmZ λu ad=>AmZ λv ae=>Avt λaf=>Ape (E:=[(2,.clo 119 []),(4,.optr 4 _ 0 0),(9,.osl 4697 _ 0 m.length),(11,.optr 11 _ 0 0),(12,Av f.1),(15,Av t),(27,.sl (a.Code.map Pp)),(28,Av (a.Code.length:Int)),(29,Av k),(42,.optr 11 _ 0 0),(43,Av b.Op),(44,.bool (b.Op==17)),(45,.bool x9),(51,.bool ac),(57,.sl (p.map Lo)),(58,Av (p.length:Int)),(59,Av x)]) (O:=[(4,dV _ 1 40 (.agg [.sl (e.Out.map (eL Lo))])),(11,dV _ 5 63 (Pp b)),(4697,dW _ 1 42 (((m.map (eR 1 4 D.bool)).set f.1.toNat (.hole 4717 _ u.length)).set t.toNat (.hole 4718 _ v.length))),(4717,dW _ 1 4 (u.map D.bool)),(4718,dW _ 1 4 (v.map D.bool))]) (ApT (g:=4697) (i:=f.1.toNat) (j:=t.toNat) (t1:=621) (t2:=622) D.bool r ad ae af (hX)) λnn=>?_
        refine A 2 ?_;refine cK λhq=>Zx (by simp) r r r r (by simpa using hq)<|Agk (nm:=4717) (q:=u.length) r r r (Atc ad af)<|?_
        refine A 3 ?_;refine cK λhq=>Zx (by simp) r r r r (by simpa using hq)<|Agk (nm:=4718) (q:=v.length) r r r (Atd ae)<|?_
        refine A 2 ?_;refine bD λak ao=>AcV (l:=u) (en:=D.bool) (q:=ak) (q':=true) r r r r r ao r (λ_=>r) r r r ⟨trivial,trivial,r⟩<|?_
        refine A 1 ?_;refine bD λap aq=>AcV (l:=v) (en:=D.bool) (q:=ap) (q':=true) r r r r r aq r (λ_=>r) r r r ⟨trivial,trivial,r⟩<|?_
        refine A 2 ?_;refine Qx (E:=[(2,.clo 119 []),(4,.optr 4 _ 0 0),(9,.osl 4697 _ 0 m.length),(11,.optr 11 _ 0 0),(12,Av f.1),(27,.sl (a.Code.map Pp)),(28,Av (a.Code.length:Int)),(29,Av k),(42,.optr 11 _ 0 0),(43,Av b.Op),(44,.bool (b.Op==17)),(45,.bool x9),(51,.bool ac),(57,.sl (p.map Lo)),(58,Av (p.length:Int)),(59,Av x)]) (O:=[(4,dV _ 1 40 (.agg [.sl (e.Out.map (eL Lo))])),(11,dV _ 5 63 (Pp b)),(4697,dW _ 1 42 (((m.set f.1.toNat (u.set t.toNat true)).set t.toNat (v.set f.1.toNat true)).map (eR 1 4 D.bool)))]) ((AoK (g:=4697) (g1:=4717) (g2:=4718) (l:=m) (en:=D.bool) (i:=f.1.toNat) (j:=t.toNat) (q1:=u) (q2:=v) (q1':=u.set t.toNat true) (q2':=v.set f.1.toNat true) ad ae af r r r (by simp) (by simp) (λ_=>r) (hE ⟨rfl,r,(QT (q:=m.length) r (by simp)),r,r,r,r,r,r,r,r,r,r,r,r,r,trivial⟩ ⟨rfl,r,r,trivial⟩))) λnn=>?_
        exact B
       ·refine A 7 ?_;exact xL (s:=(m,i64.wrap (x+1))) (_,_,_) ((hX))
     ·refine A 10 ?_;exact xL (s:=(m,i64.wrap (k+1))) (_,_) ((hX))
   ·refine A 4 ?_;refine Qx (E:=[(9,.osl 4697 _ 0 o.length)]) (O:=[(4697,dW _ 1 42 (o.map (eL D.bool)))]) ((AdP (g:=4697) r (AkI (l:=o) D.bool (λ_=>r)) (hX))) λnn=>?_
    exact B

def Agz:Dw.Spec:=Pd [] .val Ql Qk (λa=>VM a.1 a.2) Tp noE
theorem AlI:Pa Tryz.prog 65 Agz:=by
 refine fn2 2 (Pe (l:=[(491624,Vc)]) (by simp[AgA])) Tryz.func65<|?_
 rintro⟨a,b⟩;unfold VM;refine A 12 ?_;refine bD λd c=>cV (a,b) rfl rfl (show _=some Vc from by kernel_rfl) PA.ok rfl rfl (by simp) r c<|?_
 exact B

def Zn (a:Ph×Int):List D:=[Uf a.1,Av a.2]
def Zm (ds:List D):Ph×Int:=(Zi (ds.getD 0 .top),uI (ds.getD 1 .top))
instance:PA Zn Zm:=⟨λa=>by simp[Zm,Zn,uI]⟩
def Ajq:Dw.Spec:=Pd [] .ground Zn Zm (λa=>YM a.1 a.2) Pc noE
theorem Amv:Pa Tryz.prog 67 Ajq:=by
 refine fn2 2 (Py) Tryz.func67<|?_;rintro⟨d,h⟩;unfold YM;refine A 17 ?_;refine bD λa i=>?_
 refine A 8 ?_;refine lP (E:=λ(s:Int×Int) (g:Nat)=>[(2,.optr 2 g 0 0),(5,Av s.2),(13,.sl (a.Code.map Pp)),(14,Av (a.Code.length:Int)),(15,Av s.1)]) (O:=λ_ g=>[(2,dV g 1 28 (.agg [.sl (d.Funcs.map Pl)]))]) (body:=λs=>Aim a d s.1 s.2) (s:=(0,0)) _ ((hX))<|?_
 rintro⟨b,c⟩ j nn
 try dsimp only
 unfold Aim;refine A 6 ?_;refine cD r ?_ ?_
 ·refine A 6 ?_;refine bD λe k=>?_
  refine A 19 ?_;refine cD r ?_ ?_
  ·refine A 15 ?_;exact xL (s:=(i64.wrap (b+1),PH c (i64.wrap (e.A+1)))) _ ((hX))
  ·refine A 6 ?_;refine cD r ?_ ?_
   ·refine A 6 ?_;refine bD λf l=>?_
    refine A 13 ?_;exact xL (s:=(i64.wrap (b+1),PH c f.Params)) _ ((hX))
   ·refine A 8 ?_;exact xL (s:=(i64.wrap (b+1),c)) _ ((hX))
 ·exact B

def AmN:Dw.Spec:=Pd [] .ground PU PT (λa=>AbD a) Pm noE
theorem Aqu:Pa Tryz.prog 157 AmN:=by
 refine fn2 1 (Py) Tryz.func157<|?_;intro a;unfold AbD;exact B

def Abi:Dw.Spec:=Pd [] .ground PU PT (λa=>Ru a) Pm noE
theorem Aet:Pa Tryz.prog 158 Abi:=by
 refine fn2 1 (Py) Tryz.func158<|?_;intro a;unfold Ru;exact B

def Aaz (a:Pb):List D:=[Ps a]
def Aay (ds:List D):Pb:=Vs (ds.getD 0 .top)
instance:PA Aaz Aay:=⟨λa=>by simp[Aay,Aaz]⟩
def Aid:Dw.Spec:=Pd [] .ground Aaz Aay (λa=>Yq a) Pm noE
theorem Ant:Pa Tryz.prog 156 Aid:=by
 refine fn2 1 (Pe (l:=[(157,AmN),(158,Abi)]) (by simp[Aqu,Aet])) Tryz.func156<|?_
 intro a;unfold Yq;exact B

end
end Go.Proofs.YtilmapojncgflaaGreatDoor
