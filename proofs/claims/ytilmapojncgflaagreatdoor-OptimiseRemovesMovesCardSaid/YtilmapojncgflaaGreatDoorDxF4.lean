/-
  Programs on typed data, and the proofs that the code does what they say; written by a program (dx.py).
-/
import Derived.Test.YtilmapojncgflaaGreatDoorProg
import Derived.Test.YtilmapojncgflaaGreatDoorDd
import Derived.KernelRfl
import Derived.Test.YtilmapojncgflaaGreatDoorSh
import Derived.Test.YtilmapojncgflaaGreatDoorCl
import Derived.Test.YtilmapojncgflaaGreatDoorDxP
import Derived.Test.YtilmapojncgflaaGreatDoorDxF1
import Derived.Test.YtilmapojncgflaaGreatDoorDxF2
import Derived.Test.YtilmapojncgflaaGreatDoorDxF3
open List renaming replicate->aA
namespace Go.Proofs.YtilmapojncgflaaGreatDoor
open Go Go.Dw Go.Proofs
open Go.IntKind (i64)
set_option maxRecDepth 100000
set_option maxHeartbeats 40000000
open Go.Dw renaming Rv -> bD,Qj -> cK,AfI -> bS,Zn -> cV,Ws -> sE,Aav -> iO,AdA -> cD,Afa -> xC,Abp -> xL,YX -> hE,Afb -> lP,AcG -> sC,Ahn -> mF,rf -> r
noncomputable section
def Wh (a:OW×Int):List D:=[Pq a.1,Av a.2]
def Wg (ds:List D):OW×Int:=(Rx (ds.getD 0 .top),uI (ds.getD 1 .top))
instance:PD Wh Wg:=⟨λa=>by simp[Wg,Wh,uI]⟩
def Ahu (b:Bool×OW):D:=.bool b.1
def Aht (b:Bool×OW):List D:=[Pq b.2]
def AbN:Dw.Spec:=Pd [(0,(8,201))] .val Wh Wg (λa=>TW a.1 a.2) Ahu Aht
theorem AgO:Pb Tryz.prog 190 AbN:=by
 refine fn2 2 (Pg (l:=[(193,Vj)]) (by simp[Xv])) Tryz.func190<|?_
 rintro⟨a,b⟩;unfold TW;refine A 8 ?_;refine bD λe f=>?_
 refine A 2 ?_;refine PM r ?_ ?_
 ·refine A 4 ?_;refine cK λhq=>Uq r r r hq<|bD λc d=>Wd (q:=c) (l:=a.toList) (en:=ZU) (j:=(i64.wrap (b.tdiv 64)).toNat) (by simp) r r r d r (λ_=>r)<|?_
  exact B
 ·exact B

def AiF:Dw.Spec:=Pd [] .ground QG QF (λa=>AbL a.1 a.2) Pm noE
theorem AmH:Pb Tryz.prog 149 AiF:=by
 refine fn2 2 (Pg (l:=[(181,Ug),(190,AbN)]) (by simp[UY,AgO])) Tryz.func149<|?_
 intro a;unfold AbL;exact B

def Afp:Dw.Spec:=Pd [] (.row 1 3) QS QQ (λa=>Zu a.1 a.2) PX noE
theorem AjP:Pb Tryz.prog 111 Afp:=by
 refine fn2 2 (Pg (l:=[(143,SN),(149,AiF)]) (by simp[Tq,AmH])) Tryz.func111<|?_
 rintro⟨b,d⟩;unfold Zu;refine A 22 ?_;refine lP (E:=λ(s:(List Int)×Int) (g:Nat×Nat)=>[(3,.optr 3 g.1 0 0),(5,.osl 5 g.2 0 s.1.length),(11,.sl (b.Code.map Pu)),(12,Av (b.Code.length:Int)),(13,Av s.2)]) (O:=λs g=>[(3,dV g.1 1 40 (.agg [.sl (d.Out.map (eL Le))])),(5,dW g.2 1 3 (s.1.map Le))]) (body:=λs=>ZS b d s.1 s.2) (s:=(([]:List Int),0)) (_,_) ((hX))<|?_
 rintro⟨c,a⟩ ⟨e,f⟩ nn
 try dsimp only
 unfold ZS;refine A 6 ?_;refine cD r ?_ ?_
 ·refine A 7 ?_;refine bD λh i=>?_
  refine A 10 ?_;refine bD λj k=>?_
  refine A 12 ?_;refine PM r ?_ ?_
  ·refine A 3 ?_;refine bD λm o=>?_
   refine A 3 ?_;refine bD λp q=>?_
   refine A 5 ?_;refine cD r ?_ ?_
   ·refine A 13 ?_;exact xL (s:=(c++([a]:List Int),i64.wrap (a+1))) (_,_) ((hX))
   ·refine A 7 ?_;exact xL (s:=(c,i64.wrap (a+1))) (_,_) ((hX))
  ·refine A 19 ?_;exact xL (s:=(c,i64.wrap (a+1))) (_,_) ((hX))
 ·exact B

def YP (a:Lo×Ph×(List Int)):List D:=[Pl a.1,WE a.2.1,.sl (a.2.2.map Le)]
def YO (ds:List D):Lo×Ph×(List Int):=(TT (ds.getD 0 .top),AcI (ds.getD 1 .top),(uL uI) (ds.getD 2 .top))
instance:PD YP YO:=⟨λa=>by simp[YO,YP,Qo (u:=uI) (en:=Le) (λ_=>rfl)]⟩
def Aku (b:(List Bool)):D:=.sl (b.map D.bool)
def Afq:Dw.Spec:=Pd [] (.row 1 4) YP YO (λa=>WV a.1 a.2.1 a.2.2) Aku noE
theorem AjQ:Pb Tryz.prog 63 Afq:=by
 refine fn2 3 (Pg (l:=[(111,Afp)]) (by simp[AjP])) Tryz.func63<|?_
 rintro⟨b,i,c⟩;unfold WV;refine A 20 ?_;refine bD λa j=>?_
 refine A 17 ?_;refine lP (E:=λ(s:(List Bool)×Int) (g:Nat×Nat)=>[(2,.sl (c.map Le)),(7,.osl 7 g.1 0 s.1.length),(8,.osl 8 g.2 0 a.length),(21,.sl (b.Code.map Pu)),(22,Av (b.Code.length:Int)),(23,Av s.2)]) (O:=λs g=>[(7,dW g.1 1 4 (s.1.map D.bool)),(8,dW g.2 1 3 (a.map Le))]) (body:=λs=>ZT b a c s.1 s.2) (s:=(aA (b.Code.length:Int).toNat false,0)) (_,_) ((hX))<|?_
 rintro⟨d,e⟩ ⟨k,m⟩ nn
 try dsimp only
 unfold ZT;refine A 6 ?_;refine cD r ?_ ?_
 ·refine A 7 ?_;refine bD λf o=>?_
  refine A 16 ?_;refine lP (E:=λ(s:Int) (g:Nat×Nat×Nat)=>[(2,.sl (c.map Le)),(7,.osl 7 g.1 0 d.length),(8,.osl 8 g.2.1 0 a.length),(9,Av e),(10,.optr 10 g.2.2 0 0),(21,.sl (b.Code.map Pu)),(22,Av (b.Code.length:Int)),(23,Av e),(28,.osl 8 g.2.1 0 a.length),(29,Av (a.length:Int)),(30,Av s)]) (O:=λ_ g=>[(7,dW g.1 1 4 (d.map D.bool)),(8,dW g.2.1 1 3 (a.map Le)),(10,dV g.2.2 5 63 (Pu f))]) (body:=λs=>WD a e d f c s) (s:=0) (_,_,_) ((hX))<|?_
  rintro h ⟨p,q,t⟩ nn
  try dsimp only
  unfold WD;refine A 6 ?_;refine cD r ?_ ?_
  ·refine A 7 ?_;refine bD λu v=>?_
   refine A 11 ?_;refine cD r ?_ ?_
   ·refine A 12 ?_;exact xL (s:=(d,i64.wrap (e+1))) (_,_) ((hX))
   ·refine A 7 ?_;exact xL (s:=i64.wrap (h+1)) (_,_,_) ((hX))
  ·exact B
 ·exact B

def VJ (a:Lo×(List Int)):List D:=[Pl a.1,.sl (a.2.map Le)]
def VI (ds:List D):Lo×(List Int):=(TT (ds.getD 0 .top),(uL uI) (ds.getD 1 .top))
instance:PD VJ VI:=⟨λa=>by simp[VI,VJ,Qo (u:=uI) (en:=Le) (λ_=>rfl)]⟩
def Afn:Dw.Spec:=Pd [] .ground VJ VI (λa=>WS a.1 a.2) Pm noE
theorem AjN:Pb Tryz.prog 150 Afn:=by
 refine fn2 2 (Px) Tryz.func150<|?_;rintro⟨b,a⟩;unfold WS;refine A 17 ?_;refine cD r ?_ ?_
 ·exact B
 ·refine A 11 ?_;refine lP (E:=λ(s:Int) (g:Nat)=>[(1,.sl (a.map Le)),(2,.optr 2 g 0 0),(13,.sl (a.map Le)),(14,Av (a.length:Int)),(15,Av s)]) (O:=λ_ g=>[(2,dV g 3 36 (Pl b))]) (body:=λs=>WB a b s) (s:=0) _ ((hX))<|?_
  rintro c d nn
  try dsimp only
  unfold WB;refine A 6 ?_;refine cD r ?_ ?_
  ·refine A 7 ?_;refine bD λe f=>?_
   refine A 11 ?_;refine PM r ?_ ?_
   ·exact B
   ·refine A 6 ?_;refine PM r ?_ ?_
    ·exact B
    ·refine A 3 ?_;refine bD λh i=>?_
     refine A 6 ?_;refine bD λj k=>?_
     refine A 6 ?_;refine PM r ?_ ?_
     ·exact B
     ·refine A 2 ?_;refine bD λl m=>?_
      refine A 7 ?_;refine cD r ?_ ?_
      ·exact B
      ·refine A 7 ?_;exact xL (s:=i64.wrap (c+1)) _ ((hX))
  ·exact B

def AdV:Dw.Spec:=Pd [] .ground Rn Rm (λa=>XE a) Pm noE
theorem AiA:Pb Tryz.prog 151 AdV:=by
 refine fn2 1 (Pg (l:=[(143,SN)]) (by simp[Tq])) Tryz.func151<|?_
 intro a;unfold XE;exact B

def RG (a:Lo×Pj):List D:=[Pl a.1,AeU a.2]
def RF (ds:List D):Lo×Pj:=(TT (ds.getD 0 .top),Afc (ds.getD 1 .top))
instance:PD RG RF:=⟨λa=>by simp[RF,RG]⟩
def Agg:Dw.Spec:=Pd [] .ground RG RF (λa=>Yc a.1 a.2) Pf noE
theorem AkU:Pb Tryz.prog 112 Agg:=by
 refine fn2 2 (Pg (l:=[(150,Afn),(151,AdV)]) (by simp[AjN,AiA])) Tryz.func112<|?_
 rintro⟨b,a⟩;unfold Yc;refine A 7 ?_;refine sC (E:=λ(_s:Unit) (g:Nat×Nat)=>[(2,.optr 2 g.1 0 0),(3,.optr 3 g.2 0 0)]) (O:=λ_ g=>[(2,dV g.1 3 36 (Pl b)),(3,dV g.2 2 44 (.agg [.sl (a.To.map Le),.sl (a.Keep.map D.bool)]))]) (j:=λ_=>XQ b a) ?_ ?_
 ·refine A 5 ?_;refine bD λd e=>?_
  refine A 3 ?_;refine PM r ?_ ?_
  ·exact B
  ·refine A 10 ?_;refine cD r ?_ ?_
   ·exact B
   ·refine A 1 ?_;exact xC (s:=()) (_,_) ((hX))
 ·rintro⟨⟩ ⟨f,h⟩ nn
  try dsimp only
  unfold XQ;refine A 10 ?_;refine lP (E:=λ(s:Int) (g:Nat)=>[(3,.optr 3 g 0 0),(22,.sl (b.Code.map Pu)),(23,Av (b.Code.length:Int)),(24,Av s)]) (O:=λ_ g=>[(3,dV g 2 44 (.agg [.sl (a.To.map Le),.sl (a.Keep.map D.bool)]))]) (body:=λs=>XP b a s) (s:=0) _ ((hX))<|?_
  rintro c i nn
  try dsimp only
  unfold XP;refine A 6 ?_;refine cD r ?_ ?_
  ·refine A 7 ?_;refine bD λk m=>?_
   refine A 12 ?_;refine bD λo p=>?_
   refine A 4 ?_;refine PM r ?_ ?_
   ·refine A 1 ?_;refine bD λq t=>?_
    refine A 5 ?_;refine cD r ?_ ?_
    ·exact B
    ·refine A 7 ?_;exact xL (s:=i64.wrap (c+1)) _ ((hX))
   ·refine A 14 ?_;exact xL (s:=i64.wrap (c+1)) _ ((hX))
  ·exact B

def Vv (a:Int×(List Int)):List D:=[Av a.1,.fptr (.sl (a.2.map Le)) 0]
def Vu (ds:List D):Int×(List Int):=(uI (ds.getD 0 .top),(uL uI) (fpD (ds.getD 1 .top)))
instance:PD Vv Vu:=⟨λa=>by simp[Vu,Vv,uI,fpD,Qo (u:=uI) (en:=Le) (λ_=>rfl)]⟩
def AbB:Dw.Spec:=Pd [] .ground Vv Vu (λa=>Rc a.1 a.2) Pf noE
theorem Agw:Pb Tryz.prog 191 AbB:=by
 refine fn2 2 (Px) Tryz.func191<|?_;intro a;unfold Rc;exact B

def Afr (b:OX):D:=Pu b
def Afs:Dw.Spec:=Pd [] .ground XU XT (λa=>WX a.1 a.2) Afr noE
theorem AjR:Pb Tryz.prog 154 Afs:=by
 refine fn2 2 (Pg (l:=[(191,AbB)]) (by simp[Agw])) Tryz.func154<|?_
 rintro⟨b,a⟩;unfold WX;refine A 6 ?_;refine Qp (E:=[(2,.optr 2 _ 0 0),(3,.fptr (.sl (a.map Le)) 0),(4,.optr 4 _ 0 0)]) (O:=[(2,dV _ 5 63 (Pu b)),(4,dV _ 5 63 (.agg [Av 0,Av 0,Av 0,Av 0,Akt 0]))]) ((hV 3 r (hY))) λnn=>?_
 refine A 2 ?_;refine mF (caps:=[.fptr (.sl (a.map Le)) 0]) r r (by simp[UX])<|?_
 exact B

def Abm (a:Lo×Pj×(List Int)):List D:=[Pl a.1,AeU a.2.1,.sl (a.2.2.map Le)]
def Abl (ds:List D):Lo×Pj×(List Int):=(TT (ds.getD 0 .top),Afc (ds.getD 1 .top),(uL uI) (ds.getD 2 .top))
instance:PD Abm Abl:=⟨λa=>by simp[Abl,Abm,Qo (u:=uI) (en:=Le) (λ_=>rfl)]⟩
def Amh (b:(List OX)):D:=.sl (b.map Pu)
def Adx:Dw.Spec:=Pd [] (.row 5 63) Abm Abl (λa=>Xq a.1 a.2.1 a.2.2) Amh noE
theorem Agh:Pb Tryz.prog 118 Adx:=by
 refine fn2 3 (Pg (l:=[(154,Afs)]) (by simp[AjR])) Tryz.func118<|?_
 rintro⟨a,b,d⟩;unfold Xq;refine A 22 ?_;refine lP (E:=λ(s:(List OX)×Int) (g:Nat×Nat)=>[(2,.sl (d.map Le)),(4,.optr 4 g.1 0 0),(7,.osl 7 g.2 0 s.1.length),(11,.sl (a.Code.map Pu)),(12,Av (a.Code.length:Int)),(13,Av s.2)]) (O:=λs g=>[(4,dV g.1 2 44 (.agg [.sl (b.To.map Le),.sl (b.Keep.map D.bool)])),(7,dW g.2 5 63 (s.1.map Pu))]) (body:=λs=>AcB a b d s.1 s.2) (s:=(([]:List OX),0)) (_,_) ((hX))<|?_
 rintro⟨c,e⟩ ⟨k,m⟩ nn
 try dsimp only
 unfold AcB;refine A 6 ?_;refine cD r ?_ ?_
 ·refine A 7 ?_;refine bD λf o=>?_
  refine A 7 ?_;refine sC (E:=λ(s:Bool) (g:Nat×Nat×Nat)=>[(2,.sl (d.map Le)),(4,.optr 4 g.1 0 0),(7,.osl 7 g.2.1 0 c.length),(9,.optr 9 g.2.2 0 0),(11,.sl (a.Code.map Pu)),(12,Av (a.Code.length:Int)),(13,Av e),(29,.bool s)]) (O:=λ_ g=>[(4,dV g.1 2 44 (.agg [.sl (b.To.map Le),.sl (b.Keep.map D.bool)])),(7,dW g.2.1 5 63 (c.map Pu)),(9,dV g.2.2 5 63 (Pu f))]) (j:=λs=>Wa f d c e s) ?_ ?_
  ·refine A 7 ?_;refine PM r ?_ ?_
   ·refine A 3 ?_;refine bD λi p=>?_
    refine A 4 ?_;exact xC (s:=i) (_,_,_) ((hX))
   ·refine A 7 ?_;exact xC (s:=false) (_,_,_) ((hX))
  ·rintro q ⟨t,u,v⟩ nn
   try dsimp only
   unfold Wa;refine cD r ?_ ?_
   ·refine A 4 ?_;refine bD λh w=>?_
    refine A 1 ?_;refine bS ([h]:List OX) Pu r r r (by simp) r r r<|?_
    refine A 9 ?_;exact xL (s:=(c++([h]:List OX),i64.wrap (e+1))) (_,_) ((hX))
   ·refine A 7 ?_;exact xL (s:=(c,i64.wrap (e+1))) (_,_) ((hX))
 ·exact B

def Ahm:Dw.Spec:=Pd [] (.row 1 3) RG RF (λa=>Zj a.1 a.2) PX noE
theorem AlC:Pb Tryz.prog 113 Ahm:=by
 refine fn2 2 (Pg (l:=[(118,Adx),(152,Aek),(143,SN),(153,Agn)]) (by simp[Agh,AgU,Tq,AiG])) Tryz.func113<|?_
 rintro⟨f,h⟩;unfold Zj;refine A 19 ?_;refine bD λa i=>?_
 refine A 6 ?_;refine lP (E:=λ(s:(List Int)×Int) (g:Nat×Nat)=>[(5,.osl 5 g.1 0 s.1.length),(14,.osl 14 g.2 0 a.length),(15,Av (a.length:Int)),(16,Av s.2)]) (O:=λs g=>[(5,dW g.1 1 3 (s.1.map Le)),(14,dW g.2 5 63 (a.map Pu))]) (body:=λs=>AcA a s.1 s.2) (s:=(([]:List Int),0)) (_,_) ((hX))<|?_
 rintro⟨b,c⟩ ⟨j,k⟩ nn
 try dsimp only
 unfold AcA;refine A 6 ?_;refine cD r ?_ ?_
 ·refine A 7 ?_;refine bD λm o=>?_
  refine A 9 ?_;refine bD λd p=>?_
  refine A 8 ?_;refine bD λe q=>?_
  refine A 13 ?_;refine cD r ?_ ?_
  ·refine A 13 ?_;exact xL (s:=((b++d)++([e.1]:List Int),i64.wrap (c+1))) (_,_) ((hX))
  ·refine A 7 ?_;exact xL (s:=(b++d,i64.wrap (c+1))) (_,_) ((hX))
 ·exact B

def AdS:Dw.Spec:=Pd [] (.row 1 3) QG QF (λa=>Xz a.1 a.2) PX noE
theorem Aiy:Pb Tryz.prog 114 AdS:=by
 refine fn2 2 (Px) Tryz.func114<|?_;rintro⟨a,c⟩;unfold Xz;refine A 19 ?_;refine lP (E:=λ(s:(List Int)×Int) (g:Nat)=>[(1,Av c),(5,.osl 5 g 0 s.1.length),(8,.sl (a.map Le)),(9,Av (a.length:Int)),(10,Av s.2)]) (O:=λs g=>[(5,dW g 1 3 (s.1.map Le))]) (body:=λs=>Yp a c s.1 s.2) (s:=(([]:List Int),0)) _ ((hX))<|?_
 rintro⟨d,b⟩ e nn
 try dsimp only
 unfold Yp;refine A 6 ?_;refine cD r ?_ ?_
 ·refine A 7 ?_;refine bD λf h=>?_
  refine A 13 ?_;refine cD r ?_ ?_
  ·refine A 13 ?_;exact xL (s:=(d++([b]:List Int),i64.wrap (b+1))) _ ((hX))
  ·refine A 7 ?_;exact xL (s:=(d,i64.wrap (b+1))) _ ((hX))
 ·exact B

def Wq:Dw.Spec:=Pd [] .ground QG QF (λa=>So a.1 a.2) Pf noE
theorem ZM:Pb Tryz.prog 116 Wq:=by
 refine fn2 2 (Px) Tryz.func116<|?_;rintro⟨a,b⟩;unfold So;refine A 14 ?_;refine lP (E:=λ(s:Int) (_g:Unit)=>[(0,.sl (a.map Le)),(1,Av b),(7,Av (a.length:Int)),(8,Av s)]) (O:=λ_ _=>[]) (body:=λs=>Rt a b s) (s:=0) () ((hX))<|?_
 rintro c ⟨⟩ nn
 try dsimp only
 unfold Rt;refine A 6 ?_;refine cD r ?_ ?_
 ·refine A 15 ?_;refine bD λd e=>?_
  refine A 5 ?_;refine cD r ?_ ?_
  ·exact B
  ·refine A 7 ?_;exact xL (s:=i64.wrap (c+1)) () ((hX))
 ·exact B

def VZ (a:Pj):List D:=[AeU a]
def VY (ds:List D):Pj:=Afc (ds.getD 0 .top)
instance:PD VZ VY:=⟨λa=>by simp[VY,VZ]⟩
def AfG:Dw.Spec:=Pd [] (.row 1 3) VZ VY (λa=>ZI a) PX noE
theorem AjW:Pb Tryz.prog 117 AfG:=by
 refine fn2 1 (Px) Tryz.func117<|?_;intro b;unfold ZI;refine A 26 ?_;refine lP (E:=λ(s:(List Int)×Int×Int) (g:Nat)=>[(3,.osl 3 g 0 s.1.length),(4,Av s.2.2),(8,.sl (b.Keep.map D.bool)),(9,Av (b.Keep.length:Int)),(10,Av s.2.1)]) (O:=λs g=>[(3,dW g 1 3 (s.1.map Le))]) (body:=λs=>Aal b s.1 s.2.1 s.2.2) (s:=(([]:List Int),0,0)) _ ((hX))<|?_
 rintro⟨c,d,a⟩ e nn
 try dsimp only
 unfold Aal;refine A 6 ?_;refine cD r ?_ ?_
 ·refine A 6 ?_;refine bD λf h=>?_
  refine A 19 ?_;refine cD r ?_ ?_
  ·refine A 11 ?_;exact xL (s:=(c++([a]:List Int),i64.wrap (d+1),i64.wrap (a+1))) _ ((hX))
  ·refine A 7 ?_;exact xL (s:=(c++([a]:List Int),i64.wrap (d+1),a)) _ ((hX))
 ·exact B

def YE (b:Lo×Int):D:=.tup [Pl b.1,Av b.2]
def Agf:Dw.Spec:=Pd [] .val RG RF (λa=>Yb a.1 a.2) YE noE
theorem AkT:Pb Tryz.prog 64 Agf:=by
 refine fn2 2 (Pg (l:=[(112,Agg),(113,Ahm),(114,AdS),(115,Akq),(116,Wq),(117,AfG),(118,Adx)]) (by simp[AkU,AlC,Aiy,Amm,ZM,AjW,Agh])) Tryz.func64<|?_
 rintro⟨a,e⟩;unfold Yb;refine A 13 ?_;refine bD λx ac=>?_
 refine A 10 ?_;refine cD r ?_ ?_
 ·refine A 10 ?_;refine Wp (b:=((Lo.mk 0 ([]) ([])),x)) r ?_ r r ?_ (by first|rfl|(simp only[Mk];rfl)|(simp only[OV];rfl)|(simp only[Mk,OV];rfl)|(simp[YE,Pl];try rfl)) (by decide)
  all_goals first|(simp;done)|(simp;omega)|rfl|(simp[QY,QP];done)
 ·refine A 15 ?_;refine bD λc ad=>?_
  refine A 13 ?_;refine lP (E:=λ(s:(List Pa)×Int) (g:Nat×Nat×Nat×Nat×Nat×Nat×Nat)=>[(2,.optr 2 g.1 0 0),(3,.optr 3 g.2.1 0 0),(4,.optr 4 g.2.2.1 0 0),(7,.optr 7 g.2.2.2.1 0 0),(8,.osl 8 g.2.2.2.2.1 0 c.length),(33,.osl 8 g.2.2.2.2.1 0 c.length),(34,Av (c.length:Int)),(35,Av s.2)]) (O:=λs g=>[(2,dV g.1 3 36 (Pl a)),(3,dV g.2.1 2 44 (.agg [.sl (e.To.map Le),.sl (e.Keep.map D.bool)])),(4,dV g.2.2.1 3 36 (.agg [Av 0,.nils,.nils])),(7,dV g.2.2.2.1 3 36 (.agg [Av a.Params,.osl 900 g.2.2.2.2.2.1 0 s.1.length,.osl 901 g.2.2.2.2.2.2 0 (([]:List OX).length)])),(8,dW g.2.2.2.2.1 1 3 (c.map Le)),(900,dW g.2.2.2.2.2.1 2 60 (s.1.map Pt)),(901,dW g.2.2.2.2.2.2 5 63 (([]:List OX).map Pu))]) (body:=λs=>Abi c a e s.1 s.2) (s:=(([]:List Pa),0)) (_,_,_,_,_,_,_) ((AkE (gg:=7) (off:=1) (tt:=900) (s:=2) (tyy:=60) r r r r (AkE (gg:=7) (off:=2) (tt:=901) (s:=5) (tyy:=63) r r r r (hX))))<|?_
  rintro⟨d,o⟩ ⟨ae,af,ag,ah,ai,aj,ak⟩ nn
  try dsimp only
  unfold Abi;refine A 6 ?_;refine cD r ?_ ?_
  ·refine A 7 ?_;refine bD λao ap=>?_
   refine A 9 ?_;refine bD λj aq=>?_
   refine A 12 ?_;refine bD λp ar=>?_
   refine A 6 ?_;refine lP (E:=λ(s:Int×Int) (g:Nat×Nat×Nat×Nat×Nat×Nat×Nat×Nat×Nat)=>[(2,.optr 2 g.1 0 0),(3,.optr 3 g.2.1 0 0),(4,.optr 4 g.2.2.1 0 0),(7,.optr 7 g.2.2.2.1 0 0),(8,.osl 8 g.2.2.2.2.1 0 c.length),(11,.optr 11 g.2.2.2.2.2.1 0 0),(33,.osl 8 g.2.2.2.2.1 0 c.length),(34,Av (c.length:Int)),(35,Av o),(47,.osl 47 g.2.2.2.2.2.2.1 0 p.length),(48,Av (p.length:Int)),(49,Av s.2)]) (O:=λs g=>[(2,dV g.1 3 36 (Pl a)),(3,dV g.2.1 2 44 (.agg [.sl (e.To.map Le),.sl (e.Keep.map D.bool)])),(4,dV g.2.2.1 3 36 (.agg [Av 0,.nils,.nils])),(7,dV g.2.2.2.1 3 36 (.agg [Av a.Params,.osl 900 g.2.2.2.2.2.2.2.1 0 d.length,.osl 901 g.2.2.2.2.2.2.2.2 0 (([]:List OX).length)])),(8,dW g.2.2.2.2.1 1 3 (c.map Le)),(11,dV g.2.2.2.2.2.1 2 60 (.agg [Av j.Size,Av s.1])),(47,dW g.2.2.2.2.2.2.1 1 3 (p.map Le)),(900,dW g.2.2.2.2.2.2.2.1 2 60 (d.map Pt)),(901,dW g.2.2.2.2.2.2.2.2 5 63 (([]:List OX).map Pu))]) (body:=λs=>Abj p a d j o s.1 s.2) (s:=(j.Align,0)) (_,_,_,_,_,_,_,_,_) ((hX))<|?_
   rintro⟨k,y⟩ ⟨au,av,aw,ax,ay,az,ba,bb,bc⟩ nn
   try dsimp only
   unfold Abj;refine A 6 ?_;refine cD r ?_ ?_
   ·refine A 7 ?_;refine bD λbd bf=>?_
    refine A 10 ?_;refine bD λz bg=>?_
    refine A 13 ?_;exact xL (s:=(PF k z.Align,i64.wrap (y+1))) (_,_,_,_,_,_,_,_,_) ((hX))
   ·refine A 9 ?_;refine bS ([(Pa.mk j.Size k)]:List Pa) Pt r r r (by simp) r r r<|?_
    refine A 10 ?_;exact xL (s:=(d++([(Pa.mk j.Size k)]:List Pa),i64.wrap (o+1))) (_,_,_,_,_,_,_) ((Qi (E1:=[(2,.optr 2 _ 0 0),(3,.optr 3 _ 0 0),(4,.optr 4 _ 0 0),(7,.optr 7 _ 0 0),(8,.osl 8 _ 0 c.length),(33,.osl 8 _ 0 c.length),(34,Av (c.length:Int)),(35,Av (i64.wrap (o+1)))]) (O1:=[(2,dV _ 3 36 (Pl a)),(3,dV _ 2 44 (.agg [.sl (e.To.map Le),.sl (e.Keep.map D.bool)])),(4,dV _ 3 36 (.agg [Av 0,.nils,.nils])),(7,dV _ 3 36 (.agg [Av a.Params,.osl 68 _ 0 ((d++([(Pa.mk j.Size k)]:List Pa)).length),.osl 901 _ 0 (([]:List OX).length)])),(8,dW _ 1 3 (c.map Le)),(68,dW _ 2 60 ((d++([(Pa.mk j.Size k)]:List Pa)).map Pt)),(901,dW _ 5 63 (([]:List OX).map Pu))]) (hX) (λ_=>Py (λg=>bif Nat.beq g 68 then 900 else g) (by rfl) (hX))))
  ·refine A 9 ?_;refine bD λq bh=>?_
   refine A 13 ?_;refine lP (E:=λ(s:(List Int)×Int) (g:Nat×Nat×Nat×Nat×Nat×Nat×Nat×Nat)=>[(2,.optr 2 g.1 0 0),(3,.optr 3 g.2.1 0 0),(4,.optr 4 g.2.2.1 0 0),(7,.optr 7 g.2.2.2.1 0 0),(8,.osl 8 g.2.2.2.2.1 0 c.length),(14,.osl 14 g.2.2.2.2.2.1 0 s.1.length),(74,.osl 14 g.2.2.2.2.2.1 0 s.1.length),(75,Av (q.length:Int)),(76,Av s.2)]) (O:=λs g=>[(2,dV g.1 3 36 (Pl a)),(3,dV g.2.1 2 44 (.agg [.sl (e.To.map Le),.sl (e.Keep.map D.bool)])),(4,dV g.2.2.1 3 36 (.agg [Av 0,.nils,.nils])),(7,dV g.2.2.2.1 3 36 (.agg [Av a.Params,.osl 900 g.2.2.2.2.2.2.1 0 d.length,.osl 901 g.2.2.2.2.2.2.2 0 (([]:List OX).length)])),(8,dW g.2.2.2.2.1 1 3 (c.map Le)),(14,dW g.2.2.2.2.2.1 1 3 (s.1.map Le)),(900,dW g.2.2.2.2.2.2.1 2 60 (d.map Pt)),(901,dW g.2.2.2.2.2.2.2 5 63 (([]:List OX).map Pu))]) (body:=λs=>Abk q c e a d s.1 s.2) (s:=(q,0)) (_,_,_,_,_,_,_,_) ((hX))<|?_
   rintro⟨bi,bj⟩ ⟨bk,bl,bm,bn,bo,bp,bq,br⟩ nn
   try dsimp only
   unfold Abk;refine A 6 ?_;refine cD r ?_ ?_
   ·exact B
   ·refine A 8 ?_;refine bD λt bs=>?_
    refine A 9 ?_;refine bD λu bt=>?_
    refine A 15 ?_;refine lP (E:=λ(s:(List OX)×Int) (g:Nat×Nat×Nat×Nat×Nat)=>[(4,.optr 4 g.1 0 0),(7,.optr 7 g.2.1 0 0),(17,.osl 17 g.2.2.1 0 t.length),(97,Av (u.length:Int)),(98,Av s.2)]) (O:=λs g=>[(4,dV g.1 3 36 (.agg [Av 0,.nils,.nils])),(7,dV g.2.1 3 36 (.agg [Av a.Params,.osl 900 g.2.2.2.2 0 d.length,.osl 93 g.2.2.2.1 0 s.1.length])),(17,dW g.2.2.1 1 3 (t.map Le)),(93,dW g.2.2.2.1 5 63 (s.1.map Pu)),(900,dW g.2.2.2.2 2 60 (d.map Pt))]) (body:=λs=>XO u t a d s.1 s.2) (s:=(u,0)) (_,_,_,_,_) ((hX))<|?_
    rintro⟨f,m⟩ ⟨bu,bv,bw,bx,bz⟩ nn
    try dsimp only
    unfold XO;refine A 6 ?_;refine cD r ?_ ?_
    ·refine A 24 ?_;refine bD λca cb=>?_
     refine A 10 ?_;refine cD r ?_ ?_
     ·refine A 6 ?_;refine bD λcc cd=>?_
      refine A 2 ?_;refine bD λv ce=>?_
      refine A 3 ?_;refine bD λh aa=>sE (l:=f) (en:=Pu) (q':=(OX.mk h.Op v h.B h.C h.Imm)) r r r r r r r (by simp) aa r r r r r<|?_
      refine A 8 ?_;exact xL (s:=(f.set m.toNat (OX.mk h.Op v h.B h.C h.Imm),i64.wrap (m+1))) (_,_,_,_,_) ((hE ⟨rfl,r,r,r,r,trivial⟩ ⟨rfl,(Eq.trans (b:=dV _ 3 36 (.agg [Av a.Params,.osl 900 _ 0 d.length,.osl 93 _ 0 f.length])) r (by simp)),r,r,r,trivial⟩))
     ·refine A 6 ?_;refine cD r ?_ ?_
      ·refine A 6 ?_;refine bD λcf cg=>?_
       refine A 2 ?_;refine bD λw ch=>?_
       refine A 3 ?_;refine bD λi ab=>sE (l:=f) (en:=Pu) (q':=(OX.mk i.Op i.A w i.C i.Imm)) r r r r r r r (by simp) ab r r r r r<|?_
       refine A 8 ?_;exact xL (s:=(f.set m.toNat (OX.mk i.Op i.A w i.C i.Imm),i64.wrap (m+1))) (_,_,_,_,_) ((hE ⟨rfl,r,r,r,r,trivial⟩ ⟨rfl,(Eq.trans (b:=dV _ 3 36 (.agg [Av a.Params,.osl 900 _ 0 d.length,.osl 93 _ 0 f.length])) r (by simp)),r,r,r,trivial⟩))
      ·refine A 8 ?_;exact xL (s:=(f,i64.wrap (m+1))) (_,_,_,_,_) ((hX))
    ·refine A 13 ?_;refine Wp (b:=((Lo.mk a.Params d f),0)) r ?_ r r ?_ (by first|rfl|(simp only[Mk];rfl)|(simp only[OV];rfl)|(simp only[Mk,OV];rfl)|(simp[YE,Pl];try rfl)) (by decide)
     all_goals first|(simp;done)|(simp;omega)|rfl|(simp[QY,QP];done)

def Ahc (b:PC):List D:=[SR b]
def AbE:Dw.Spec:=Pd [(0,(12,75))] .val QW RD (λa=>Vo a) UH Ahc
theorem Agz:Pb Tryz.prog 31 AbE:=by
 refine fn2 1 (Pg (l:=[(63,Afq),(64,Agf),(60,Abb)]) (by simp[AjQ,AkT,AeH])) Tryz.func31<|?_
 intro a;unfold Vo;refine A 18 ?_;refine bD λc e=>?_
 refine A 5 ?_;refine Aho (l:=c) (en:=D.bool) (z':=.agg [.sl (a.p.Funcs.map Pl),Av a.i,Av a.f.Params,.sl (a.f.Slots.map Pt),.sl (a.f.Code.map Pu),.sl (a.x.Live.Out.map (eL Le)),.sl (a.x.Rename.To.map Le),.row 1 4 (c.map D.bool),.sl (a.x.LiveAfter.Out.map (eL Le)),Av a.x.Layout.Args,Av a.x.Layout.Size,.sl (a.x.Layout.Off.map Le)]) r r r r r r (λ_=>r) r r<|?_
 refine A 1 ?_;refine Qp (E:=[(0,.optr 8192 0 0 0)]) (O:=[(8192,dV 0 12 75 (.agg [.sl (a.p.Funcs.map Pl),Av a.i,Av a.f.Params,.sl (a.f.Slots.map Pt),.sl (a.f.Code.map Pu),.sl (a.x.Live.Out.map (eL Le)),.sl (a.x.Rename.To.map Le),.sl (c.map D.bool),.sl (a.x.LiveAfter.Out.map (eL Le)),Av a.x.Layout.Args,Av a.x.Layout.Size,.sl (a.x.Layout.Off.map Le)]))]) ((AbC (g:=8192) r (Apf (by repeat' first|exact FrL.nil|apply FrL.row (Zh λ_=>rfl)|apply FrL.same)) (hX))) λnn=>?_
 refine A 12 ?_;refine bD λb h=>?_
 refine A 6 ?_;refine TS (i:=0) (es':=[.agg [.sl (a.p.Funcs.map Pl),Av a.i,Av b.1.Params,.sl (b.1.Slots.map Pt),.sl (b.1.Code.map Pu),.sl (a.x.Live.Out.map (eL Le)),.sl (a.x.Rename.To.map Le),.sl (c.map D.bool),.sl (a.x.LiveAfter.Out.map (eL Le)),Av a.x.Layout.Args,Av a.x.Layout.Size,.sl (a.x.Layout.Off.map Le)]]) r r r r r r r (by first|trivial|(simp;done)|(simp;omega)) r r r r r r<|?_
 refine A 8 ?_;refine bD λd j=>?_
 refine A 4 ?_;refine TS (i:=0) (es':=[.agg [.sl (a.p.Funcs.map Pl),Av a.i,Av b.1.Params,.sl (b.1.Slots.map Pt),.sl (b.1.Code.map Pu),.sl (a.x.Live.Out.map (eL Le)),.sl (a.x.Rename.To.map Le),.sl (c.map D.bool),.sl (d.Out.map (eL Le)),Av a.x.Layout.Args,Av a.x.Layout.Size,.sl (a.x.Layout.Off.map Le)]]) r r r r r r r (by first|trivial|(simp;done)|(simp;omega)) r r r r r r<|?_
 exact B

def Aaf (a:Pr×Int×Lo):List D:=[YQ a.1,Av a.2.1,Pl a.2.2]
def Aae (ds:List D):Pr×Int×Lo:=(AdB (ds.getD 0 .top),uI (ds.getD 1 .top),TT (ds.getD 2 .top))
instance:PD Aaf Aae:=⟨λa=>by simp[Aae,Aaf,uI]⟩
def AfU (b:Pr):D:=YQ b
def AfV:Dw.Spec:=Pd [] .val Aaf Aae (λa=>XW a.1 a.2.1 a.2.2) AfU noE
theorem AkO:Pb Tryz.prog 12 AfV:=by
 refine fn2 3 (Pg (l:=[(27,AnB)]) (by simp[Aqx])) Tryz.func12<|?_
 rintro⟨f,d,c⟩;unfold XW;refine A 11 ?_;refine bD λa g=>?_
 refine A 12 ?_;refine cK λhq=>iO (l:=a) (en:=Pl) r r r r r hq<|bD λh e=>sE (l:=a) (en:=Pl) (q':=c) r r r r r r r (by simp) e r r r r r<|?_
 refine A 9 ?_;refine Amg (b:=(Pr.mk (a.set d.toNat c))) r ?_ r r ?_ (by first|rfl|(simp only;rfl)|(simp only;rfl)|(simp only;rfl)|(simp[AfU,YQ];try rfl))
 all_goals first|(simp;done)|(simp;omega)|rfl|(simp[QY,QP];done)

def Acg:Dw.Spec:=Pd [] .ground Um Ul (λa=>VP a.1 a.2) Pm noE
theorem Aha:Pb Tryz.prog 119 Acg:=by
 refine fn2 2 (Px) Tryz.func119<|?_;intro a;unfold VP;exact B

def TJ (a:Lo×Ph):List D:=[Pl a.1,WE a.2,.clo 119 []]
def TI (ds:List D):Lo×Ph:=(TT (ds.getD 0 .top),AcI (ds.getD 1 .top))
instance:PD TJ TI:=⟨λa=>by simp[TI,TJ]⟩
def Us:Dw.Spec:=Pd [] .val TJ TI (λa=>Vd a.1 a.2) SV noE
def Wv:Dw.Spec:=Vf (specs []) 1 [(.t 2)] Alm
theorem Ach:Pb Tryz.prog 142 Wv:=RY (Px) Tryz.func142 (by decide) Apb Apc (by decide)
theorem AdY:Pb Tryz.prog 104 Us:=by
 refine fn2 3 (Pg (l:=[(141,ZY),(142,Wv),(143,SN),(119,Acg),(144,Vw)]) (by simp[Aea,Ach,Tq,Aha,YY])) Tryz.func104<|?_
 rintro⟨a,e⟩;unfold Vd;refine A 13 ?_;refine bD λr3 au=>?_
 refine A 10 ?_;refine cD r ?_ ?_
 ·exact B
 ·refine A 7 ?_;refine RT (E:=λ(g:Nat×Nat)=>[(2,.clo 119 []),(3,.optr 1003 g.1 0 0),(4,.optr 1004 g.2 0 0),(24,Av (a.Slots.length:Int))]) (O:=λg=>[(1003,dV g.1 3 36 (Pl a)),(1004,dV g.2 1 40 (.agg [.sl (e.Out.map (eL Le))]))]) (_,_) ((Py (λg=>bif Nat.ble 4096 g then g+20000 else g+1000) (by rfl) (hX)))<|?_
  rintro⟨y,aa⟩ nn
  try dsimp only
  refine Yh (ES:=λ(s:(List (List Bool))) (g:Nat×Nat×Nat)=>[(2,.clo 119 []),(3,.optr 3 g.1 0 0),(4,.optr 4 g.2.1 0 0),(25,.osl 4697 g.2.2 0 s.length)]) (OS:=λs g=>[(3,dV g.1 3 36 (Pl a)),(4,dV g.2.1 1 40 (.agg [.sl (e.Out.map (eL Le))])),(4697,dW g.2.2 1 42 (s.map (eR 1 4 D.bool)))]) (j:=λs=>Sx a e s) (ds:=[Av (a.Slots.length:Int)]) (caps:=[]) (E:=[(0,Av (a.Slots.length:Int))]) r r r r r r r r ?_ ?_
  ·refine Ur (c:=Alm)<|?_;refine A 8 ?_;refine cK λhq=>Aaw (α:=Bool) r r r hq r<|?_
   refine A 2 ?_;refine Qp (E:=[(0,Av (a.Slots.length:Int)),(3,.osl 4099 _ 0 ((aA (a.Slots.length:Int).toNat ([]:(List Bool))).length))]) (O:=[(1003,dV y 3 36 (Pl a)),(1004,dV aa 1 40 (.agg [.sl (e.Out.map (eL Le))])),(4099,dW _ 1 42 ((aA (a.Slots.length:Int).toNat ([]:(List Bool))).map (eR 1 4 D.bool)))]) ((AeM (g:=3) (g2:=4099) r r r (AhI (l:=aA (a.Slots.length:Int).toNat ([]:(List Bool))) (s':=1) (ty':=4) D.bool (by decide) (λ_ h=>List.eq_of_mem_replicate h)) (hX))) λnn=>?_
   refine A 9 ?_;refine lP (E:=λ(s:(List (List Bool))×Int) (g:Nat)=>[(0,Av (a.Slots.length:Int)),(3,.osl 4099 g 0 s.1.length),(8,Av ((aA (a.Slots.length:Int).toNat ([]:(List Bool))).length:Int)),(9,Av s.2)]) (O:=λs g=>[(1003,dV y 3 36 (Pl a)),(1004,dV aa 1 40 (.agg [.sl (e.Out.map (eL Le))])),(4099,dW g 1 42 (s.1.map (eR 1 4 D.bool)))]) (body:=λs=>Sw a e s.1 s.2) (s:=(aA (a.Slots.length:Int).toNat ([]:(List Bool)),0)) _ ((hX))<|?_
   rintro⟨w,av⟩ aw nn
   try dsimp only
   unfold Sw;refine A 6 ?_;refine cD r ?_ ?_
   ·refine A 16 ?_;refine bD λag ah=>AdK (l:=w) (q:=ag) (q':=aA (a.Slots.length:Int).toNat false) D.bool rfl rfl rfl rfl (.inl rfl) ah rfl rfl ⟨⟨rfl,rfl,by simp,Zh λ_=>rfl⟩,trivial,rfl⟩ (congrArg (λz=>[D.row _ _ z]) (RA _ _ rfl)) rfl<|?_
    exact B
   ·refine A 12 ?_;exact RK (d:=.osl 4099 _ 0 w.length) (s:=w) (_,_,_) r (by first|rfl|(simp[Pv,Pz,rdA,raw,strip,PG,cells,PA];done)|(simp[Pv,Pz,rdA,raw,strip,PG,S.ge,S.go,look,Ue,cells,PA];done)) r ((Qi (E1:=[(2,.clo 119 []),(3,.optr 1003 y 0 0),(4,.optr 1004 aa 0 0),(25,.osl 4099 _ 0 w.length)]) (O1:=[(1003,dV y 3 36 (Pl a)),(1004,dV aa 1 40 (.agg [.sl (e.Out.map (eL Le))])),(4099,dW _ 1 42 (w.map (eR 1 4 D.bool)))]) (hX) (λ_=>Py (λg=>bif Nat.ble 24096 g then g-20000 else bif (Nat.ble 1000 g&&Nat.blt g 4096)then g-1000 else bif Nat.beq g 4099 then 4697 else g) (by rfl) (hX))))
  ·rintro x4 ⟨ax,ay,az⟩ nn
   try dsimp only
   unfold Sx;refine A 13 ?_;refine lP (E:=λ(s:(List (List Bool))×Int) (g:Nat×Nat)=>[(2,.clo 119 []),(4,.optr 4 g.1 0 0),(9,.osl 4697 g.2 0 s.1.length),(27,.sl (a.Code.map Pu)),(28,Av (a.Code.length:Int)),(29,Av s.2)]) (O:=λs g=>[(4,dV g.1 1 40 (.agg [.sl (e.Out.map (eL Le))])),(4697,dW g.2 1 42 (s.1.map (eR 1 4 D.bool)))]) (body:=λs=>Ua a e s.1 s.2) (s:=(x4,0)) (_,_) ((hX))<|?_
   rintro⟨o,k⟩ ⟨ba,bb⟩ nn
   try dsimp only
   unfold Ua;refine A 6 ?_;refine cD r ?_ ?_
   ·refine A 7 ?_;refine bD λb bc=>?_
    refine A 10 ?_;refine bD λf bd=>?_
    refine A 8 ?_;refine sC (E:=λ(s:Bool×Bool) (g:Nat×Nat×Nat)=>[(2,.clo 119 []),(4,.optr 4 g.1 0 0),(9,.osl 4697 g.2.2 0 o.length),(10,Av k),(11,.optr 11 g.2.1 0 0),(12,Av f.1),(27,.sl (a.Code.map Pu)),(28,Av (a.Code.length:Int)),(29,Av k),(42,.optr 11 g.2.1 0 0),(43,Av b.Op),(44,.bool (b.Op==17)),(45,.bool s.1),(51,.bool s.2)]) (O:=λ_ g=>[(4,dV g.1 1 40 (.agg [.sl (e.Out.map (eL Le))])),(11,dV g.2.1 5 63 (Pu b)),(4697,dW g.2.2 1 42 (o.map (eR 1 4 D.bool)))]) (j:=λs=>QC e k f b o s.1 s.2) ?_ ?_
    ·refine A 5 ?_;refine PM r ?_ ?_
     ·refine A 22 ?_;exact xL (s:=(o,i64.wrap (k+1))) (_,_) ((hX))
     ·refine A 4 ?_;refine PM r ?_ ?_
      ·refine A 9 ?_;refine cD r ?_ ?_
       ·refine A 8 ?_;exact xL (s:=(o,i64.wrap (k+1))) (_,_) ((hX))
       ·refine A 1 ?_;exact xC (s:=(true,(b.A==b.B))) (_,_,_) ((hX))
      ·refine A 11 ?_;exact xC (s:=(false,false)) (_,_,_) ((hX))
    ·rintro⟨x9,ac⟩ ⟨bf,bg,bh⟩ nn
     try dsimp only
     unfold QC;refine A 5 ?_;refine bD λp bi=>?_
     refine A 7 ?_;refine lP (E:=λ(s:(List (List Bool))×Int) (g:Nat×Nat×Nat)=>[(2,.clo 119 []),(4,.optr 4 g.1 0 0),(9,.osl 4697 g.2.2 0 s.1.length),(11,.optr 11 g.2.1 0 0),(12,Av f.1),(27,.sl (a.Code.map Pu)),(28,Av (a.Code.length:Int)),(29,Av k),(42,.optr 11 g.2.1 0 0),(43,Av b.Op),(44,.bool (b.Op==17)),(45,.bool x9),(51,.bool ac),(57,.sl (p.map Le)),(58,Av (p.length:Int)),(59,Av s.2)]) (O:=λs g=>[(4,dV g.1 1 40 (.agg [.sl (e.Out.map (eL Le))])),(11,dV g.2.1 5 63 (Pu b)),(4697,dW g.2.2 1 42 (s.1.map (eR 1 4 D.bool)))]) (body:=λs=>Ub p f b k s.1 s.2) (s:=(o,0)) (_,_,_) ((hX))<|?_
     rintro⟨m,x⟩ ⟨bj,bk,bl⟩ nn
     try dsimp only
     unfold Ub;refine A 6 ?_;refine cD r ?_ ?_
     ·refine A 6 ?_;refine bD λt bm=>?_
      refine A 5 ?_;refine sC (E:=λ(s:Bool) (g:Nat×Nat×Nat)=>[(2,.clo 119 []),(4,.optr 4 g.1 0 0),(9,.osl 4697 g.2.2 0 m.length),(11,.optr 11 g.2.1 0 0),(12,Av f.1),(15,Av t),(27,.sl (a.Code.map Pu)),(28,Av (a.Code.length:Int)),(29,Av k),(42,.optr 11 g.2.1 0 0),(43,Av b.Op),(44,.bool (b.Op==17)),(45,.bool x9),(51,.bool ac),(57,.sl (p.map Le)),(58,Av (p.length:Int)),(59,Av x),(72,.bool s)]) (O:=λ_ g=>[(4,dV g.1 1 40 (.agg [.sl (e.Out.map (eL Le))])),(11,dV g.2.1 5 63 (Pu b)),(4697,dW g.2.2 1 42 (m.map (eR 1 4 D.bool)))]) (j:=λs=>Qb m f t x s) ?_ ?_
      ·refine A 5 ?_;refine PM r ?_ ?_
       ·refine A 3 ?_;refine bD λaj bn=>?_
        refine A 4 ?_;exact xC (s:=(!aj)) (_,_,_) ((hX))
       ·refine A 7 ?_;exact xC (s:=false) (_,_,_) ((hX))
      ·rintro bo ⟨bp,bq,br⟩ nn
       try dsimp only
       unfold Qb;refine cD r ?_ ?_
       ·refine AjJ λu ad=>AjJ λv ae=>Arx λaf=>AlI (E:=[(2,.clo 119 []),(4,.optr 4 _ 0 0),(9,.osl 4697 _ 0 m.length),(11,.optr 11 _ 0 0),(12,Av f.1),(15,Av t),(27,.sl (a.Code.map Pu)),(28,Av (a.Code.length:Int)),(29,Av k),(42,.optr 11 _ 0 0),(43,Av b.Op),(44,.bool (b.Op==17)),(45,.bool x9),(51,.bool ac),(57,.sl (p.map Le)),(58,Av (p.length:Int)),(59,Av x)]) (O:=[(4,dV _ 1 40 (.agg [.sl (e.Out.map (eL Le))])),(11,dV _ 5 63 (Pu b)),(4697,dW _ 1 42 (((m.map (eR 1 4 D.bool)).set f.1.toNat (.hole 4717 _ u.length)).set t.toNat (.hole 4718 _ v.length))),(4717,dW _ 1 4 (u.map D.bool)),(4718,dW _ 1 4 (v.map D.bool))]) (Amq (g:=4697) (i:=f.1.toNat) (j:=t.toNat) (t1:=621) (t2:=622) D.bool r ad ae af (hX)) λnn=>?_
        refine A 2 ?_;refine cK λhq=>Yi (by simp) r r r r (by simpa using hq)<|AdJ (nm:=4717) (q:=u.length) r r r (Apg ad af)<|?_
        refine A 3 ?_;refine cK λhq=>Yi (by simp) r r r r (by simpa using hq)<|AdJ (nm:=4718) (q:=v.length) r r r (Aph ae)<|?_
        refine A 2 ?_;refine bD λak ao=>AaN (l:=u) (en:=D.bool) (q:=ak) (q':=true) r r r r r ao r (λ_=>r) r r r ⟨trivial,trivial,r⟩<|?_
        refine A 1 ?_;refine bD λap aq=>AaN (l:=v) (en:=D.bool) (q:=ap) (q':=true) r r r r r aq r (λ_=>r) r r r ⟨trivial,trivial,r⟩<|?_
        refine A 2 ?_;refine Qp (E:=[(2,.clo 119 []),(4,.optr 4 _ 0 0),(9,.osl 4697 _ 0 m.length),(11,.optr 11 _ 0 0),(12,Av f.1),(27,.sl (a.Code.map Pu)),(28,Av (a.Code.length:Int)),(29,Av k),(42,.optr 11 _ 0 0),(43,Av b.Op),(44,.bool (b.Op==17)),(45,.bool x9),(51,.bool ac),(57,.sl (p.map Le)),(58,Av (p.length:Int)),(59,Av x)]) (O:=[(4,dV _ 1 40 (.agg [.sl (e.Out.map (eL Le))])),(11,dV _ 5 63 (Pu b)),(4697,dW _ 1 42 (((m.set f.1.toNat (u.set t.toNat true)).set t.toNat (v.set f.1.toNat true)).map (eR 1 4 D.bool)))]) ((Als (g:=4697) (g1:=4717) (g2:=4718) (l:=m) (en:=D.bool) (i:=f.1.toNat) (j:=t.toNat) (q1:=u) (q2:=v) (q1':=u.set t.toNat true) (q2':=v.set f.1.toNat true) ad ae af r r r (by simp) (by simp) (λ_=>r) (hE ⟨rfl,r,(QD (q:=m.length) r (by simp)),r,r,r,r,r,r,r,r,r,r,r,r,r,trivial⟩ ⟨rfl,r,r,trivial⟩))) λnn=>?_
        exact B
       ·refine A 7 ?_;exact xL (s:=(m,i64.wrap (x+1))) (_,_,_) ((hX))
     ·refine A 10 ?_;exact xL (s:=(m,i64.wrap (k+1))) (_,_) ((hX))
   ·refine A 4 ?_;refine Qp (E:=[(9,.osl 4697 _ 0 o.length)]) (O:=[(4697,dW _ 1 42 (o.map (eL D.bool)))]) ((AbC (g:=4697) r (AhJ (l:=o) D.bool (λ_=>r)) (hX))) λnn=>?_
    exact B

def AdX:Dw.Spec:=Pd [] .val QS QQ (λa=>Vc a.1 a.2) SV noE
theorem AiB:Pb Tryz.prog 65 AdX:=by
 refine fn2 2 (Pg (l:=[(491624,Us)]) (by simp[AdY])) Tryz.func65<|?_
 rintro⟨a,b⟩;unfold Vc;refine A 12 ?_;refine bD λd c=>cV (a,b) rfl rfl (show _=some Us from by kernel_rfl) PD.ok rfl rfl (by simp) r c<|?_
 exact B

def AaH (a:Pr×Int):List D:=[YQ a.1,Av a.2]
def AaG (ds:List D):Pr×Int:=(AdB (ds.getD 0 .top),uI (ds.getD 1 .top))
instance:PD AaH AaG:=⟨λa=>by simp[AaG,AaH,uI]⟩
def AgB:Dw.Spec:=Pd [] .ground AaH AaG (λa=>Xt a.1 a.2) Pf noE
theorem Ajg:Pb Tryz.prog 67 AgB:=by
 refine fn2 2 (Px) Tryz.func67<|?_;rintro⟨d,h⟩;unfold Xt;refine A 17 ?_;refine bD λa i=>?_
 refine A 8 ?_;refine lP (E:=λ(s:Int×Int) (g:Nat)=>[(2,.optr 2 g 0 0),(5,Av s.2),(13,.sl (a.Code.map Pu)),(14,Av (a.Code.length:Int)),(15,Av s.1)]) (O:=λ_ g=>[(2,dV g 1 28 (.agg [.sl (d.Funcs.map Pl)]))]) (body:=λs=>Aco a d s.1 s.2) (s:=(0,0)) _ ((hX))<|?_
 rintro⟨b,c⟩ j nn
 try dsimp only
 unfold Aco;refine A 6 ?_;refine cD r ?_ ?_
 ·refine A 6 ?_;refine bD λe k=>?_
  refine A 19 ?_;refine cD r ?_ ?_
  ·refine A 15 ?_;exact xL (s:=(i64.wrap (b+1),PF c (i64.wrap (e.A+1)))) _ ((hX))
  ·refine A 6 ?_;refine cD r ?_ ?_
   ·refine A 6 ?_;refine bD λf l=>?_
    refine A 13 ?_;exact xL (s:=(i64.wrap (b+1),PF c f.Params)) _ ((hX))
   ·refine A 8 ?_;exact xL (s:=(i64.wrap (b+1),c)) _ ((hX))
 ·exact B

def Ajz:Dw.Spec:=Pd [] .ground Qh Qg (λa=>ZK a) Pm noE
theorem AmT:Pb Tryz.prog 157 Ajz:=by
 refine fn2 1 (Px) Tryz.func157<|?_;intro a;unfold ZK;exact B

def Zv:Dw.Spec:=Pd [] .ground Qh Qg (λa=>Rf a) Pm noE
theorem Acd:Pb Tryz.prog 158 Zv:=by
 refine fn2 1 (Px) Tryz.func158<|?_;intro a;unfold Rf;exact B

def YT (a:Pa):List D:=[Pt a]
def YS (ds:List D):Pa:=UJ (ds.getD 0 .top)
instance:PD YT YS:=⟨λa=>by simp[YS,YT]⟩
def Aft:Dw.Spec:=Pd [] .ground YT YS (λa=>Xa a) Pm noE
theorem AjS:Pb Tryz.prog 156 Aft:=by
 refine fn2 1 (Pg (l:=[(157,Ajz),(158,Zv)]) (by simp[AmT,Acd])) Tryz.func156<|?_
 intro a;unfold Xa;exact B

end
end Go.Proofs.YtilmapojncgflaaGreatDoor
