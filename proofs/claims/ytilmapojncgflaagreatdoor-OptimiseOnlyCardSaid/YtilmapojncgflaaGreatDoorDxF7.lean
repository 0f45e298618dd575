/-
  Programs on typed data, and the proofs that the code does what they say; written by a program (dx.py).
-/
import Derived.Test.YtilmapojncgflaaGreatDoorProg
import Derived.Test.YtilmapojncgflaaGreatDoorDd
import Derived.KernelRfl
import Derived.Test.YtilmapojncgflaaGreatDoorDxP
import Derived.Test.YtilmapojncgflaaGreatDoorDxF1
import Derived.Test.YtilmapojncgflaaGreatDoorDxF4
import Derived.Test.YtilmapojncgflaaGreatDoorDxF6
namespace Go.Proofs.YtilmapojncgflaaGreatDoor
open Go Go.Dw Go.Proofs
open Go.IntKind (i64)
set_option maxRecDepth 100000
set_option maxHeartbeats 40000000
open Go.Dw renaming Rm -> bD,Qa -> cK,AdY -> bS,AkA -> aP,TI -> sE,Yw -> iO,Ack -> cD,Aea -> xC,ZX -> xL,Aeb -> lP,Aap -> sC,rf -> r
def WD (a:OY×Int×Int):List D:=[Qu a.1,Av a.2.1,Av a.2.2]
def WC (ds:List D):OY×Int×Int:=(UQ (ds.getD 0 .top),uI (ds.getD 1 .top),uI (ds.getD 2 .top))
instance:Py WD WC:=⟨λa=>by simp[WC,WD,uI]⟩
def Aiz (b:Ph×OY):D:=Un b.1
def Aiy (b:Ph×OY):List D:=[Qu b.2]
noncomputable def AcC:Dw.Spec:=Pe [(0,(2,69))] .val WD WC (λa=>TM a.1 a.2.1 a.2.2) Aiz Aiy
theorem AhB:Pb Tryz.prog 9 AcC:=by
 refine fn2 3 (Pf (l:=[(10,Ri),(24,AbX)]) (by simp[Rq,Aha])) Tryz.func9<|?_
 rintro⟨i,j,a⟩;unfold TM;refine A 16 ?_;refine bD λc k=>?_
 refine A 5 ?_;refine lP (E:=λ(s:(List Int)×Int×(List Int)×Int) (g:Nat×Nat)=>[(0,.optr 8192 0 0 0),(2,Av a),(6,.optr 6 g.1 0 0),(7,.osl 7 g.2 0 s.2.2.1.length),(8,Av s.2.2.2)]) (O:=λs g=>[(6,dV g.1 1 28 (.agg [.nils])),(7,dW g.2 1 3 (s.2.2.1.map Mk)),(8192,dV 0 2 69 (.agg [.sl (s.1.map eU8),Av s.2.1]))]) (body:=λs=>Xo a s.1 s.2.1 s.2.2.1 s.2.2.2) (s:=(c.2.list,c.2.at_,([0]:List Int),c.1)) (_,_) ((hX))<|?_
 rintro⟨c5,e,b,f⟩ ⟨m,o⟩ nn
 try dsimp only
 unfold Xo;refine A 7 ?_;refine cD r ?_ ?_
 ·refine A 7 ?_;refine bD λd p=>?_
  refine A 12 ?_;exact xL (s:=(d.2.list,d.2.at_,b++([d.1]:List Int),i64.wrap (f-1))) (_,_) ((hX))
 ·refine A 17 ?_;refine lP (E:=λ(s:(List Int)×Int×(List Le)×Int×(List Int)) (g:Nat×Nat)=>[(0,.optr 8192 0 0 0),(2,Av a),(6,.optr 6 g.1 0 0),(7,.sl (s.2.2.2.2.map Mk)),(9,.optr 9 g.2 0 0),(10,Av s.2.2.2.1)]) (O:=λs g=>[(6,dV g.1 1 28 (.agg [.nils])),(9,dV g.2 1 28 (.agg [.sl (s.2.2.1.map Pk)])),(8192,dV 0 2 69 (.agg [.sl (s.1.map eU8),Av s.2.1]))]) (body:=λs=>Uh a s.1 s.2.1 s.2.2.1 s.2.2.2.1 s.2.2.2.2) (s:=(c5,e,[],0,b)) (_,_) ((AiC [(7,some (_,⟨true,false,1,3,b.map Mk⟩))] ⟨⟨_,_,r,r,r⟩,trivial⟩ ⟨(Rf r),(Rf r),(Rf r),(Zo (Zn (l:=b) (en:=Mk) r r r (by simp))),(Rf r),(Rf r),trivial⟩ ⟨(.inl r),(.inr ⟨_,_,_,_,r,r,r,r,Aiw r ⟨(Aet Pk r),trivial⟩⟩),(.inl r),trivial⟩))<|?_
  rintro⟨q,t,u,v,w⟩ ⟨x,y⟩ nn
  try dsimp only
  unfold Uh;refine A 9 ?_;refine cD r ?_ ?_
  ·refine A 13 ?_;refine bD λh z=>?_
   refine A 1 ?_;refine bS ([h.1]:List Le) Pk r r r (by simp) r r r<|?_
   refine A 16 ?_;exact wf [11] λ_=>B
  ·exact B

noncomputable def AgG:Dw.Spec:=Pe [] .val Ux Uw (λa=>Abk a.1 a.2.1 a.2.2) Wj noE
theorem AlU:Pb Tryz.prog 28 AgG:=by
 refine fn2 3 (PD) Tryz.func28<|?_;rintro⟨a,d,c⟩;unfold Abk;refine A 11 ?_;refine cK λhq=>aP (([]:List Le)) (a.Funcs) Pk r r r r r r r (by simp) r r r (by simp) r (λ_=>r) r hq<|?_
 refine A 8 ?_;refine cK λhq=>iO (l:=([]:List Le)++a.Funcs) (en:=Pk) r r r r r hq<|bD λf e=>sE (l:=([]:List Le)++a.Funcs) (en:=Pk) (q':=c) r r r r r r r (by simp) e r r r r r<|?_
 refine A 10 ?_;refine AhZ (b:=(Ph.mk ((([]:List Le)++a.Funcs).set d.toNat c))) r ?_ r r ?_ (by first|rfl|(simp only[OT];rfl)|(simp only[OV];rfl)|(simp only[OT,OV];rfl)|(simp[Wj,Un];try rfl))
 all_goals first|(simp;done)|(simp;omega)|rfl|(simp[QS,QJ];done)

noncomputable def Akk:Dw.Spec:=Pe [] .val Ux Uw (λa=>Aam a.1 a.2.1 a.2.2) Wj noE
theorem AnT:Pb Tryz.prog 13 Akk:=by
 refine fn2 3 (Pf (l:=[(28,AgG)]) (by simp[AlU])) Tryz.func13<|?_
 intro a;unfold Aam;exact B

def ZN (a:(List Lo)×(List Lo)):List D:=[.sl (a.1.map Pl),.sl (a.2.map Pl)]
def ZM (ds:List D):(List Lo)×(List Lo):=((uL Yo) (ds.getD 0 .top),(uL Yo) (ds.getD 1 .top))
instance:Py ZN ZM:=⟨λa=>by simp[ZM,ZN,Qf (u:=Yo) (en:=Pl) Amb]⟩
noncomputable def Agk:Dw.Spec:=Pe [] .ground ZN ZM (λa=>XA a.1 a.2) Po noE
theorem Ala:Pb Tryz.prog 59 Agk:=by
 refine fn2 2 (PD) Tryz.func59<|?_;rintro⟨a,b⟩;unfold XA;refine A 15 ?_;refine cD r ?_ ?_
 ·exact B
 ·refine A 9 ?_;refine lP (E:=λ(s:Int) (_g:Unit)=>[(0,.sl (a.map Pl)),(1,.sl (b.map Pl)),(5,Av s)]) (O:=λ_ _=>[]) (body:=λs=>Uy a b s) (s:=0) () ((hX))<|?_
  rintro c ⟨⟩ nn
  try dsimp only
  unfold Uy;refine A 9 ?_;refine cD r ?_ ?_
  ·refine A 8 ?_;refine bD λd e=>?_
   refine A 4 ?_;refine bD λf g=>?_
   refine A 5 ?_;refine cD r ?_ ?_
   ·exact B
   ·refine A 8 ?_;exact xL (s:=i64.wrap (c+1)) () ((hX))
  ·exact B

def ZP (a:Le×Le):List D:=[Pk a.1,Pk a.2]
def ZO (ds:List D):Le×Le:=(Sz (ds.getD 0 .top),Sz (ds.getD 1 .top))
instance:Py ZP ZO:=⟨λa=>by simp[ZO,ZP]⟩
noncomputable def Agl:Dw.Spec:=Pe [] .ground ZP ZO (λa=>XB a.1 a.2) Po noE
theorem Alb:Pb Tryz.prog 26 Agl:=by
 refine fn2 2 (Pf (l:=[(59,Agk)]) (by simp[Ala])) Tryz.func26<|?_
 rintro⟨a,b⟩;unfold XB;refine A 7 ?_;refine sC (E:=λ(_s:Unit) (g:Nat×Nat)=>[(2,.optr 2 g.1 0 0),(3,.optr 3 g.2 0 0)]) (O:=λ_ g=>[(2,dV g.1 3 36 (Pk a)),(3,dV g.2 3 36 (Pk b))]) (j:=λ_=>Xc a b) ?_ ?_
 ·refine A 8 ?_;refine PI r ?_ ?_
  ·exact B
  ·refine A 9 ?_;refine PI r ?_ ?_
   ·exact B
   ·refine A 4 ?_;refine bD λd e=>?_
    refine A 5 ?_;refine cD r ?_ ?_
    ·exact B
    ·refine A 1 ?_;exact xC (s:=()) (_,_) ((hX))
 ·rintro⟨⟩ ⟨f,h⟩ nn
  try dsimp only
  unfold Xc;refine A 7 ?_;refine lP (E:=λ(s:Int) (g:Nat×Nat)=>[(2,.optr 2 g.1 0 0),(3,.optr 3 g.2 0 0),(5,Av s)]) (O:=λ_ g=>[(2,dV g.1 3 36 (Pk a)),(3,dV g.2 3 36 (Pk b))]) (body:=λs=>Uz a b s) (s:=0) (_,_) ((hX))<|?_
  rintro c ⟨i,k⟩ nn
  try dsimp only
  unfold Uz;refine A 10 ?_;refine cD r ?_ ?_
  ·refine A 9 ?_;refine bD λm o=>?_
   refine A 5 ?_;refine bD λp q=>?_
   refine A 5 ?_;refine cD r ?_ ?_
   ·exact B
   ·refine A 8 ?_;exact xL (s:=i64.wrap (c+1)) (_,_) ((hX))
  ·exact B

def AdO (a:Ph×Ph):List D:=[Un a.1,Un a.2]
def AdN (ds:List D):Ph×Ph:=(ZY (ds.getD 0 .top),ZY (ds.getD 1 .top))
instance:Py AdO AdN:=⟨λa=>by simp[AdN,AdO]⟩
noncomputable def Akg:Dw.Spec:=Pe [] .ground AdO AdN (λa=>Aak a.1 a.2) Po noE
theorem AnQ:Pb Tryz.prog 11 Akg:=by
 refine fn2 2 (Pf (l:=[(26,Agl)]) (by simp[Alb])) Tryz.func11<|?_
 rintro⟨a,b⟩;unfold Aak;refine A 19 ?_;refine cD r ?_ ?_
 ·exact B
 ·refine A 9 ?_;refine lP (E:=λ(s:Int) (g:Nat×Nat)=>[(2,.optr 2 g.1 0 0),(3,.optr 3 g.2 0 0),(5,Av s)]) (O:=λ_ g=>[(2,dV g.1 1 28 (.agg [.sl (a.Funcs.map Pk)])),(3,dV g.2 1 28 (.agg [.sl (b.Funcs.map Pk)]))]) (body:=λs=>Yk a b s) (s:=0) (_,_) ((hX))<|?_
  rintro c ⟨d,e⟩ nn
  try dsimp only
  unfold Yk;refine A 10 ?_;refine cD r ?_ ?_
  ·refine A 9 ?_;refine bD λf h=>?_
   refine A 5 ?_;refine bD λi j=>?_
   refine A 2 ?_;refine bD λk m=>?_
   refine A 4 ?_;refine cD r ?_ ?_
   ·exact B
   ·refine A 8 ?_;exact xL (s:=i64.wrap (c+1)) (_,_) ((hX))
  ·exact B

def TG (a:(List Int)):List D:=[.sl (a.map eU8)]
def TF (ds:List D):(List Int):=(uL uI) (ds.getD 0 .top)
theorem Acf (a:(List Int)):TF (TG a)=a:=by simp[TF,TG,Qf (u:=uI) (en:=eU8) (λ_=>rfl)]
instance:Py TG TF:=⟨Acf⟩
noncomputable def AiE:Dw.Spec:=Pe [] .ground TG TF (λa=>TY a) Po noE
theorem AhM:Pb Tryz.prog 3 AiE:=by
 refine fn2 1 (Pf (l:=[(7,Ajd),(8,Amp),(9,AcC),(10,Ri),(12,AcP),(13,Akk),(11,Akg)]) (by simp[AmV,ApW,AhB,Rq,Agh,AnT,AnQ])) Tryz.func3<|?_
 intro a;unfold TY;exact B

end Go.Proofs.YtilmapojncgflaaGreatDoor
