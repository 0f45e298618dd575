/-
  Programs on typed data, and the proofs that the code does what they say; written by a program (dx.py).
-/
import Derived.Test.YtilmapojncgflaaGreatDoorProg
import Derived.Test.YtilmapojncgflaaGreatDoorDd
import Derived.KernelRfl
import Derived.Test.YtilmapojncgflaaGreatDoorSh
import Derived.Test.YtilmapojncgflaaGreatDoorCl
import Derived.Test.YtilmapojncgflaaGreatDoorDxP
import Derived.Test.YtilmapojncgflaaGreatDoorDxF1
import Derived.Test.YtilmapojncgflaaGreatDoorDxF2
import Derived.Test.YtilmapojncgflaaGreatDoorDxF3
import Derived.Test.YtilmapojncgflaaGreatDoorDxF4
import Derived.Test.YtilmapojncgflaaGreatDoorDxF5
namespace Go.Proofs.YtilmapojncgflaaGreatDoor
open Go Go.Dw Go.Proofs
open Go.IntKind (i64)
set_option maxRecDepth 100000
set_option maxHeartbeats 40000000
open Go.Dw renaming Rm -> bD,Qa -> cK,AdY -> bS,AkA -> aP,TI -> sE,Ack -> cD,Aea -> xC,ZX -> xL,Aeb -> lP,Aap -> sC,Aid -> bC,Aib -> mF,rf -> r
noncomputable section
def Aaw (a:(List Pa)×(List (List Int))×Int):List D:=[.sl (a.1.map Pu),.sl (a.2.1.map (eL Mk)),Av a.2.2]
def Aav (ds:List D):(List Pa)×(List (List Int))×Int:=((uL UL) (ds.getD 0 .top),(uL (uL uI)) (ds.getD 1 .top),uI (ds.getD 2 .top))
instance:Py Aaw Aav:=⟨λa=>by simp[Aav,Aaw,uI,Qf (u:=UL) (en:=Pu) Acl,Qf (u:=(uL uI)) (en:=(eL Mk)) (Qf (u:=uI) (en:=Mk) (λ_=>rfl))]⟩
def Aml (b:(List Int)×Int):D:=.tup [.sl (b.1.map Mk),Av b.2]
def Agy:Dw.Spec:=Pe [] .val Aaw Aav (λa=>VR a.1 a.2.1 a.2.2) Aml noE
theorem Aly:Pb Tryz.prog 66 Agy:=by
 refine fn2 3 (Pf (l:=[(120,AdC),(121,Afk),(122,Ahz),(123,Afc),(124,AjR)]) (by simp[AgD,AjV,Amm,AjF,AnN])) Tryz.func66<|?_
 rintro⟨a,d,c⟩;unfold VR;refine A 10 ?_;refine bD λq t=>?_
 refine A 10 ?_;refine cD r ?_ ?_
 ·exact B
 ·refine A 2 ?_;refine sC (E:=λ(_s:Unit) (_g:Unit)=>[(0,.sl (a.map Pu)),(1,.sl (d.map (eL Mk))),(2,Av c)]) (O:=λ_ _=>[]) (j:=λ_=>Abu a d c) ?_ ?_
  ·refine A 5 ?_;refine bD λu v=>?_
   refine A 3 ?_;refine PI r ?_ ?_
   ·exact B
   ·refine A 4 ?_;refine PI r ?_ ?_
    ·exact B
    ·refine A 5 ?_;refine cD r ?_ ?_
     ·exact B
     ·refine A 1 ?_;exact xC (s:=()) () ((hX))
  ·rintro⟨⟩ ⟨⟩ nn
   try dsimp only
   unfold Abu;refine A 16 ?_;refine bD λb w=>?_
   refine A 6 ?_;refine lP (E:=λ(s:(List Bool)×(List Int)×Int) (g:Nat×Nat×Nat)=>[(0,.sl (a.map Pu)),(1,.sl (d.map (eL Mk))),(2,Av c),(9,.osl 9 g.1 0 s.2.1.length),(10,.osl 10 g.2.1 0 s.1.length),(43,.osl 43 g.2.2 0 b.length),(44,Av (b.length:Int)),(45,Av s.2.2)]) (O:=λs g=>[(9,dW g.1 1 3 (s.2.1.map Mk)),(10,dW g.2.1 1 4 (s.1.map D.bool)),(43,dW g.2.2 1 3 (b.map Mk))]) (body:=λs=>XT b d a c s.1 s.2.1 s.2.2) (s:=(List.replicate (a.length:Int).toNat false,List.replicate (a.length:Int).toNat (0:Int),0)) (_,_,_) ((hX))<|?_
   rintro⟨e,f,i⟩ ⟨x,y,z⟩ nn
   try dsimp only
   unfold XT;refine A 6 ?_;refine cD r ?_ ?_
   ·refine A 7 ?_;refine bD λk aa=>?_
    refine A 14 ?_;refine bD λh ab=>?_
    refine A 7 ?_;refine lP (E:=λ(s:(List OX)×Int) (g:Nat×Nat×Nat×Nat)=>[(0,.sl (a.map Pu)),(1,.sl (d.map (eL Mk))),(2,Av c),(9,.osl 9 g.1 0 f.length),(10,.osl 10 g.2.1 0 e.length),(12,Av k),(13,.osl 13 g.2.2.1 0 s.1.length),(43,.osl 43 g.2.2.2 0 b.length),(44,Av (b.length:Int)),(45,Av i),(52,.sl (h.map Mk)),(53,Av (h.length:Int)),(54,Av s.2)]) (O:=λs g=>[(9,dW g.1 1 3 (f.map Mk)),(10,dW g.2.1 1 4 (e.map D.bool)),(13,dW g.2.2.1 2 121 (s.1.map PH)),(43,dW g.2.2.2 1 3 (b.map Mk))]) (body:=λs=>XU h e a f k c i s.1 s.2) (s:=(([]:List OX),0)) (_,_,_,_) ((hX))<|?_
    rintro⟨m,o⟩ ⟨ac,ad,ae,af⟩ nn
    try dsimp only
    unfold XU;refine A 6 ?_;refine cD r ?_ ?_
    ·refine A 6 ?_;refine bD λag ah=>?_
     refine A 10 ?_;refine bD λai aj=>?_
     refine A 3 ?_;refine cD r ?_ ?_
     ·refine A 5 ?_;refine bD λp ak=>?_
      refine A 1 ?_;refine bS ([p]:List OX) PH r r r (by simp) r r r<|?_
      refine A 9 ?_;exact xL (s:=(m++([p]:List OX),i64.wrap (o+1))) (_,_,_,_) ((hX))
     ·refine A 7 ?_;exact xL (s:=(m,i64.wrap (o+1))) (_,_,_,_) ((hX))
    ·exact B
   ·exact B

def AhF:Dw.Spec:=Pe [] .ground Vg Vf (λa=>Xq a) Pg noE
theorem Ams:Pb Tryz.prog 128 AhF:=by
 refine fn2 1 (Pf (l:=[(120,AdC)]) (by simp[AgD])) Tryz.func128<|?_
 intro a;unfold Xq;refine A 14 ?_;refine bD λe f=>?_
 refine A 4 ?_;refine cD r ?_ ?_
 ·refine A 8 ?_;refine lP (E:=λ(s:Int×Int) (_g:Unit)=>[(3,Av s.2),(9,.sl (a.map Pu)),(10,Av (a.length:Int)),(11,Av s.1)]) (O:=λ_ _=>[]) (body:=λs=>YW a s.1 s.2) (s:=(0,16)) () ((hX))<|?_
  rintro⟨b,c⟩ ⟨⟩ nn
  try dsimp only
  unfold YW;refine A 6 ?_;refine cD r ?_ ?_
  ·refine A 6 ?_;refine bD λd g=>?_
   refine A 19 ?_;exact xL (s:=(i64.wrap (b+1),PJ c d.Align)) () ((hX))
  ·exact B
 ·exact B

def Afa (a:Ph):List D:=[Un a]
def AeZ (ds:List D):Ph:=ZY (ds.getD 0 .top)
instance:Py Afa AeZ:=⟨λa=>by simp[AeZ,Afa]⟩
def Als:Dw.Spec:=Pe [] .ground Afa AeZ (λa=>AeF a) Pg noE
theorem Apx:Pb Tryz.prog 69 Als:=by
 refine fn2 1 (Pf (l:=[(128,AhF)]) (by simp[Ams])) Tryz.func69<|?_
 intro a;unfold AeF;refine A 21 ?_;refine lP (E:=λ(s:Int×Int) (_g:Unit)=>[(3,Av s.1),(7,.sl (a.Funcs.map Pk)),(8,Av (a.Funcs.length:Int)),(9,Av s.2)]) (O:=λ_ _=>[]) (body:=λs=>Agr a s.1 s.2) (s:=(16,0)) () ((hX))<|?_
 rintro⟨b,c⟩ ⟨⟩ nn
 try dsimp only
 unfold Agr;refine A 6 ?_;refine cD r ?_ ?_
 ·refine A 6 ?_;refine bD λe f=>?_
  refine A 10 ?_;refine bD λd g=>?_
  refine A 10 ?_;exact xL (s:=(PJ b d,i64.wrap (c+1))) () ((hX))
 ·exact B

def AaD (a:OX×Int):List D:=[PH a.1,Av a.2]
def AaC (ds:List D):OX×Int:=(Uc (ds.getD 0 .top),uI (ds.getD 1 .top))
instance:Py AaD AaC:=⟨λa=>by simp[AaC,AaD,uI]⟩
def AgC:Dw.Spec:=Pe [] .ground AaD AaC (λa=>Abb a.1 a.2) Po noE
theorem AlH:Pb Tryz.prog 125 AgC:=by
 refine fn2 2 (Pf (l:=[(169,AdD)]) (by simp[AgE])) Tryz.func125<|?_
 intro a;unfold Abb;exact B

def Adw (a:(List Pa)×(List Int)):List D:=[.sl (a.1.map Pu),.sl (a.2.map Mk)]
def Adv (ds:List D):(List Pa)×(List Int):=((uL UL) (ds.getD 0 .top),(uL uI) (ds.getD 1 .top))
instance:Py Adw Adv:=⟨λa=>by simp[Adv,Adw,Qf (u:=UL) (en:=Pu) Acl,Qf (u:=uI) (en:=Mk) (λ_=>rfl)]⟩
def AjB:Dw.Spec:=Pe [] .ground Adw Adv (λa=>Acv a.1 a.2) Pg noE
theorem AnL:Pb Tryz.prog 127 AjB:=by
 refine fn2 2 (PD) Tryz.func127<|?_;rintro⟨a,b⟩;unfold Acv;refine A 19 ?_;refine lP (E:=λ(s:Int×Int) (_g:Unit)=>[(0,.sl (a.map Pu)),(1,.sl (b.map Mk)),(5,Av s.1),(8,Av (a.length:Int)),(9,Av s.2)]) (O:=λ_ _=>[]) (body:=λs=>AeK a b s.1 s.2) (s:=(0,0)) () ((hX))<|?_
 rintro⟨c,d⟩ ⟨⟩ nn
 try dsimp only
 unfold AeK;refine A 6 ?_;refine cD r ?_ ?_
 ·refine A 14 ?_;refine bD λe g=>?_
  refine A 4 ?_;refine bD λf h=>?_
  refine A 13 ?_;exact xL (s:=(PJ c (i64.wrap (e+f.Size)),i64.wrap (d+1))) () ((hX))
 ·exact B

def AbB:Dw.Spec:=Pe [] .ground Qp Qo (λa=>UR a) AcF noE
theorem Afi:Pb Tryz.prog 201 AbB:=by
 refine fn2 1 (PD) Tryz.func201<|?_;intro a;unfold UR;exact B

def Ali:Dw.Spec:=Pe [] .ground SB SA (λa=>Aex a.1 a.2) AcF noE
theorem AoK:Pb Tryz.prog 175 Ali:=by
 refine fn2 2 (Pf (l:=[(166,Xt),(158,Aad),(173,Ahc),(201,AbB)]) (by simp[YZ,AcH,AjS,Afi])) Tryz.func175<|?_
 rintro⟨a,b⟩;unfold Aex;refine A 6 ?_;refine sC (E:=λ(_s:Unit) (_g:Unit)=>[(0,Av a),(1,Av b)]) (O:=λ_ _=>[]) (j:=λ_=>AcI a b) ?_ ?_
 ·refine A 3 ?_;refine bD λc d=>?_
  refine A 3 ?_;refine PI r ?_ ?_
  ·exact B
  ·refine A 1 ?_;refine bD λe f=>?_
   refine A 5 ?_;refine cD r ?_ ?_
   ·exact B
   ·refine A 1 ?_;exact xC (s:=()) () ((hX))
 ·rintro⟨⟩ ⟨⟩ nn
  try dsimp only
  unfold AcI;exact B

def AjQ:Dw.Spec:=Pe [] .ground SB SA (λa=>AcD a.1 a.2) AcF noE
theorem AnM:Pb Tryz.prog 176 AjQ:=by
 refine fn2 2 (Pf (l:=[(166,Xt),(201,AbB)]) (by simp[YZ,Afi])) Tryz.func176<|?_
 rintro⟨a,b⟩;unfold AcD;refine A 6 ?_;refine sC (E:=λ(_s:Unit) (_g:Unit)=>[(0,Av a),(1,Av b)]) (O:=λ_ _=>[]) (j:=λ_=>AaW a b) ?_ ?_
 ·refine A 3 ?_;refine bD λc d=>?_
  refine A 3 ?_;refine PI r ?_ ?_
  ·exact B
  ·refine A 1 ?_;refine bD λe f=>?_
   refine A 5 ?_;refine cD r ?_ ?_
   ·exact B
   ·refine A 1 ?_;exact xC (s:=()) () ((hX))
 ·rintro⟨⟩ ⟨⟩ nn
  try dsimp only
  unfold AaW;exact B

def AdL (a:Qg×Int×Int):List D:=[AbY a.1,Av a.2.1,Av a.2.2]
def AdK (ds:List D):Qg×Int×Int:=(Anm (ds.getD 0 .top),uI (ds.getD 1 .top),uI (ds.getD 2 .top))
instance:Py AdL AdK:=⟨λa=>by simp[AdK,AdL,uI]⟩
def ZI (b:Qg×Int):D:=.tup [AbY b.1,Av b.2]
def Akf:Dw.Spec:=Pe [] .val AdL AdK (λa=>Afu a.1 a.2.1 a.2.2) ZI noE
theorem AnP:Pb Tryz.prog 126 Akf:=by
 refine fn2 3 (Pf (l:=[(175,Ali),(176,AjQ)]) (by simp[AoK,AnM])) Tryz.func126<|?_
 rintro⟨c,e,f⟩;unfold Afu;refine A 11 ?_;refine bD λa h=>?_
 refine A 8 ?_;refine sC (E:=λ(s:Int) (g:Nat×Nat)=>[(3,.optr 3 g.1 0 0),(6,.optr 6 g.2 0 0),(8,Av a.1),(9,Av s)]) (O:=λ_ g=>[(3,dV g.1 3 46 (AbY c)),(6,dV g.2 3 46 (.agg [Av 0,Av 0,.nils]))]) (j:=λs=>Abf c a s) ?_ ?_
 ·refine A 6 ?_;refine cD r ?_ ?_
  ·refine A 2 ?_;refine bD λd i=>?_
   refine A 6 ?_;exact xC (s:=d.2) (_,_) ((hX))
  ·refine A 1 ?_;exact xC (s:=a.2) (_,_) ((hX))
 ·rintro k ⟨m,o⟩ nn
  try dsimp only
  unfold Abf;refine A 7 ?_;refine cD r ?_ ?_
  ·refine A 9 ?_;refine Yt (b:=((Qg.mk 0 0 ([])),9)) r ?_ r r ?_ (by first|rfl|(simp only[OT];rfl)|(simp only[OV];rfl)|(simp only[OT,OV];rfl)|(simp[ZI,AbY];try rfl)) (by decide)
   all_goals first|(simp;done)|(simp;omega)|rfl|(simp[QS,QJ];done)
  ·exact B

def AcT (a:Ph×Int×Int×(List Int)):List D:=[Un a.1,Av a.2.1,Av a.2.2.1,.sl (a.2.2.2.map Mk)]
def AcS (ds:List D):Ph×Int×Int×(List Int):=(ZY (ds.getD 0 .top),uI (ds.getD 1 .top),uI (ds.getD 2 .top),(uL uI) (ds.getD 3 .top))
instance:Py AcT AcS:=⟨λa=>by simp[AcS,AcT,uI,Qf (u:=uI) (en:=Mk) (λ_=>rfl)]⟩
def Aje:Dw.Spec:=Pe [] .val AcT AcS (λa=>Yq a.1 a.2.1 a.2.2.1 a.2.2.2) ZI noE
theorem AmX:Pb Tryz.prog 68 Aje:=by
 refine fn2 4 (Pf (l:=[(125,AgC),(67,Ahg),(115,Alx),(127,AjB),(126,Akf)]) (by simp[AlH,Ake,Anp,AnL,AnP])) Tryz.func68<|?_
 rintro⟨c,d,e,f⟩;unfold Yq;refine A 12 ?_;refine bD λa i=>?_
 refine A 16 ?_;refine cD r ?_ ?_
 ·refine A 9 ?_;refine Yt (b:=((Qg.mk 0 0 ([])),13)) r ?_ r r ?_ (by first|rfl|(simp only[OT];rfl)|(simp only[OV];rfl)|(simp only[OT,OV];rfl)|(simp[ZI,AbY];try rfl)) (by decide)
  all_goals first|(simp;done)|(simp;omega)|rfl|(simp[QS,QJ];done)
 ·refine A 11 ?_;refine lP (E:=λ(s:Int) (g:Nat×Nat)=>[(1,Av d),(2,Av e),(3,.sl (f.map Mk)),(4,.optr 4 g.1 0 0),(8,.optr 8 g.2 0 0),(10,.sl (a.Slots.map Pu)),(26,.sl (a.Slots.map Pu)),(27,Av (a.Slots.length:Int)),(28,Av s)]) (O:=λ_ g=>[(4,dV g.1 1 28 (.agg [.sl (c.Funcs.map Pk)])),(8,dV g.2 3 46 (.agg [Av 0,Av 0,.nils]))]) (body:=λs=>AdJ a f c d e s) (s:=0) (_,_) ((hX))<|?_
  rintro h ⟨j,k⟩ nn
  try dsimp only
  unfold AdJ;refine A 6 ?_;refine cD r ?_ ?_
  ·refine A 7 ?_;refine bD λm o=>?_
   refine A 11 ?_;refine bD λp q=>?_
   refine A 5 ?_;refine bD λt u=>?_
   refine A 4 ?_;refine cD r ?_ ?_
   ·refine A 13 ?_;refine Yt (b:=((Qg.mk 0 0 ([])),13)) r ?_ r r ?_ (by first|rfl|(simp only[OT];rfl)|(simp only[OV];rfl)|(simp only[OT,OV];rfl)|(simp[ZI,AbY];try rfl)) (by decide)
    all_goals first|(simp;done)|(simp;omega)|rfl|(simp[QS,QJ];done)
   ·refine A 7 ?_;exact xL (s:=i64.wrap (h+1)) (_,_) ((hX))
  ·refine A 9 ?_;refine bD λv w=>?_
   refine A 2 ?_;refine bD λx y=>?_
   refine A 13 ?_;refine bD λz aa=>?_
   refine A 1 ?_;refine AtG r r r r<|?_;exact B

def AhR (b:PE):List D:=[SE b]
def Aci:Dw.Spec:=Pe [(0,(12,75))] .val QZ RB (λa=>VC a) UJ AhR
theorem Ahf:Pb Tryz.prog 32 Aci:=by
 refine fn2 1 (Pf (l:=[(12,AcP),(65,Aey),(67,Ahg),(66,Agy),(69,Als),(68,Aje)]) (by simp[Agh,Ajq,Ake,Aly,Apx,AmX])) Tryz.func32<|?_
 intro a;unfold VC;refine A 14 ?_;refine bD λc d=>?_
 refine A 16 ?_;refine bD λe g=>?_
 refine A 21 ?_;refine bD λh j=>?_
 refine A 1 ?_;refine bD λk m=>?_
 refine A 15 ?_;refine cD r ?_ ?_
 ·exact B
 ·refine A 13 ?_;refine bD λo q=>?_
  refine A 2 ?_;refine bD λb s=>?_
  refine A 15 ?_;refine cD r ?_ ?_
  ·refine A 6 ?_;refine SR (i:=0) (es':=[.agg [.sl (a.p.Funcs.map Pk),Av a.i,Av a.f.Params,.sl (a.f.Slots.map Pu),.sl (a.f.Code.map Pl),.sl (a.x.Live.Out.map (eL Mk)),.sl (a.x.Rename.To.map Mk),.sl (a.x.Rename.Keep.map D.bool),.sl (a.x.LiveAfter.Out.map (eL Mk)),Av b.1.Args,Av b.1.Size,.sl (b.1.Off.map Mk)]]) r r r r r r r (by first|trivial|(simp;done)|(simp;omega)) r r r r r r<|?_
   exact B
  ·exact B

def Akc (b:Rp):D:=Agz b
def AeD:Dw.Spec:=Pe [] .val Abe Abd (λa=>Vn a.1 a.2) Akc noE
theorem Ajr:Pb Tryz.prog 14 AeD:=by
 refine fn2 2 (Pf (l:=[(29,AcR),(30,AcQ),(31,Ach),(32,Aci)]) (by simp[AhQ,AhP,Ahe,Ahf])) Tryz.func14<|?_
 rintro⟨a,b⟩;unfold Vn;refine A 13 ?_;refine bD λc k=>?_
 refine A 11 ?_;refine mF (caps:=[.optr 16 _ 0 0]) r r (by simp[UX])<|?_
 refine A 1 ?_;refine mF (caps:=[.optr 16 _ 0 0]) r r (by simp[UX])<|?_
 refine A 1 ?_;refine mF (caps:=[.optr 16 _ 0 0]) r r (by simp[UX])<|?_
 refine A 1 ?_;refine mF (caps:=[.optr 16 _ 0 0]) r r (by simp[UX])<|AtF r r r r r<|Aqk r r<|?_
 refine A 4 ?_;refine AsJ 5<|?_;refine A 13 ?_;refine AkB r r r (by decide)<|?_
 refine A 6 ?_;refine bD λd e=>Abn (q:=29) (PE.mk a b c (Rp.mk (Pj.mk ([])) (Pn.mk ([]) ([])) (Pj.mk ([])) (Qg.mk 0 0 ([])))) r r r Py.ok r r (by simp) (by first|rfl|(simp only[OT];rfl)|(simp only[OV];rfl)|(simp only[OT,OV];rfl)|simp[QZ,SE]) e<|?_
 refine A 7 ?_;refine Ael<|?_;refine A 13 ?_;refine AkB r r r (by decide)<|?_
 refine A 6 ?_;refine bD λf g=>Abn (q:=30) d r r r Py.ok r r (by simp) r g<|?_
 refine A 7 ?_;refine Ael<|?_;refine A 13 ?_;refine AkB r r r (by decide)<|?_
 refine A 6 ?_;refine bD λh i=>Abn (q:=31) f r r r Py.ok r r (by simp) r i<|?_
 refine A 7 ?_;refine Ael<|?_;refine A 13 ?_;refine AkB r r r (by decide)<|?_
 refine A 6 ?_;refine bD λm j=>Abn (q:=32) h r r r Py.ok r r (by simp) r j<|?_
 refine A 7 ?_;refine Ael<|?_;refine A 9 ?_;refine Aqm<|?_;exact B

def AcN (_a:Unit):List D:=[]
def AcM (_ds:List D):Unit:=()
theorem AmU (a:Unit):AcM (AcN a)=a:=rfl
instance:Py AcN AcM:=⟨AmU⟩
def Ajd:Dw.Spec:=Pe [] .ground AcN AcM (λ_a=>AaO) Po noE
theorem AmV:Pb Tryz.prog 7 Ajd:=by
 refine fn2 0 (Pf (l:=[(14,AeD)]) (by simp[Ajr])) Tryz.func7<|?_
 intro _;unfold AaO;refine A 8 ?_;refine bS ([(Lo.mk 23 0 0 0 0)]:List Lo) Pl r r r (by simp) r r r<|?_
 refine A 1 ?_;refine bS ([(Le.mk 0 ([]) ([(Lo.mk 23 0 0 0 0)]:List Lo))]:List Le) Pk r r r (by simp) r (by simp[Za,Pk]<;>first|rfl|(rw[List.take_of_length_le (by simp)])) r<|?_
 exact B

def AfX (a:(List Int)×Int):List D:=[.sl (a.1.map eU8),Av a.2]
def AfW (ds:List D):(List Int)×Int:=((uL uI) (ds.getD 0 .top),uI (ds.getD 1 .top))
instance:Py AfX AfW:=⟨λa=>by simp[AfW,AfX,uI,Qf (u:=uI) (en:=eU8) (λ_=>rfl)]⟩
def Arf (b:OY):D:=Qu b
def Amp:Dw.Spec:=Pe [] (.ptr 2 69) AfX AfW (λa=>AfV a.1 a.2) Arf noE
theorem ApW:Pb Tryz.prog 8 Amp:=by
 refine fn2 2 (PD) Tryz.func8<|?_;intro a;unfold AfV;exact B

def Tu (a:OY):List D:=[Qu a]
def Tt (ds:List D):OY:=UQ (ds.getD 0 .top)
instance:Py Tu Tt:=⟨λa=>by simp[Tt,Tu]⟩
def AkM (b:Bool×OY):D:=.bool b.1
def AkL (b:Bool×OY):List D:=[Qu b.2]
def Afd:Dw.Spec:=Pe [(0,(2,69))] .val Tu Tt (λa=>YT a) AkM AkL
theorem AjH:Pb Tryz.prog 25 Afd:=by
 refine fn2 1 (PD) Tryz.func25<|?_;intro a;unfold YT;exact B

def Vv (a:OY×Int):List D:=[Qu a.1,Av a.2]
def Vu (ds:List D):OY×Int:=(UQ (ds.getD 0 .top),uI (ds.getD 1 .top))
instance:Py Vv Vu:=⟨λa=>by simp[Vu,Vv,uI]⟩
def Afe (b:Int×OY):D:=Av b.1
def AkN (b:Int×OY):List D:=[Qu b.2]
def Ri:Dw.Spec:=Pe [(0,(2,69))] .val Vv Vu (λa=>Pm a.1 a.2) Afe AkN
theorem Rq:Pb Tryz.prog 10 Ri:=by
 refine fn2 2 (Pf (l:=[(25,Afd)]) (by simp[AjH])) Tryz.func10<|?_
 rintro⟨e,a⟩;unfold Pm;refine A 5 ?_;refine sC (E:=λ(_s:(List Int)×Int) (_g:Unit)=>[(0,.optr 8192 0 0 0),(1,Av a)]) (O:=λs _=>[(8192,dV 0 2 69 (.agg [.sl (s.1.map eU8),Av s.2]))]) (j:=λs=>VY a s.1 s.2) ?_ ?_
 ·refine A 3 ?_;refine bD λb f=>?_
  refine A 3 ?_;refine PI r ?_ ?_
  ·exact B
  ·refine A 5 ?_;refine cD r ?_ ?_
   ·exact B
   ·refine A 1 ?_;exact xC (s:=(b.2.list,b.2.at_)) () ((hX))
 ·rintro⟨c,d⟩ ⟨⟩ nn
  try dsimp only
  unfold VY;refine A 10 ?_;refine bD λg h=>?_
  refine A 15 ?_;refine SR (i:=0) (es':=[.agg [.sl (c.map eU8),Av (i64.wrap (d+1))]]) r r r r r r r (by first|trivial|(simp;done)|(simp;omega)) r r r r r r<|?_
  exact B

def AkP (b:Pa×OY):D:=Pu b.1
def AkO (b:Pa×OY):List D:=[Qu b.2]
def Aff:Dw.Spec:=Pe [(0,(2,69))] .val Tu Tt (λa=>YU a) AkP AkO
theorem AjI:Pb Tryz.prog 97 Aff:=by
 refine fn2 1 (Pf (l:=[(10,Ri)]) (by simp[Rq])) Tryz.func97<|?_
 intro a;unfold YU;refine A 7 ?_;refine bS ([8,4,8,1,2,16,8]:List Int) Mk r r r (by simp) r r r<|?_
 refine A 1 ?_;refine bD λb c=>?_
 refine A 2 ?_;refine bD λd e=>?_
 refine A 1 ?_;refine bS ([8,4,1,8,16,2,32,64]:List Int) Mk r r r (by simp) r r r<|?_
 exact B

def AjK (b:(List Pa)×OY):D:=.sl (b.1.map Pu)
def AjJ (b:(List Pa)×OY):List D:=[Qu b.2]
def Aeu:Dw.Spec:=Pe [(0,(2,69))] (.row 2 60) Vv Vu (λa=>Ve a.1 a.2) AjK AjJ
theorem Ajo:Pb Tryz.prog 56 Aeu:=by
 refine fn2 2 (Pf (l:=[(10,Ri),(97,Aff)]) (by simp[Rq,AjI])) Tryz.func56<|?_
 rintro⟨e,f⟩;unfold Ve;refine A 16 ?_;refine bD λb h=>?_
 refine A 5 ?_;refine lP (E:=λ(s:(List Int)×Int×(List Pa)×Int) (g:Nat)=>[(0,.optr 8192 0 0 0),(5,.osl 5 g 0 s.2.2.1.length),(6,Av s.2.2.2)]) (O:=λs g=>[(5,dW g 2 60 (s.2.2.1.map Pu)),(8192,dV 0 2 69 (.agg [.sl (s.1.map eU8),Av s.2.1]))]) (body:=λs=>YI s.1 s.2.1 s.2.2.1 s.2.2.2) (s:=(b.2.list,b.2.at_,([]:List Pa),b.1)) _ ((hX))<|?_
 rintro⟨i,c5,c,d⟩ j nn
 try dsimp only
 unfold YI;refine A 7 ?_;refine cD r ?_ ?_
 ·refine A 7 ?_;refine bD λa k=>?_
  refine A 1 ?_;refine bS ([a.1]:List Pa) Pu r r r (by simp) r r r<|?_
  refine A 10 ?_;exact xL (s:=(a.2.list,a.2.at_,c++([a.1]:List Pa),i64.wrap (d-1))) _ ((hX))
 ·exact B

def YM (a:OY×Le×Int):List D:=[Qu a.1,Pk a.2.1,Av a.2.2]
def YL (ds:List D):OY×Le×Int:=(UQ (ds.getD 0 .top),Sz (ds.getD 1 .top),uI (ds.getD 2 .top))
instance:Py YM YL:=⟨λa=>by simp[YL,YM,uI]⟩
def AkU (b:Int×OY):List D:=[Qu b.2]
def Afh:Dw.Spec:=Pe [(0,(2,69))] .val YM YL (λa=>YV a.1 a.2.1 a.2.2) Afe AkU
theorem AjM:Pb Tryz.prog 98 Afh:=by
 refine fn2 3 (Pf (l:=[(10,Ri)]) (by simp[Rq])) Tryz.func98<|?_
 rintro⟨a,c,d⟩;unfold YV;refine A 18 ?_;refine lP (E:=λ(s:(List Int)×Int) (g:Nat×Nat)=>[(0,.optr 8192 0 0 0),(2,Av d),(4,.optr 4 g.1 0 0),(7,.osl 7 g.2 0 s.1.length),(8,Av s.2)]) (O:=λs g=>[(4,dV g.1 3 36 (Pk c)),(7,dW g.2 1 3 (s.1.map Mk)),(8192,dV 0 2 69 (.agg [.sl (a.list.map eU8),Av a.at_]))]) (body:=λs=>Zs c d a s.1 s.2) (s:=(([]:List Int),0)) (_,_) ((hX))<|?_
 rintro⟨e,b⟩ ⟨f,h⟩ nn
 try dsimp only
 unfold Zs;refine A 10 ?_;refine cD r ?_ ?_
 ·refine A 9 ?_;refine bD λi j=>?_
  refine A 6 ?_;refine bD λk m=>?_
  refine A 6 ?_;refine cD r ?_ ?_
  ·refine A 14 ?_;exact xL (s:=(e++([b]:List Int),i64.wrap (b+1))) (_,_) ((hX))
  ·refine A 8 ?_;exact xL (s:=(e,i64.wrap (b+1))) (_,_) ((hX))
 ·exact B

def AkR (b:Int×OY):D:=AjG b.1
def AkQ (b:Int×OY):List D:=[Qu b.2]
def AaA:Dw.Spec:=Pe [(0,(2,69))] .val Tu Tt (λa=>VZ a) AkR AkQ
theorem Aev:Pb Tryz.prog 58 AaA:=by
 refine fn2 1 (Pf (l:=[(10,Ri)]) (by simp[Rq])) Tryz.func58<|?_
 intro a;unfold VZ;exact B

def YK (a:OY×Le×Int×(List Int)):List D:=[Qu a.1,Pk a.2.1,Av a.2.2.1,.sl (a.2.2.2.map Mk)]
def YJ (ds:List D):OY×Le×Int×(List Int):=(UQ (ds.getD 0 .top),Sz (ds.getD 1 .top),uI (ds.getD 2 .top),(uL uI) (ds.getD 3 .top))
instance:Py YK YJ:=⟨λa=>by simp[YJ,YK,uI,Qf (u:=uI) (en:=Mk) (λ_=>rfl)]⟩
def AkT (b:(List Lo)×OY):D:=.sl (b.1.map Pl)
def AkS (b:(List Lo)×OY):List D:=[Qu b.2]
def Afg:Dw.Spec:=Pe [(0,(2,69))] (.row 5 63) YK YJ (λa=>Wa a.1 a.2.1 a.2.2.1 a.2.2.2) AkT AkS
theorem AjL:Pb Tryz.prog 57 Afg:=by
 refine fn2 4 (Pf (l:=[(10,Ri),(98,Afh),(58,AaA)]) (by simp[Rq,AjM,Aev])) Tryz.func57<|?_
 rintro⟨c1,c,d,e⟩;unfold Wa;refine A 9 ?_;refine bD λb ab=>?_
 refine A 15 ?_;refine bD λa ac=>?_
 refine A 4 ?_;refine bC (E:=λ(_s:Unit) (_g:Unit)=>[(9,Av b.1)]) (O:=λ_ _=>[(8192,dV 0 2 69 (.agg [.sl (a.2.list.map eU8),Av a.2.at_]))]) (j:=λ_=>Zr b a) ?_ ?_
 ·refine sC (E:=λ(s:Bool) (g:Nat)=>[(0,.optr 8192 0 0 0),(2,Av d),(3,.sl (e.map Mk)),(5,.optr 5 g 0 0),(9,Av b.1),(10,Av (c.Slots.length:Int)),(11,Av a.1),(23,.bool s)]) (O:=λ_ g=>[(5,dV g 3 36 (Pk c)),(8192,dV 0 2 69 (.agg [.sl (a.2.list.map eU8),Av a.2.at_]))]) (j:=λs=>TN a c b e d s) ?_ ?_
  ·refine A 4 ?_;refine PI r ?_ ?_
   ·refine A 5 ?_;exact xC (s:=(decide ((c.Slots.length:Int)>0))) _ ((hX))
   ·refine A 5 ?_;exact xC (s:=false) _ ((hX))
  ·rintro x7 ae nn
   try dsimp only
   unfold TN;refine cD r ?_ ?_
   ·refine A 4 ?_;refine bD λo af=>?_
    refine A 3 ?_;refine bS ([(Lo.mk 16 o.1 b.1 0 0)]:List Lo) Pl r r r (by simp) r r r<|?_
    exact B
   ·refine sC (E:=λ(s:Bool) (g:Nat)=>[(0,.optr 8192 0 0 0),(2,Av d),(3,.sl (e.map Mk)),(5,.optr 5 g 0 0),(9,Av b.1),(10,Av (c.Slots.length:Int)),(11,Av a.1),(36,.bool s)]) (O:=λ_ g=>[(5,dV g 3 36 (Pk c)),(8192,dV 0 2 69 (.agg [.sl (a.2.list.map eU8),Av a.2.at_]))]) (j:=λs=>TO a c b e d s) ?_ ?_
    ·refine A 4 ?_;refine PI r ?_ ?_
     ·refine A 5 ?_;exact xC (s:=(decide ((c.Slots.length:Int)>0))) _ ((hX))
     ·refine A 5 ?_;exact xC (s:=false) _ ((hX))
    ·rintro x9 ah nn
     try dsimp only
     unfold TO;refine cD r ?_ ?_
     ·refine A 5 ?_;refine bD λp ai=>?_
      refine A 2 ?_;refine bS ([(Lo.mk 15 b.1 p.1 0 0)]:List Lo) Pl r r r (by simp) r r r<|?_
      exact B
     ·refine sC (E:=λ(s:Bool) (g:Nat)=>[(0,.optr 8192 0 0 0),(2,Av d),(3,.sl (e.map Mk)),(5,.optr 5 g 0 0),(9,Av b.1),(10,Av (c.Slots.length:Int)),(11,Av a.1),(49,.bool s)]) (O:=λ_ g=>[(5,dV g 3 36 (Pk c)),(8192,dV 0 2 69 (.agg [.sl (a.2.list.map eU8),Av a.2.at_]))]) (j:=λs=>TP a c b e d s) ?_ ?_
      ·refine A 4 ?_;refine PI r ?_ ?_
       ·refine A 5 ?_;exact xC (s:=(decide ((c.Slots.length:Int)>0))) _ ((hX))
       ·refine A 5 ?_;exact xC (s:=false) _ ((hX))
      ·rintro aj ak nn
       try dsimp only
       unfold TP;refine cD r ?_ ?_
       ·refine A 4 ?_;refine bD λq ao=>?_
        refine A 9 ?_;refine bD λt ap=>?_
        refine A 3 ?_;refine bS ([(Lo.mk 17 t.1 q.1 0 0)]:List Lo) Pl r r r (by simp) r r r<|?_
        exact B
       ·refine A 7 ?_;refine cD r ?_ ?_
        ·refine A 4 ?_;refine bD λu aq=>?_
         refine A 2 ?_;refine bS ([(Lo.mk 0 b.1 0 0 u.1)]:List Lo) Pl r r r (by simp) r r r<|?_
         exact B
        ·refine A 7 ?_;refine cD r ?_ ?_
         ·refine A 3 ?_;refine bD λv ar=>?_
          refine A 4 ?_;refine bD λw au=>?_
          refine A 2 ?_;refine bD λx av=>?_
          refine A 2 ?_;refine bS ([(Lo.mk (i64.wrap (2+v.1)) b.1 w.1 x.1 0)]:List Lo) Pl r r r (by simp) r r r<|?_
          exact B
         ·refine A 7 ?_;refine cD r ?_ ?_
          ·refine A 4 ?_;refine bS ([(Lo.mk 14 b.1 0 0 0)]:List Lo) Pl r r r (by simp) r r r<|?_
           exact B
          ·refine A 7 ?_;refine cD r ?_ ?_
           ·refine A 2 ?_;refine bS ([13,12,1]:List Int) Mk r r r (by simp) r r r<|?_
            refine A 1 ?_;refine bD λaw ax=>?_
            refine A 2 ?_;refine bD λy ay=>?_
            refine A 3 ?_;refine bS ([(Lo.mk y b.1 0 0 0)]:List Lo) Pl r r r (by simp) r r r<|?_
            exact B
           ·refine sC (E:=λ(s:Bool) (g:Nat)=>[(0,.optr 8192 0 0 0),(2,Av d),(3,.sl (e.map Mk)),(5,.optr 5 g 0 0),(9,Av b.1),(11,Av a.1),(104,.bool s)]) (O:=λ_ g=>[(5,dV g 3 36 (Pk c)),(8192,dV 0 2 69 (.agg [.sl (a.2.list.map eU8),Av a.2.at_]))]) (j:=λs=>TQ a c b e d s) ?_ ?_
            ·refine A 4 ?_;refine PI r ?_ ?_
             ·refine A 6 ?_;exact xC (s:=(decide (c.Params>0))) _ ((hX))
             ·refine A 6 ?_;exact xC (s:=false) _ ((hX))
            ·rintro az ba nn
             try dsimp only
             unfold TQ;refine cD r ?_ ?_
             ·refine A 6 ?_;refine bD λz bb=>?_
              refine A 2 ?_;refine bS ([(Lo.mk 19 b.1 z.1 0 0)]:List Lo) Pl r r r (by simp) r r r<|?_
              exact B
             ·refine sC (E:=λ(s:Bool) (_g:Unit)=>[(0,.optr 8192 0 0 0),(2,Av d),(3,.sl (e.map Mk)),(9,Av b.1),(119,.bool s)]) (O:=λ_ _=>[(8192,dV 0 2 69 (.agg [.sl (a.2.list.map eU8),Av a.2.at_]))]) (j:=λs=>TR a e d b s) ?_ ?_
              ·refine A 4 ?_;refine PI r ?_ ?_
               ·refine A 8 ?_;exact xC (s:=(decide ((i64.wrap (d+1))<(e.length:Int)))) () ((hX))
               ·refine A 8 ?_;exact xC (s:=false) () ((hX))
              ·rintro bc ⟨⟩ nn
               try dsimp only
               unfold TR;refine cD r ?_ ?_
               ·refine A 10 ?_;refine bD λf bd=>?_
                refine A 17 ?_;refine lP (E:=λ(s:(List Int)×Int×(List Lo)×Int) (g:Nat)=>[(0,.optr 8192 0 0 0),(3,.sl (e.map Mk)),(13,Av (i64.wrap ((i64.wrap (d+1))+f.1))),(14,.osl 14 g 0 s.2.2.1.length),(15,Av s.2.2.2)]) (O:=λs g=>[(14,dW g 5 63 (s.2.2.1.map Pl)),(8192,dV 0 2 69 (.agg [.sl (s.1.map eU8),Av s.2.1]))]) (body:=λs=>Wb e d f s.1 s.2.1 s.2.2.1 s.2.2.2) (s:=(f.2.list,f.2.at_,([]:List Lo),0)) _ ((hX))<|?_
                rintro⟨bf,bg,k,h⟩ bh nn
                try dsimp only
                unfold Wb;refine A 6 ?_;refine bD λbi bj=>?_
                refine A 5 ?_;refine cD r ?_ ?_
                ·refine A 7 ?_;refine bD λm bk=>?_
                 refine A 4 ?_;refine cD r ?_ ?_
                 ·refine A 4 ?_;refine bD λi bl=>?_
                  refine A 2 ?_;refine bS ([(Lo.mk 18 h i.1 0 0)]:List Lo) Pl r r r (by simp) r r r<|?_
                  refine A 10 ?_;exact xL (s:=(i.2.list,i.2.at_,k++([(Lo.mk 18 h i.1 0 0)]:List Lo),i64.wrap (h+1))) _ ((hX))
                 ·refine A 8 ?_;exact xL (s:=(m.2.list,m.2.at_,k,i64.wrap (h+1))) _ ((hX))
                ·refine A 10 ?_;refine bS ([(Lo.mk 22 (i64.wrap ((i64.wrap (d+1))+f.1)) 0 0 0)]:List Lo) Pl r r r (by simp) r r r<|?_
                 exact B
               ·refine A 1 ?_;exact So (s:=()) () ((hX))
 ·rintro⟨⟩ ⟨⟩ nn
  try dsimp only
  unfold Zr;refine A 4 ?_;refine bS ([(Lo.mk 14 b.1 0 0 0)]:List Lo) Pl r r r (by simp) r r r<|?_
  exact B

def VI (a:OY×Int×(List Int)×Int):List D:=[Qu a.1,Av a.2.1,.sl (a.2.2.1.map Mk),Av a.2.2.2]
def VH (ds:List D):OY×Int×(List Int)×Int:=(UQ (ds.getD 0 .top),uI (ds.getD 1 .top),(uL uI) (ds.getD 2 .top),uI (ds.getD 3 .top))
instance:Py VI VH:=⟨λa=>by simp[VH,VI,uI,Qf (u:=uI) (en:=Mk) (λ_=>rfl)]⟩
def AbW (b:Le×OY):D:=Pk b.1
def AhC (b:Le×OY):List D:=[Qu b.2]
def AbX:Dw.Spec:=Pe [(0,(2,69))] .val VI VH (λa=>Vw a.1 a.2.1 a.2.2.1 a.2.2.2) AbW AhC
theorem Aha:Pb Tryz.prog 24 AbX:=by
 refine fn2 4 (Pf (l:=[(56,Aeu),(10,Ri),(57,Afg),(58,AaA)]) (by simp[Ajo,Rq,AjL,Aev])) Tryz.func24<|?_
 rintro⟨c1,k,m,ae⟩;unfold Vw;refine A 9 ?_;refine bD λc av=>?_
 refine A 3 ?_;refine bD λh aw=>?_
 refine A 18 ?_;refine lP (E:=λ(s:(List Int)×Int×(List Lo)×Int) (g:Nat×Nat×Nat×Nat)=>[(0,.optr 8192 0 0 0),(1,Av k),(2,.sl (m.map Mk)),(3,Av ae),(8,.optr 8 g.1 0 0),(9,.optr 9 g.2.1 0 0),(10,.osl 10 g.2.2.1 0 s.2.2.1.length),(11,Av s.2.2.2)]) (O:=λs g=>[(8,dV g.1 3 36 (.agg [Av 0,.nils,.nils])),(9,dV g.2.1 3 36 (.agg [Av c,.osl 21 g.2.2.2 0 h.1.length,.nils])),(10,dW g.2.2.1 5 63 (s.2.2.1.map Pl)),(21,dW g.2.2.2 2 60 (h.1.map Pu)),(8192,dV 0 2 69 (.agg [.sl (s.1.map eU8),Av s.2.1]))]) (body:=λs=>WE h ae c k m s.1 s.2.1 s.2.2.1 s.2.2.2) (s:=(h.2.list,h.2.at_,([]:List Lo),0)) (_,_,_,_) ((hX))<|?_
 rintro⟨c7,c8,z,o⟩ ⟨az,ba,bb,bc⟩ nn
 try dsimp only
 unfold WE;refine A 10 ?_;refine cD r ?_ ?_
 ·refine A 7 ?_;refine bD λaf bd=>?_
  refine A 4 ?_;refine cD r ?_ ?_
  ·refine A 4 ?_;refine bD λp bf=>?_
   refine A 2 ?_;refine bS ([(Lo.mk 16 o p.1 0 0)]:List Lo) Pl r r r (by simp) r r r<|?_
   refine A 10 ?_;exact xL (s:=(p.2.list,p.2.at_,z++([(Lo.mk 16 o p.1 0 0)]:List Lo),i64.wrap (o+1))) (_,_,_,_) ((hX))
  ·refine A 8 ?_;exact xL (s:=(af.2.list,af.2.at_,z,i64.wrap (o+1))) (_,_,_,_) ((hX))
 ·refine A 11 ?_;refine bD λaa bg=>?_
  refine A 5 ?_;refine lP (E:=λ(s:(List Int)×Int×(List Lo)×(List Pa)×Int) (g:Nat×Nat×Nat)=>[(0,.optr 8192 0 0 0),(1,Av k),(2,.sl (m.map Mk)),(8,.optr 8 g.1 0 0),(9,.optr 9 g.2.1 0 0),(10,.osl 10 g.2.2 0 s.2.2.1.length),(12,Av s.2.2.2.2)]) (O:=λs g=>[(8,dV g.1 3 36 (.agg [Av 0,.nils,.nils])),(9,dV g.2.1 3 36 (.agg [Av c,.sl (s.2.2.2.1.map Pu),.nils])),(10,dW g.2.2 5 63 (s.2.2.1.map Pl)),(8192,dV 0 2 69 (.agg [.sl (s.1.map eU8),Av s.2.1]))]) (body:=λs=>WG c k m s.1 s.2.1 s.2.2.1 s.2.2.2.1 s.2.2.2.2) (s:=(aa.2.list,aa.2.at_,z,h.1,aa.1)) (_,_,_) ((AiC [(21,some (_,⟨true,false,2,60,h.1.map Pu⟩))] ⟨⟨_,_,r,r,r⟩,trivial⟩ ⟨(Rf r),(Rf r),(Rf r),(Rf r),(Rf r),(Rf r),(Rf r),trivial⟩ ⟨(.inl r),(.inr ⟨_,_,_,_,r,r,r,r,Aiw r ⟨(Afs r),(Zn (l:=h.1) (en:=Pu) r r r (by simp)),(Afs r),trivial⟩⟩),(.inl r),(.inl r),trivial⟩))<|?_
  rintro⟨bh,bi,f,d,q⟩ ⟨bj,bk,bl⟩ nn
  try dsimp only
  unfold WG;refine A 7 ?_;refine cD r ?_ ?_
  ·refine A 11 ?_;refine bD λt bm=>?_
   refine A 8 ?_;refine bD λag bn=>?_
   refine A 10 ?_;refine cD r ?_ ?_
   ·refine A 3 ?_;refine bD λu bo=>?_
    refine A 2 ?_;refine bS ([(Lo.mk 21 u.1 (-1) 0 0)]:List Lo) Pl r r r (by simp) r r r<|?_
    refine A 11 ?_;exact xL (s:=(u.2.list,u.2.at_,(f++t.1)++([(Lo.mk 21 u.1 (-1) 0 0)]:List Lo),d,i64.wrap (q-1))) (_,_,_) ((hX))
   ·refine A 6 ?_;refine cD r ?_ ?_
    ·refine A 3 ?_;refine bD λv bp=>?_
     refine A 4 ?_;refine cD r ?_ ?_
     ·refine A 3 ?_;refine bS ([(Lo.mk 20 (-1) 0 0 0)]:List Lo) Pl r r r (by simp) r r r<|?_
      refine A 11 ?_;exact xL (s:=(v.2.list,v.2.at_,(f++t.1)++([(Lo.mk 20 (-1) 0 0 0)]:List Lo),d,i64.wrap (q-1))) (_,_,_) ((hX))
     ·refine A 9 ?_;exact xL (s:=(v.2.list,v.2.at_,f++t.1,d,i64.wrap (q-1))) (_,_,_) ((hX))
    ·refine A 9 ?_;exact xL (s:=(ag.2.list,ag.2.at_,f++t.1,d,i64.wrap (q-1))) (_,_,_) ((hX))
  ·refine A 12 ?_;refine sC (E:=λ(_s:(List Int)×Int×Int×Int) (g:Nat×Nat×Nat×Nat)=>[(0,.optr 8192 0 0 0),(8,.optr 8 g.1 0 0),(9,.optr 9 g.2.1 0 0),(10,.osl 10 g.2.2.1 0 f.length),(13,.optr 13 g.2.2.2 0 0)]) (O:=λs g=>[(8,dV g.1 3 36 (.agg [Av 0,.nils,.nils])),(9,dV g.2.1 3 36 (.agg [Av c,.sl (d.map Pu),.nils])),(10,dW g.2.2.1 5 63 (f.map Pl)),(13,dV g.2.2.2 5 63 (.agg [Av s.2.2.1,Av 0,Av 0,Av 0,AjG s.2.2.2])),(8192,dV 0 2 69 (.agg [.sl (s.1.map eU8),Av s.2.1]))]) (j:=λs=>Rz f c d s.1 s.2.1 s.2.2.1 s.2.2.2) ?_ ?_
   ·refine A 3 ?_;refine bD λah bq=>?_
    refine A 4 ?_;refine cD r ?_ ?_
    ·refine A 2 ?_;refine bD λab br=>?_
     refine A 4 ?_;exact xC (s:=(ab.2.list,ab.2.at_,24,ab.1)) (_,_,_,_) ((hX))
    ·refine A 1 ?_;exact xC (s:=(ah.2.list,ah.2.at_,23,0)) (_,_,_,_) ((hX))
   ·rintro⟨ai,aj,ac,ad⟩ ⟨bs,bt,bu,bv⟩ nn
    try dsimp only
    unfold Rz;refine A 4 ?_;refine bS ([(Lo.mk ac 0 0 0 ad)]:List Lo) Pl r r r (by simp) r r r<|cK λhq=>aP (f) (([(Lo.mk ac 0 0 0 ad)]:List Lo)) Pl r r r r r r r (by simp) (Tb _ _ r) r r (by simp) (Rj _ _ r) (λ_=>r) r hq<|?_
    refine A 10 ?_;refine lP (E:=λ(s:(List Int)×Int×(List Lo)×Int) (g:Nat×Nat×Nat)=>[(0,.optr 8192 0 0 0),(8,.optr 8 g.1 0 0),(9,.optr 9 g.2.1 0 0),(10,.osl 10 g.2.2 0 s.2.2.1.length),(14,Av s.2.2.2)]) (O:=λs g=>[(8,dV g.1 3 36 (.agg [Av 0,.nils,.nils])),(9,dV g.2.1 3 36 (.agg [Av c,.sl (d.map Pu),.nils])),(10,dW g.2.2 5 63 (s.2.2.1.map Pl)),(8192,dV 0 2 69 (.agg [.sl (s.1.map eU8),Av s.2.1]))]) (body:=λs=>TE c d s.1 s.2.1 s.2.2.1 s.2.2.2) (s:=(ai,aj,f++([(Lo.mk ac 0 0 0 ad)]:List Lo),0)) (_,_,_) ((hX))<|?_
    rintro⟨ak,ao,a,i⟩ ⟨bw,bx,bz⟩ nn
    try dsimp only
    unfold TE;refine A 9 ?_;refine cD r ?_ ?_
    ·refine A 8 ?_;refine bD λe ca=>?_
     refine A 6 ?_;refine sC (E:=λ(s:Int) (g:Nat×Nat×Nat)=>[(0,.optr 8192 0 0 0),(8,.optr 8 g.1 0 0),(9,.optr 9 g.2.1 0 0),(10,.osl 10 g.2.2 0 a.length),(14,Av i),(15,Av s)]) (O:=λ_ g=>[(8,dV g.1 3 36 (.agg [Av 0,.nils,.nils])),(9,dV g.2.1 3 36 (.agg [Av c,.sl (d.map Pu),.nils])),(10,dW g.2.2 5 63 (a.map Pl)),(8192,dV 0 2 69 (.agg [.sl (e.2.list.map eU8),Av e.2.at_]))]) (j:=λs=>QA i a e s) ?_ ?_
     ·refine A 5 ?_;refine PI r ?_ ?_
      ·refine A 14 ?_;exact xC (s:=i64.wrap ((a.length:Int)-1)) (_,_,_) ((hX))
      ·refine A 7 ?_;refine cD r ?_ ?_
       ·refine A 6 ?_;exact xC (s:=i64.wrap ((a.length:Int)-1)) (_,_,_) ((hX))
       ·refine A 1 ?_;exact xC (s:=i64.wrap ((i64.wrap (i+e.1))-2)) (_,_,_) ((hX))
     ·rintro w ⟨cb,cc,cd⟩ nn
      try dsimp only
      unfold QA;refine A 1 ?_;refine sC (E:=λ(s:Bool) (g:Nat×Nat×Nat)=>[(0,.optr 8192 0 0 0),(8,.optr 8 g.1 0 0),(9,.optr 9 g.2.1 0 0),(10,.osl 10 g.2.2 0 a.length),(14,Av i),(15,Av w),(107,.bool s)]) (O:=λ_ g=>[(8,dV g.1 3 36 (.agg [Av 0,.nils,.nils])),(9,dV g.2.1 3 36 (.agg [Av c,.sl (d.map Pu),.nils])),(10,dW g.2.2 5 63 (a.map Pl)),(8192,dV 0 2 69 (.agg [.sl (e.2.list.map eU8),Av e.2.at_]))]) (j:=λs=>Su i a e w s) ?_ ?_
      ·refine A 5 ?_;refine bD λce cf=>?_
       refine A 3 ?_;refine PI r ?_ ?_
       ·refine A 4 ?_;refine bD λap cg=>?_
        refine A 5 ?_;exact xC (s:=(decide (ap.A<0))) (_,_,_) ((hX))
       ·refine A 9 ?_;exact xC (s:=false) (_,_,_) ((hX))
      ·rintro ch ⟨ci,cj,ck⟩ nn
       try dsimp only
       unfold Su;refine cD r ?_ ?_
       ·refine A 6 ?_;refine bD λx aq=>sE (l:=a) (en:=Pl) (q':=(Lo.mk x.Op w x.B x.C x.Imm)) r r r r r r r (by simp) aq r r r r r<|?_
        exact B
       ·refine A 6 ?_;refine bD λcl cm=>?_
        refine A 3 ?_;refine PI r ?_ ?_
        ·refine A 4 ?_;refine bD λcn co=>?_
         refine A 6 ?_;refine cD r ?_ ?_
         ·refine A 6 ?_;refine bD λy ar=>sE (l:=a) (en:=Pl) (q':=(Lo.mk y.Op y.A w y.C y.Imm)) r r r r r r r (by simp) ar r r r r r<|?_
          exact B
         ·refine A 9 ?_;exact xL (s:=(e.2.list,e.2.at_,a,i64.wrap (i+1))) (_,_,_) ((hX))
        ·refine A 20 ?_;exact xL (s:=(e.2.list,e.2.at_,a,i64.wrap (i+1))) (_,_,_) ((hX))
    ·refine A 19 ?_;refine AhZ (b:=((Le.mk c d a),(OY.mk ak ao))) r ?_ r r ?_ (by first|rfl|(simp only[OT];rfl)|(simp only[OV];rfl)|(simp only[OT,OV];rfl)|(simp[AbW,Pk];try rfl))
     all_goals first|(simp;done)|(simp;omega)|rfl|(simp[QS,QJ];done)

end
end Go.Proofs.YtilmapojncgflaaGreatDoor
