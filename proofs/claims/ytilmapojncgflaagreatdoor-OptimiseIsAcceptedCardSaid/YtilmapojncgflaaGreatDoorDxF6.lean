/-
  Programs on typed data, and the proofs that the code does what they say; written by a program (dx.py).
-/
import Derived.Test.YtilmapojncgflaaGreatDoorProg
import Derived.Test.YtilmapojncgflaaGreatDoorDd
import Derived.KernelRfl
import Derived.Test.YtilmapojncgflaaGreatDoorSh
import Derived.Test.YtilmapojncgflaaGreatDoorCl
import Derived.Test.YtilmapojncgflaaGreatDoorDxP
import Derived.Test.YtilmapojncgflaaGreatDoorDxF1
import Derived.Test.YtilmapojncgflaaGreatDoorDxF2
import Derived.Test.YtilmapojncgflaaGreatDoorDxF3
import Derived.Test.YtilmapojncgflaaGreatDoorDxF4
import Derived.Test.YtilmapojncgflaaGreatDoorDxF5
namespace Go.Proofs.YtilmapojncgflaaGreatDoor
open Go Go.Dw Go.Proofs
open Go.IntKind (i64)
set_option maxRecDepth 100000
set_option maxHeartbeats 40000000
open Go.Dw renaming Rl -> bD,Qf -> cK,AdA -> bS,AmW -> aP,Uz -> sE,AbB -> cD,AdW -> xC,Zg -> xL,AdX -> lP,Zh -> sC,AbC -> bC,Akj -> mF,rf -> r
noncomputable section
def AbK (a:(List Pb)×(List (List Int))×Int):List D:=[.sl (a.1.map Ps),.sl (a.2.1.map (eL Lo)),Av a.2.2]
def AbJ (ds:List D):(List Pb)×(List (List Int))×Int:=((uL Vs) (ds.getD 0 .top),(uL (uL uI)) (ds.getD 1 .top),uI (ds.getD 2 .top))
instance:PA AbK AbJ:=⟨λa=>by simp[AbJ,AbK,uI,Qh (u:=Vs) (en:=Ps) AdZ,Qh (u:=(uL uI)) (en:=(eL Lo)) (Qh (u:=uI) (en:=Lo) (λ_=>rfl))]⟩
def AoA (b:(List Int)×Int):D:=.tup [.sl (b.1.map Lo),Av b.2]
def AiE:Dw.Spec:=Pd [] .val AbK AbJ (λa=>Wy a.1 a.2.1 a.2.2) AoA noE
theorem AnP:Pa Tryz.prog 66 AiE:=by
 refine fn2 3 (Pe (l:=[(120,Aft),(121,Aho),(122,AjF),(123,Ahg),(124,Amh)]) (by simp[AiI,Aml,AoB,AlW,Aql])) Tryz.func66<|?_
 rintro⟨a,d,c⟩;unfold Wy;refine A 10 ?_;refine bD λq t=>?_
 refine A 10 ?_;refine cD r ?_ ?_
 ·exact B
 ·refine A 2 ?_;refine sC (E:=λ(_s:Unit) (_g:Unit)=>[(0,.sl (a.map Ps)),(1,.sl (d.map (eL Lo))),(2,Av c)]) (O:=λ_ _=>[]) (j:=λ_=>Adc a d c) ?_ ?_
  ·refine A 5 ?_;refine bD λu v=>?_
   refine A 3 ?_;refine Px r ?_ ?_
   ·exact B
   ·refine A 4 ?_;refine Px r ?_ ?_
    ·exact B
    ·refine A 5 ?_;refine cD r ?_ ?_
     ·exact B
     ·refine A 1 ?_;exact xC (s:=()) () ((hX))
  ·rintro⟨⟩ ⟨⟩ nn
   try dsimp only
   unfold Adc;refine A 16 ?_;refine bD λb w=>?_
   refine A 6 ?_;refine lP (E:=λ(s:(List Bool)×(List Int)×Int) (g:Nat×Nat×Nat)=>[(0,.sl (a.map Ps)),(1,.sl (d.map (eL Lo))),(2,Av c),(9,.osl 9 g.1 0 s.2.1.length),(10,.osl 10 g.2.1 0 s.1.length),(43,.osl 43 g.2.2 0 b.length),(44,Av (b.length:Int)),(45,Av s.2.2)]) (O:=λs g=>[(9,dW g.1 1 3 (s.2.1.map Lo)),(10,dW g.2.1 1 4 (s.1.map D.bool)),(43,dW g.2.2 1 3 (b.map Lo))]) (body:=λs=>YV b d a c s.1 s.2.1 s.2.2) (s:=(List.replicate (a.length:Int).toNat false,List.replicate (a.length:Int).toNat (0:Int),0)) (_,_,_) ((hX))<|?_
   rintro⟨e,f,i⟩ ⟨x,y,z⟩ nn
   try dsimp only
   unfold YV;refine A 6 ?_;refine cD r ?_ ?_
   ·refine A 7 ?_;refine bD λk aa=>?_
    refine A 14 ?_;refine bD λh ab=>?_
    refine A 7 ?_;refine lP (E:=λ(s:(List OX)×Int) (g:Nat×Nat×Nat×Nat)=>[(0,.sl (a.map Ps)),(1,.sl (d.map (eL Lo))),(2,Av c),(9,.osl 9 g.1 0 f.length),(10,.osl 10 g.2.1 0 e.length),(12,Av k),(13,.osl 13 g.2.2.1 0 s.1.length),(43,.osl 43 g.2.2.2 0 b.length),(44,Av (b.length:Int)),(45,Av i),(52,.sl (h.map Lo)),(53,Av (h.length:Int)),(54,Av s.2)]) (O:=λs g=>[(9,dW g.1 1 3 (f.map Lo)),(10,dW g.2.1 1 4 (e.map D.bool)),(13,dW g.2.2.1 2 121 (s.1.map PK)),(43,dW g.2.2.2 1 3 (b.map Lo))]) (body:=λs=>YW h e a f k c i s.1 s.2) (s:=(([]:List OX),0)) (_,_,_,_) ((hX))<|?_
    rintro⟨m,o⟩ ⟨ac,ad,ae,af⟩ nn
    try dsimp only
    unfold YW;refine A 6 ?_;refine cD r ?_ ?_
    ·refine A 6 ?_;refine bD λag ah=>?_
     refine A 10 ?_;refine bD λai aj=>?_
     refine A 3 ?_;refine cD r ?_ ?_
     ·refine A 5 ?_;refine bD λp ak=>?_
      refine A 1 ?_;refine bS ([p]:List OX) PK r r r (by simp) r r r<|?_
      refine A 9 ?_;exact xL (s:=(m++([p]:List OX),i64.wrap (o+1))) (_,_,_,_) ((hX))
     ·refine A 7 ?_;exact xL (s:=(m,i64.wrap (o+1))) (_,_,_,_) ((hX))
    ·exact B
   ·exact B

def AjK:Dw.Spec:=Pd [] .ground Tg Tf (λa=>Yo a) Pc noE
theorem AoH:Pa Tryz.prog 128 AjK:=by
 refine fn2 1 (Pe (l:=[(120,Aft)]) (by simp[AiI])) Tryz.func128<|?_
 intro a;unfold Yo;refine A 14 ?_;refine bD λe f=>?_
 refine A 4 ?_;refine cD r ?_ ?_
 ·refine A 8 ?_;refine lP (E:=λ(s:Int×Int) (_g:Unit)=>[(3,Av s.2),(9,.sl (a.map Ps)),(10,Av (a.length:Int)),(11,Av s.1)]) (O:=λ_ _=>[]) (body:=λs=>ZY a s.1 s.2) (s:=(0,16)) () ((hX))<|?_
  rintro⟨b,c⟩ ⟨⟩ nn
  try dsimp only
  unfold ZY;refine A 6 ?_;refine cD r ?_ ?_
  ·refine A 6 ?_;refine bD λd g=>?_
   refine A 19 ?_;exact xL (s:=(i64.wrap (b+1),PH c d.Align)) () ((hX))
  ·exact B
 ·exact B

def AcS (a:Ph):List D:=[Uf a]
def AcR (ds:List D):Ph:=Zi (ds.getD 0 .top)
instance:PA AcS AcR:=⟨λa=>by simp[AcR,AcS]⟩
def AnK:Dw.Spec:=Pd [] .ground AcS AcR (λa=>AgJ a) Pc noE
theorem ArY:Pa Tryz.prog 69 AnK:=by
 refine fn2 1 (Pe (l:=[(128,AjK)]) (by simp[AoH])) Tryz.func69<|?_
 intro a;unfold AgJ;refine A 21 ?_;refine lP (E:=λ(s:Int×Int) (_g:Unit)=>[(3,Av s.1),(7,.sl (a.Funcs.map Pl)),(8,Av (a.Funcs.length:Int)),(9,Av s.2)]) (O:=λ_ _=>[]) (body:=λs=>Aiy a s.1 s.2) (s:=(16,0)) () ((hX))<|?_
 rintro⟨b,c⟩ ⟨⟩ nn
 try dsimp only
 unfold Aiy;refine A 6 ?_;refine cD r ?_ ?_
 ·refine A 6 ?_;refine bD λe f=>?_
  refine A 10 ?_;refine bD λd g=>?_
  refine A 10 ?_;exact xL (s:=(PH b d,i64.wrap (c+1))) () ((hX))
 ·exact B

def XS (a:OX×Int):List D:=[PK a.1,Av a.2]
def XR (ds:List D):OX×Int:=(UP (ds.getD 0 .top),uI (ds.getD 1 .top))
instance:PA XS XR:=⟨λa=>by simp[XR,XS,uI]⟩
def AiH:Dw.Spec:=Pd [] .ground XS XR (λa=>AcE a.1 a.2) Pm noE
theorem AnX:Pa Tryz.prog 125 AiH:=by
 refine fn2 2 (Pe (l:=[(169,Afu)]) (by simp[AiJ])) Tryz.func125<|?_
 intro a;unfold AcE;exact B

def Afm (a:(List Pb)×(List Int)):List D:=[.sl (a.1.map Ps),.sl (a.2.map Lo)]
def Afl (ds:List D):(List Pb)×(List Int):=((uL Vs) (ds.getD 0 .top),(uL uI) (ds.getD 1 .top))
instance:PA Afm Afl:=⟨λa=>by simp[Afl,Afm,Qh (u:=Vs) (en:=Ps) AdZ,Qh (u:=uI) (en:=Lo) (λ_=>rfl)]⟩
def AlS:Dw.Spec:=Pd [] .ground Afm Afl (λa=>Aei a.1 a.2) Pc noE
theorem Aqj:Pa Tryz.prog 127 AlS:=by
 refine fn2 2 (Py) Tryz.func127<|?_;rintro⟨a,b⟩;unfold Aei;refine A 19 ?_;refine lP (E:=λ(s:Int×Int) (_g:Unit)=>[(0,.sl (a.map Ps)),(1,.sl (b.map Lo)),(5,Av s.1),(8,Av (a.length:Int)),(9,Av s.2)]) (O:=λ_ _=>[]) (body:=λs=>AgO a b s.1 s.2) (s:=(0,0)) () ((hX))<|?_
 rintro⟨c,d⟩ ⟨⟩ nn
 try dsimp only
 unfold AgO;refine A 6 ?_;refine cD r ?_ ?_
 ·refine A 14 ?_;refine bD λe g=>?_
  refine A 4 ?_;refine bD λf h=>?_
  refine A 13 ?_;exact xL (s:=(PH c (i64.wrap (e+f.Size)),i64.wrap (d+1))) () ((hX))
 ·exact B

def Adk:Dw.Spec:=Pd [] .ground PU PT (λa=>Vx a) Aax noE
theorem Ahm:Pa Tryz.prog 201 Adk:=by
 refine fn2 1 (Py) Tryz.func201<|?_;intro a;unfold Vx;exact B

def AnF:Dw.Spec:=Pd [] .ground Sb Sa (λa=>Agy a.1 a.2) Aax noE
theorem Ark:Pa Tryz.prog 175 AnF:=by
 refine fn2 2 (Pe (l:=[(166,Yr),(158,Abi),(173,Ajm),(201,Adk)]) (by simp[Aab,Aet,Ami,Ahm])) Tryz.func175<|?_
 rintro⟨a,b⟩;unfold Agy;refine A 6 ?_;refine sC (E:=λ(_s:Unit) (_g:Unit)=>[(0,Av a),(1,Av b)]) (O:=λ_ _=>[]) (j:=λ_=>Aeu a b) ?_ ?_
 ·refine A 3 ?_;refine bD λc d=>?_
  refine A 3 ?_;refine Px r ?_ ?_
  ·exact B
  ·refine A 1 ?_;refine bD λe f=>?_
   refine A 5 ?_;refine cD r ?_ ?_
   ·exact B
   ·refine A 1 ?_;exact xC (s:=()) () ((hX))
 ·rintro⟨⟩ ⟨⟩ nn
  try dsimp only
  unfold Aeu;exact B

def Amg:Dw.Spec:=Pd [] .ground Sb Sa (λa=>Aeq a.1 a.2) Aax noE
theorem Aqk:Pa Tryz.prog 176 Amg:=by
 refine fn2 2 (Pe (l:=[(166,Yr),(201,Adk)]) (by simp[Aab,Ahm])) Tryz.func176<|?_
 rintro⟨a,b⟩;unfold Aeq;refine A 6 ?_;refine sC (E:=λ(_s:Unit) (_g:Unit)=>[(0,Av a),(1,Av b)]) (O:=λ_ _=>[]) (j:=λ_=>Acz a b) ?_ ?_
 ·refine A 3 ?_;refine bD λc d=>?_
  refine A 3 ?_;refine Px r ?_ ?_
  ·exact B
  ·refine A 1 ?_;refine bD λe f=>?_
   refine A 5 ?_;refine cD r ?_ ?_
   ·exact B
   ·refine A 1 ?_;exact xC (s:=()) () ((hX))
 ·rintro⟨⟩ ⟨⟩ nn
  try dsimp only
  unfold Acz;exact B

def AfD (a:Po×Int×Int):List D:=[Rm a.1,Av a.2.1,Av a.2.2]
def AfC (ds:List D):Po×Int×Int:=(AhJ (ds.getD 0 .top),uI (ds.getD 1 .top),uI (ds.getD 2 .top))
instance:PA AfD AfC:=⟨λa=>by simp[AfC,AfD,uI]⟩
def Sg (b:Po×Int):D:=.tup [Rm b.1,Av b.2]
def Amw:Dw.Spec:=Pd [] .val AfD AfC (λa=>Ahy a.1 a.2.1 a.2.2) Sg noE
theorem Aqn:Pa Tryz.prog 126 Amw:=by
 refine fn2 3 (Pe (l:=[(175,AnF),(176,Amg)]) (by simp[Ark,Aqk])) Tryz.func126<|?_
 rintro⟨c,e,f⟩;unfold Ahy;refine A 11 ?_;refine bD λa h=>?_
 refine A 8 ?_;refine sC (E:=λ(s:Int) (g:Nat×Nat)=>[(3,.optr 3 g.1 0 0),(6,.optr 6 g.2 0 0),(8,Av a.1),(9,Av s)]) (O:=λ_ g=>[(3,dV g.1 3 46 (Rm c)),(6,dV g.2 3 46 (.agg [Av 0,Av 0,.nils]))]) (j:=λs=>AcI c a s) ?_ ?_
 ·refine A 6 ?_;refine cD r ?_ ?_
  ·refine A 2 ?_;refine bD λd i=>?_
   refine A 6 ?_;exact xC (s:=d.2) (_,_) ((hX))
  ·refine A 1 ?_;exact xC (s:=a.2) (_,_) ((hX))
 ·rintro k ⟨m,o⟩ nn
  try dsimp only
  unfold AcI;refine A 7 ?_;refine cD r ?_ ?_
  ·refine A 9 ?_;refine Sm (b:=((Po.mk 0 0 ([])),9)) r ?_ r r ?_ (by first|rfl|(simp only[Mk];rfl)|(simp only[OV];rfl)|(simp only[Mk,OV];rfl)|(simp[Sg,Rm];try rfl)) (by decide)
   all_goals first|(simp;done)|(simp;omega)|rfl|(simp[QA,Qu];done)
  ·exact B

def AeE (a:Ph×Int×Int×(List Int)):List D:=[Uf a.1,Av a.2.1,Av a.2.2.1,.sl (a.2.2.2.map Lo)]
def AeD (ds:List D):Ph×Int×Int×(List Int):=(Zi (ds.getD 0 .top),uI (ds.getD 1 .top),uI (ds.getD 2 .top),(uL uI) (ds.getD 3 .top))
instance:PA AeE AeD:=⟨λa=>by simp[AeD,AeE,uI,Qh (u:=uI) (en:=Lo) (λ_=>rfl)]⟩
def Ali:Dw.Spec:=Pd [] .val AeE AeD (λa=>Zv a.1 a.2.1 a.2.2.1 a.2.2.2) Sg noE
theorem Aps:Pa Tryz.prog 68 Ali:=by
 refine fn2 4 (Pe (l:=[(125,AiH),(67,Ajq),(115,AnO),(127,AlS),(126,Amw)]) (by simp[AnX,Amv,ApP,Aqj,Aqn])) Tryz.func68<|?_
 rintro⟨c,d,e,f⟩;unfold Zv;refine A 12 ?_;refine bD λa i=>?_
 refine A 16 ?_;refine cD r ?_ ?_
 ·refine A 9 ?_;refine Sm (b:=((Po.mk 0 0 ([])),13)) r ?_ r r ?_ (by first|rfl|(simp only[Mk];rfl)|(simp only[OV];rfl)|(simp only[Mk,OV];rfl)|(simp[Sg,Rm];try rfl)) (by decide)
  all_goals first|(simp;done)|(simp;omega)|rfl|(simp[QA,Qu];done)
 ·refine A 11 ?_;refine lP (E:=λ(s:Int) (g:Nat×Nat)=>[(1,Av d),(2,Av e),(3,.sl (f.map Lo)),(4,.optr 4 g.1 0 0),(8,.optr 8 g.2 0 0),(10,.sl (a.Slots.map Ps)),(26,.sl (a.Slots.map Ps)),(27,Av (a.Slots.length:Int)),(28,Av s)]) (O:=λ_ g=>[(4,dV g.1 1 28 (.agg [.sl (c.Funcs.map Pl)])),(8,dV g.2 3 46 (.agg [Av 0,Av 0,.nils]))]) (body:=λs=>AfB a f c d e s) (s:=0) (_,_) ((hX))<|?_
  rintro h ⟨j,k⟩ nn
  try dsimp only
  unfold AfB;refine A 6 ?_;refine cD r ?_ ?_
  ·refine A 7 ?_;refine bD λm o=>?_
   refine A 11 ?_;refine bD λp q=>?_
   refine A 5 ?_;refine bD λt u=>?_
   refine A 4 ?_;refine cD r ?_ ?_
   ·refine A 13 ?_;refine Sm (b:=((Po.mk 0 0 ([])),13)) r ?_ r r ?_ (by first|rfl|(simp only[Mk];rfl)|(simp only[OV];rfl)|(simp only[Mk,OV];rfl)|(simp[Sg,Rm];try rfl)) (by decide)
    all_goals first|(simp;done)|(simp;omega)|rfl|(simp[QA,Qu];done)
   ·refine A 7 ?_;exact xL (s:=i64.wrap (h+1)) (_,_) ((hX))
  ·refine A 9 ?_;refine bD λv w=>?_
   refine A 2 ?_;refine bD λx y=>?_
   refine A 13 ?_;refine bD λz aa=>?_
   refine A 1 ?_;refine Awt r r r r<|?_;exact B

def AjU (b:PG):List D:=[Ti b]
def AdU:Dw.Spec:=Pd [(0,(12,75))] .val Ri RN (λa=>Wf a) Vp AjU
theorem Ajp:Pa Tryz.prog 32 AdU:=by
 refine fn2 1 (Pe (l:=[(12,AiL),(65,Agz),(67,Ajq),(66,AiE),(69,AnK),(68,Ali)]) (by simp[Aog,AlI,Amv,AnP,ArY,Aps])) Tryz.func32<|?_
 intro a;unfold Wf;refine A 14 ?_;refine bD λc d=>?_
 refine A 16 ?_;refine bD λe g=>?_
 refine A 21 ?_;refine bD λh j=>?_
 refine A 1 ?_;refine bD λk m=>?_
 refine A 15 ?_;refine cD r ?_ ?_
 ·exact B
 ·refine A 13 ?_;refine bD λo q=>?_
  refine A 2 ?_;refine bD λb s=>?_
  refine A 15 ?_;refine cD r ?_ ?_
  ·refine A 6 ?_;refine Ty (i:=0) (es':=[.agg [.sl (a.p.Funcs.map Pl),Av a.i,Av a.f.Params,.sl (a.f.Slots.map Ps),.sl (a.f.Code.map Pp),.sl (a.x.Live.Out.map (eL Lo)),.sl (a.x.Rename.To.map Lo),.sl (a.x.Rename.Keep.map D.bool),.sl (a.x.LiveAfter.Out.map (eL Lo)),Av b.1.Args,Av b.1.Size,.sl (b.1.Off.map Lo)]]) r r r r r r r (by first|trivial|(simp;done)|(simp;omega)) r r r r r r<|?_
   exact B
  ·exact B

def Amt (b:Ra):D:=AdK b
def AaM:Dw.Spec:=Pd [] .val Zn Zm (λa=>Ui a.1 a.2) Amt noE
theorem Afe:Pa Tryz.prog 14 AaM:=by
 refine fn2 2 (Pe (l:=[(29,AeC),(30,AeB),(31,AdT),(32,AdU)]) (by simp[AjT,AjS,Ajo,Ajp])) Tryz.func14<|?_
 rintro⟨a,b⟩;unfold Ui;refine A 13 ?_;refine bD λc k=>?_
 refine A 11 ?_;refine mF (caps:=[.optr 16 _ 0 0]) r r (by simp[VC])<|?_
 refine A 1 ?_;refine mF (caps:=[.optr 16 _ 0 0]) r r (by simp[VC])<|?_
 refine A 1 ?_;refine mF (caps:=[.optr 16 _ 0 0]) r r (by simp[VC])<|?_
 refine A 1 ?_;refine mF (caps:=[.optr 16 _ 0 0]) r r (by simp[VC])<|Aws r r r r r<|AsU r r<|?_
 refine A 4 ?_;refine Avu 5<|?_;refine A 13 ?_;refine AmX r r r (by decide)<|?_
 refine A 6 ?_;refine bD λd e=>AcU (q:=29) (PG.mk a b c (Ra.mk (Pj.mk ([])) (Pk.mk ([]) ([])) (Pj.mk ([])) (Po.mk 0 0 ([])))) r r r PA.ok r r (by simp) (by first|rfl|(simp only[Mk];rfl)|(simp only[OV];rfl)|(simp only[Mk,OV];rfl)|simp[Ri,Ti]) e<|?_
 refine A 7 ?_;refine Agm<|?_;refine A 13 ?_;refine AmX r r r (by decide)<|?_
 refine A 6 ?_;refine bD λf g=>AcU (q:=30) d r r r PA.ok r r (by simp) r g<|?_
 refine A 7 ?_;refine Agm<|?_;refine A 13 ?_;refine AmX r r r (by decide)<|?_
 refine A 6 ?_;refine bD λh i=>AcU (q:=31) f r r r PA.ok r r (by simp) r i<|?_
 refine A 7 ?_;refine Agm<|?_;refine A 13 ?_;refine AmX r r r (by decide)<|?_
 refine A 6 ?_;refine bD λm j=>AcU (q:=32) h r r r PA.ok r r (by simp) r j<|?_
 refine A 7 ?_;refine Agm<|?_;refine A 9 ?_;refine AsW<|?_;exact B

def Aez (_a:Unit):List D:=[]
def Aey (_ds:List D):Unit:=()
theorem Apo (a:Unit):Aey (Aez a)=a:=rfl
instance:PA Aez Aey:=⟨Apo⟩
def Alh:Dw.Spec:=Pd [] .ground Aez Aey (λ_a=>Acm) Pm noE
theorem Apq:Pa Tryz.prog 7 Alh:=by
 refine fn2 0 (Pe (l:=[(14,AaM)]) (by simp[Afe])) Tryz.func7<|?_
 intro _;unfold Acm;refine A 8 ?_;refine bS ([(OT.mk 23 0 0 0 0)]:List OT) Pp r r r (by simp) r r r<|?_
 refine A 1 ?_;refine bS ([(Le.mk 0 ([]) ([(OT.mk 23 0 0 0 0)]:List OT))]:List Le) Pl r r r (by simp) r (by simp[Aac,Pl]<;>first|rfl|(rw[List.take_of_length_le (by simp)])) r<|?_
 exact B

def Aia (a:(List Int)×Int):List D:=[.sl (a.1.map eU8),Av a.2]
def AhZ (ds:List D):(List Int)×Int:=((uL uI) (ds.getD 0 .top),uI (ds.getD 1 .top))
instance:PA Aia AhZ:=⟨λa=>by simp[AhZ,Aia,uI,Qh (u:=uI) (en:=eU8) (λ_=>rfl)]⟩
def AtS (b:OY):D:=QE b
def AoE:Dw.Spec:=Pd [] (.ptr 2 69) Aia AhZ (λa=>AhY a.1 a.2) AtS noE
theorem AsA:Pa Tryz.prog 8 AoE:=by
 refine fn2 2 (Py) Tryz.func8<|?_;intro a;unfold AhY;exact B

def Ub (a:OY):List D:=[QE a]
def Ua (ds:List D):OY:=Vv (ds.getD 0 .top)
instance:PA Ub Ua:=⟨λa=>by simp[Ua,Ub]⟩
def Anj (b:Bool×OY):D:=.bool b.1
def Ani (b:Bool×OY):List D:=[QE b.2]
def Ahh:Dw.Spec:=Pd [(0,(2,69))] .val Ub Ua (λa=>ZV a) Anj Ani
theorem AlX:Pa Tryz.prog 25 Ahh:=by
 refine fn2 1 (Py) Tryz.func25<|?_;intro a;unfold ZV;exact B

def VY (a:OY×Int):List D:=[QE a.1,Av a.2]
def VX (ds:List D):OY×Int:=(Vv (ds.getD 0 .top),uI (ds.getD 1 .top))
instance:PA VY VX:=⟨λa=>by simp[VX,VY,uI]⟩
def Ahi (b:Int×OY):D:=Av b.1
def Ank (b:Int×OY):List D:=[QE b.2]
def Rs:Dw.Spec:=Pd [(0,(2,69))] .val VY VX (λa=>Pq a.1 a.2) Ahi Ank
theorem RA:Pa Tryz.prog 10 Rs:=by
 refine fn2 2 (Pe (l:=[(25,Ahh)]) (by simp[AlX])) Tryz.func10<|?_
 rintro⟨e,a⟩;unfold Pq;refine A 5 ?_;refine sC (E:=λ(_s:(List Int)×Int) (_g:Unit)=>[(0,.optr 8192 0 0 0),(1,Av a)]) (O:=λs _=>[(8192,dV 0 2 69 (.agg [.sl (s.1.map eU8),Av s.2]))]) (j:=λs=>WR a s.1 s.2) ?_ ?_
 ·refine A 3 ?_;refine bD λb f=>?_
  refine A 3 ?_;refine Px r ?_ ?_
  ·exact B
  ·refine A 5 ?_;refine cD r ?_ ?_
   ·exact B
   ·refine A 1 ?_;exact xC (s:=(b.2.list,b.2.at_)) () ((hX))
 ·rintro⟨c,d⟩ ⟨⟩ nn
  try dsimp only
  unfold WR;refine A 10 ?_;refine bD λg h=>?_
  refine A 15 ?_;refine Ty (i:=0) (es':=[.agg [.sl (c.map eU8),Av (i64.wrap (d+1))]]) r r r r r r r (by first|trivial|(simp;done)|(simp;omega)) r r r r r r<|?_
  exact B

def Anm (b:Pb×OY):D:=Ps b.1
def Anl (b:Pb×OY):List D:=[QE b.2]
def Ahj:Dw.Spec:=Pd [(0,(2,69))] .val Ub Ua (λa=>ZW a) Anm Anl
theorem AlY:Pa Tryz.prog 97 Ahj:=by
 refine fn2 1 (Pe (l:=[(10,Rs)]) (by simp[RA])) Tryz.func97<|?_
 intro a;unfold ZW;refine A 7 ?_;refine bS ([8,4,8,1,2,16,8]:List Int) Lo r r r (by simp) r r r<|?_
 refine A 1 ?_;refine bD λb c=>?_
 refine A 2 ?_;refine bD λd e=>?_
 refine A 1 ?_;refine bS ([8,4,1,8,16,2,32,64]:List Int) Lo r r r (by simp) r r r<|?_
 exact B

def Ama (b:(List Pb)×OY):D:=.sl (b.1.map Ps)
def AlZ (b:(List Pb)×OY):List D:=[QE b.2]
def Agv:Dw.Spec:=Pd [(0,(2,69))] (.row 2 60) VY VX (λa=>VG a.1 a.2) Ama AlZ
theorem AlG:Pa Tryz.prog 56 Agv:=by
 refine fn2 2 (Pe (l:=[(10,Rs),(97,Ahj)]) (by simp[RA,AlY])) Tryz.func56<|?_
 rintro⟨e,f⟩;unfold VG;refine A 16 ?_;refine bD λb h=>?_
 refine A 5 ?_;refine lP (E:=λ(s:(List Int)×Int×(List Pb)×Int) (g:Nat)=>[(0,.optr 8192 0 0 0),(5,.osl 5 g 0 s.2.2.1.length),(6,Av s.2.2.2)]) (O:=λs g=>[(5,dW g 2 60 (s.2.2.1.map Ps)),(8192,dV 0 2 69 (.agg [.sl (s.1.map eU8),Av s.2.1]))]) (body:=λs=>ZK s.1 s.2.1 s.2.2.1 s.2.2.2) (s:=(b.2.list,b.2.at_,([]:List Pb),b.1)) _ ((hX))<|?_
 rintro⟨i,c5,c,d⟩ j nn
 try dsimp only
 unfold ZK;refine A 7 ?_;refine cD r ?_ ?_
 ·refine A 7 ?_;refine bD λa k=>?_
  refine A 1 ?_;refine bS ([a.1]:List Pb) Ps r r r (by simp) r r r<|?_
  refine A 10 ?_;exact xL (s:=(a.2.list,a.2.at_,c++([a.1]:List Pb),i64.wrap (d-1))) _ ((hX))
 ·exact B

def ZO (a:OY×Le×Int):List D:=[QE a.1,Pl a.2.1,Av a.2.2]
def ZN (ds:List D):OY×Le×Int:=(Vv (ds.getD 0 .top),Sz (ds.getD 1 .top),uI (ds.getD 2 .top))
instance:PA ZO ZN:=⟨λa=>by simp[ZN,ZO,uI]⟩
def Anr (b:Int×OY):List D:=[QE b.2]
def Ahl:Dw.Spec:=Pd [(0,(2,69))] .val ZO ZN (λa=>ZX a.1 a.2.1 a.2.2) Ahi Anr
theorem Amc:Pa Tryz.prog 98 Ahl:=by
 refine fn2 3 (Pe (l:=[(10,Rs)]) (by simp[RA])) Tryz.func98<|?_
 rintro⟨a,c,d⟩;unfold ZX;refine A 18 ?_;refine lP (E:=λ(s:(List Int)×Int) (g:Nat×Nat)=>[(0,.optr 8192 0 0 0),(2,Av d),(4,.optr 4 g.1 0 0),(7,.osl 7 g.2 0 s.1.length),(8,Av s.2)]) (O:=λs g=>[(4,dV g.1 3 36 (Pl c)),(7,dW g.2 1 3 (s.1.map Lo)),(8192,dV 0 2 69 (.agg [.sl (a.list.map eU8),Av a.at_]))]) (body:=λs=>Aav c d a s.1 s.2) (s:=(([]:List Int),0)) (_,_) ((hX))<|?_
 rintro⟨e,b⟩ ⟨f,h⟩ nn
 try dsimp only
 unfold Aav;refine A 10 ?_;refine cD r ?_ ?_
 ·refine A 9 ?_;refine bD λi j=>?_
  refine A 6 ?_;refine bD λk m=>?_
  refine A 6 ?_;refine cD r ?_ ?_
  ·refine A 14 ?_;exact xL (s:=(e++([b]:List Int),i64.wrap (b+1))) (_,_) ((hX))
  ·refine A 8 ?_;exact xL (s:=(e,i64.wrap (b+1))) (_,_) ((hX))
 ·exact B

def Ano (b:Int×OY):D:=AkE b.1
def Ann (b:Int×OY):List D:=[QE b.2]
def AbO:Dw.Spec:=Pd [(0,(2,69))] .val Ub Ua (λa=>WT a) Ano Ann
theorem Agw:Pa Tryz.prog 58 AbO:=by
 refine fn2 1 (Pe (l:=[(10,Rs)]) (by simp[RA])) Tryz.func58<|?_
 intro a;unfold WT;exact B

def ZM (a:OY×Le×Int×(List Int)):List D:=[QE a.1,Pl a.2.1,Av a.2.2.1,.sl (a.2.2.2.map Lo)]
def ZL (ds:List D):OY×Le×Int×(List Int):=(Vv (ds.getD 0 .top),Sz (ds.getD 1 .top),uI (ds.getD 2 .top),(uL uI) (ds.getD 3 .top))
instance:PA ZM ZL:=⟨λa=>by simp[ZL,ZM,uI,Qh (u:=uI) (en:=Lo) (λ_=>rfl)]⟩
def Anq (b:(List OT)×OY):D:=.sl (b.1.map Pp)
def Anp (b:(List OT)×OY):List D:=[QE b.2]
def Ahk:Dw.Spec:=Pd [(0,(2,69))] (.row 5 63) ZM ZL (λa=>WU a.1 a.2.1 a.2.2.1 a.2.2.2) Anq Anp
theorem Amb:Pa Tryz.prog 57 Ahk:=by
 refine fn2 4 (Pe (l:=[(10,Rs),(98,Ahl),(58,AbO)]) (by simp[RA,Amc,Agw])) Tryz.func57<|?_
 rintro⟨c1,c,d,e⟩;unfold WU;refine A 9 ?_;refine bD λb ab=>?_
 refine A 15 ?_;refine bD λa ac=>?_
 refine A 4 ?_;refine bC (E:=λ(_s:Unit) (_g:Unit)=>[(9,Av b.1)]) (O:=λ_ _=>[(8192,dV 0 2 69 (.agg [.sl (a.2.list.map eU8),Av a.2.at_]))]) (j:=λ_=>Aau b a) ?_ ?_
 ·refine sC (E:=λ(s:Bool) (g:Nat)=>[(0,.optr 8192 0 0 0),(2,Av d),(3,.sl (e.map Lo)),(5,.optr 5 g 0 0),(9,Av b.1),(10,Av (c.Slots.length:Int)),(11,Av a.1),(23,.bool s)]) (O:=λ_ g=>[(5,dV g 3 36 (Pl c)),(8192,dV 0 2 69 (.agg [.sl (a.2.list.map eU8),Av a.2.at_]))]) (j:=λs=>UD a c b e d s) ?_ ?_
  ·refine A 4 ?_;refine Px r ?_ ?_
   ·refine A 5 ?_;exact xC (s:=(decide ((c.Slots.length:Int)>0))) _ ((hX))
   ·refine A 5 ?_;exact xC (s:=false) _ ((hX))
  ·rintro x7 ae nn
   try dsimp only
   unfold UD;refine cD r ?_ ?_
   ·refine A 4 ?_;refine bD λo af=>?_
    refine A 3 ?_;refine bS ([(OT.mk 16 o.1 b.1 0 0)]:List OT) Pp r r r (by simp) r r r<|?_
    exact B
   ·refine sC (E:=λ(s:Bool) (g:Nat)=>[(0,.optr 8192 0 0 0),(2,Av d),(3,.sl (e.map Lo)),(5,.optr 5 g 0 0),(9,Av b.1),(10,Av (c.Slots.length:Int)),(11,Av a.1),(36,.bool s)]) (O:=λ_ g=>[(5,dV g 3 36 (Pl c)),(8192,dV 0 2 69 (.agg [.sl (a.2.list.map eU8),Av a.2.at_]))]) (j:=λs=>UE a c b e d s) ?_ ?_
    ·refine A 4 ?_;refine Px r ?_ ?_
     ·refine A 5 ?_;exact xC (s:=(decide ((c.Slots.length:Int)>0))) _ ((hX))
     ·refine A 5 ?_;exact xC (s:=false) _ ((hX))
    ·rintro x9 ah nn
     try dsimp only
     unfold UE;refine cD r ?_ ?_
     ·refine A 5 ?_;refine bD λp ai=>?_
      refine A 2 ?_;refine bS ([(OT.mk 15 b.1 p.1 0 0)]:List OT) Pp r r r (by simp) r r r<|?_
      exact B
     ·refine sC (E:=λ(s:Bool) (g:Nat)=>[(0,.optr 8192 0 0 0),(2,Av d),(3,.sl (e.map Lo)),(5,.optr 5 g 0 0),(9,Av b.1),(10,Av (c.Slots.length:Int)),(11,Av a.1),(49,.bool s)]) (O:=λ_ g=>[(5,dV g 3 36 (Pl c)),(8192,dV 0 2 69 (.agg [.sl (a.2.list.map eU8),Av a.2.at_]))]) (j:=λs=>UF a c b e d s) ?_ ?_
      ·refine A 4 ?_;refine Px r ?_ ?_
       ·refine A 5 ?_;exact xC (s:=(decide ((c.Slots.length:Int)>0))) _ ((hX))
       ·refine A 5 ?_;exact xC (s:=false) _ ((hX))
      ·rintro aj ak nn
       try dsimp only
       unfold UF;refine cD r ?_ ?_
       ·refine A 4 ?_;refine bD λq ao=>?_
        refine A 9 ?_;refine bD λt ap=>?_
        refine A 3 ?_;refine bS ([(OT.mk 17 t.1 q.1 0 0)]:List OT) Pp r r r (by simp) r r r<|?_
        exact B
       ·refine A 7 ?_;refine cD r ?_ ?_
        ·refine A 4 ?_;refine bD λu aq=>?_
         refine A 2 ?_;refine bS ([(OT.mk 0 b.1 0 0 u.1)]:List OT) Pp r r r (by simp) r r r<|?_
         exact B
        ·refine A 7 ?_;refine cD r ?_ ?_
         ·refine A 3 ?_;refine bD λv ar=>?_
          refine A 4 ?_;refine bD λw au=>?_
          refine A 2 ?_;refine bD λx av=>?_
          refine A 2 ?_;refine bS ([(OT.mk (i64.wrap (2+v.1)) b.1 w.1 x.1 0)]:List OT) Pp r r r (by simp) r r r<|?_
          exact B
         ·refine A 7 ?_;refine cD r ?_ ?_
          ·refine A 4 ?_;refine bS ([(OT.mk 14 b.1 0 0 0)]:List OT) Pp r r r (by simp) r r r<|?_
           exact B
          ·refine A 7 ?_;refine cD r ?_ ?_
           ·refine A 2 ?_;refine bS ([13,12,1]:List Int) Lo r r r (by simp) r r r<|?_
            refine A 1 ?_;refine bD λaw ax=>?_
            refine A 2 ?_;refine bD λy ay=>?_
            refine A 3 ?_;refine bS ([(OT.mk y b.1 0 0 0)]:List OT) Pp r r r (by simp) r r r<|?_
            exact B
           ·refine sC (E:=λ(s:Bool) (g:Nat)=>[(0,.optr 8192 0 0 0),(2,Av d),(3,.sl (e.map Lo)),(5,.optr 5 g 0 0),(9,Av b.1),(11,Av a.1),(104,.bool s)]) (O:=λ_ g=>[(5,dV g 3 36 (Pl c)),(8192,dV 0 2 69 (.agg [.sl (a.2.list.map eU8),Av a.2.at_]))]) (j:=λs=>UG a c b e d s) ?_ ?_
            ·refine A 4 ?_;refine Px r ?_ ?_
             ·refine A 6 ?_;exact xC (s:=(decide (c.Params>0))) _ ((hX))
             ·refine A 6 ?_;exact xC (s:=false) _ ((hX))
            ·rintro az ba nn
             try dsimp only
             unfold UG;refine cD r ?_ ?_
             ·refine A 6 ?_;refine bD λz bb=>?_
              refine A 2 ?_;refine bS ([(OT.mk 19 b.1 z.1 0 0)]:List OT) Pp r r r (by simp) r r r<|?_
              exact B
             ·refine sC (E:=λ(s:Bool) (_g:Unit)=>[(0,.optr 8192 0 0 0),(2,Av d),(3,.sl (e.map Lo)),(9,Av b.1),(119,.bool s)]) (O:=λ_ _=>[(8192,dV 0 2 69 (.agg [.sl (a.2.list.map eU8),Av a.2.at_]))]) (j:=λs=>UH a e d b s) ?_ ?_
              ·refine A 4 ?_;refine Px r ?_ ?_
               ·refine A 8 ?_;exact xC (s:=(decide ((i64.wrap (d+1))<(e.length:Int)))) () ((hX))
               ·refine A 8 ?_;exact xC (s:=false) () ((hX))
              ·rintro bc ⟨⟩ nn
               try dsimp only
               unfold UH;refine cD r ?_ ?_
               ·refine A 10 ?_;refine bD λf bd=>?_
                refine A 17 ?_;refine lP (E:=λ(s:(List Int)×Int×(List OT)×Int) (g:Nat)=>[(0,.optr 8192 0 0 0),(3,.sl (e.map Lo)),(13,Av (i64.wrap ((i64.wrap (d+1))+f.1))),(14,.osl 14 g 0 s.2.2.1.length),(15,Av s.2.2.2)]) (O:=λs g=>[(14,dW g 5 63 (s.2.2.1.map Pp)),(8192,dV 0 2 69 (.agg [.sl (s.1.map eU8),Av s.2.1]))]) (body:=λs=>WV e d f s.1 s.2.1 s.2.2.1 s.2.2.2) (s:=(f.2.list,f.2.at_,([]:List OT),0)) _ ((hX))<|?_
                rintro⟨bf,bg,k,h⟩ bh nn
                try dsimp only
                unfold WV;refine A 6 ?_;refine bD λbi bj=>?_
                refine A 5 ?_;refine cD r ?_ ?_
                ·refine A 7 ?_;refine bD λm bk=>?_
                 refine A 4 ?_;refine cD r ?_ ?_
                 ·refine A 4 ?_;refine bD λi bl=>?_
                  refine A 2 ?_;refine bS ([(OT.mk 18 h i.1 0 0)]:List OT) Pp r r r (by simp) r r r<|?_
                  refine A 10 ?_;exact xL (s:=(i.2.list,i.2.at_,k++([(OT.mk 18 h i.1 0 0)]:List OT),i64.wrap (h+1))) _ ((hX))
                 ·refine A 8 ?_;exact xL (s:=(m.2.list,m.2.at_,k,i64.wrap (h+1))) _ ((hX))
                ·refine A 10 ?_;refine bS ([(OT.mk 22 (i64.wrap ((i64.wrap (d+1))+f.1)) 0 0 0)]:List OT) Pp r r r (by simp) r r r<|?_
                 exact B
               ·refine A 1 ?_;exact Rz (s:=()) () ((hX))
 ·rintro⟨⟩ ⟨⟩ nn
  try dsimp only
  unfold Aau;refine A 4 ?_;refine bS ([(OT.mk 14 b.1 0 0 0)]:List OT) Pp r r r (by simp) r r r<|?_
  exact B

def Wm (a:OY×Int×(List Int)×Int):List D:=[QE a.1,Av a.2.1,.sl (a.2.2.1.map Lo),Av a.2.2.2]
def Wl (ds:List D):OY×Int×(List Int)×Int:=(Vv (ds.getD 0 .top),uI (ds.getD 1 .top),(uL uI) (ds.getD 2 .top),uI (ds.getD 3 .top))
instance:PA Wm Wl:=⟨λa=>by simp[Wl,Wm,uI,Qh (u:=uI) (en:=Lo) (λ_=>rfl)]⟩
def AdI (b:Le×OY):D:=Pl b.1
def AjI (b:Le×OY):List D:=[QE b.2]
def AdJ:Dw.Spec:=Pd [(0,(2,69))] .val Wm Wl (λa=>VZ a.1 a.2.1 a.2.2.1 a.2.2.2) AdI AjI
theorem Ajk:Pa Tryz.prog 24 AdJ:=by
 refine fn2 4 (Pe (l:=[(56,Agv),(10,Rs),(57,Ahk),(58,AbO)]) (by simp[AlG,RA,Amb,Agw])) Tryz.func24<|?_
 rintro⟨c1,k,m,ae⟩;unfold VZ;refine A 9 ?_;refine bD λc av=>?_
 refine A 3 ?_;refine bD λh aw=>?_
 refine A 18 ?_;refine lP (E:=λ(s:(List Int)×Int×(List OT)×Int) (g:Nat×Nat×Nat×Nat)=>[(0,.optr 8192 0 0 0),(1,Av k),(2,.sl (m.map Lo)),(3,Av ae),(8,.optr 8 g.1 0 0),(9,.optr 9 g.2.1 0 0),(10,.osl 10 g.2.2.1 0 s.2.2.1.length),(11,Av s.2.2.2)]) (O:=λs g=>[(8,dV g.1 3 36 (.agg [Av 0,.nils,.nils])),(9,dV g.2.1 3 36 (.agg [Av c,.osl 21 g.2.2.2 0 h.1.length,.nils])),(10,dW g.2.2.1 5 63 (s.2.2.1.map Pp)),(21,dW g.2.2.2 2 60 (h.1.map Ps)),(8192,dV 0 2 69 (.agg [.sl (s.1.map eU8),Av s.2.1]))]) (body:=λs=>XB h ae c k m s.1 s.2.1 s.2.2.1 s.2.2.2) (s:=(h.2.list,h.2.at_,([]:List OT),0)) (_,_,_,_) ((hX))<|?_
 rintro⟨c7,c8,z,o⟩ ⟨az,ba,bb,bc⟩ nn
 try dsimp only
 unfold XB;refine A 10 ?_;refine cD r ?_ ?_
 ·refine A 7 ?_;refine bD λaf bd=>?_
  refine A 4 ?_;refine cD r ?_ ?_
  ·refine A 4 ?_;refine bD λp bf=>?_
   refine A 2 ?_;refine bS ([(OT.mk 16 o p.1 0 0)]:List OT) Pp r r r (by simp) r r r<|?_
   refine A 10 ?_;exact xL (s:=(p.2.list,p.2.at_,z++([(OT.mk 16 o p.1 0 0)]:List OT),i64.wrap (o+1))) (_,_,_,_) ((hX))
  ·refine A 8 ?_;exact xL (s:=(af.2.list,af.2.at_,z,i64.wrap (o+1))) (_,_,_,_) ((hX))
 ·refine A 11 ?_;refine bD λaa bg=>?_
  refine A 5 ?_;refine lP (E:=λ(s:(List Int)×Int×(List OT)×(List Pb)×Int) (g:Nat×Nat×Nat)=>[(0,.optr 8192 0 0 0),(1,Av k),(2,.sl (m.map Lo)),(8,.optr 8 g.1 0 0),(9,.optr 9 g.2.1 0 0),(10,.osl 10 g.2.2 0 s.2.2.1.length),(12,Av s.2.2.2.2)]) (O:=λs g=>[(8,dV g.1 3 36 (.agg [Av 0,.nils,.nils])),(9,dV g.2.1 3 36 (.agg [Av c,.sl (s.2.2.2.1.map Ps),.nils])),(10,dW g.2.2 5 63 (s.2.2.1.map Pp)),(8192,dV 0 2 69 (.agg [.sl (s.1.map eU8),Av s.2.1]))]) (body:=λs=>XC c k m s.1 s.2.1 s.2.2.1 s.2.2.2.1 s.2.2.2.2) (s:=(aa.2.list,aa.2.at_,z,h.1,aa.1)) (_,_,_) ((Afy [(21,some (_,⟨true,false,2,60,h.1.map Ps⟩))] ⟨⟨_,_,r,r,r⟩,trivial⟩ ⟨(PS r),(PS r),(PS r),(PS r),(PS r),(PS r),(PS r),trivial⟩ ⟨(.inl r),(.inr ⟨_,_,_,_,r,r,r,r,Afn r ⟨(WQ r),(Aaq (l:=h.1) (en:=Ps) r r r (by simp)),(WQ r),trivial⟩⟩),(.inl r),(.inl r),trivial⟩))<|?_
  rintro⟨bh,bi,f,d,q⟩ ⟨bj,bk,bl⟩ nn
  try dsimp only
  unfold XC;refine A 7 ?_;refine cD r ?_ ?_
  ·refine A 11 ?_;refine bD λt bm=>?_
   refine A 8 ?_;refine bD λag bn=>?_
   refine A 10 ?_;refine cD r ?_ ?_
   ·refine A 3 ?_;refine bD λu bo=>?_
    refine A 2 ?_;refine bS ([(OT.mk 21 u.1 (-1) 0 0)]:List OT) Pp r r r (by simp) r r r<|?_
    refine A 11 ?_;exact xL (s:=(u.2.list,u.2.at_,(f++t.1)++([(OT.mk 21 u.1 (-1) 0 0)]:List OT),d,i64.wrap (q-1))) (_,_,_) ((hX))
   ·refine A 6 ?_;refine cD r ?_ ?_
    ·refine A 3 ?_;refine bD λv bp=>?_
     refine A 4 ?_;refine cD r ?_ ?_
     ·refine A 3 ?_;refine bS ([(OT.mk 20 (-1) 0 0 0)]:List OT) Pp r r r (by simp) r r r<|?_
      refine A 11 ?_;exact xL (s:=(v.2.list,v.2.at_,(f++t.1)++([(OT.mk 20 (-1) 0 0 0)]:List OT),d,i64.wrap (q-1))) (_,_,_) ((hX))
     ·refine A 9 ?_;exact xL (s:=(v.2.list,v.2.at_,f++t.1,d,i64.wrap (q-1))) (_,_,_) ((hX))
    ·refine A 9 ?_;exact xL (s:=(ag.2.list,ag.2.at_,f++t.1,d,i64.wrap (q-1))) (_,_,_) ((hX))
  ·refine A 12 ?_;refine sC (E:=λ(_s:(List Int)×Int×Int×Int) (g:Nat×Nat×Nat×Nat)=>[(0,.optr 8192 0 0 0),(8,.optr 8 g.1 0 0),(9,.optr 9 g.2.1 0 0),(10,.osl 10 g.2.2.1 0 f.length),(13,.optr 13 g.2.2.2 0 0)]) (O:=λs g=>[(8,dV g.1 3 36 (.agg [Av 0,.nils,.nils])),(9,dV g.2.1 3 36 (.agg [Av c,.sl (d.map Ps),.nils])),(10,dW g.2.2.1 5 63 (f.map Pp)),(13,dV g.2.2.2 5 63 (.agg [Av s.2.2.1,Av 0,Av 0,Av 0,AkE s.2.2.2])),(8192,dV 0 2 69 (.agg [.sl (s.1.map eU8),Av s.2.1]))]) (j:=λs=>RL f c d s.1 s.2.1 s.2.2.1 s.2.2.2) ?_ ?_
   ·refine A 3 ?_;refine bD λah bq=>?_
    refine A 4 ?_;refine cD r ?_ ?_
    ·refine A 2 ?_;refine bD λab br=>?_
     refine A 4 ?_;exact xC (s:=(ab.2.list,ab.2.at_,24,ab.1)) (_,_,_,_) ((hX))
    ·refine A 1 ?_;exact xC (s:=(ah.2.list,ah.2.at_,23,0)) (_,_,_,_) ((hX))
   ·rintro⟨ai,aj,ac,ad⟩ ⟨bs,bt,bu,bv⟩ nn
    try dsimp only
    unfold RL;refine A 4 ?_;refine bS ([(OT.mk ac 0 0 0 ad)]:List OT) Pp r r r (by simp) r r r<|cK λhq=>aP (f) (([(OT.mk ac 0 0 0 ad)]:List OT)) Pp r r r r r r r (by simp) (TI _ _ r) r r (by simp) (Rt _ _ r) (λ_=>r) r hq<|?_
    refine A 10 ?_;refine lP (E:=λ(s:(List Int)×Int×(List OT)×Int) (g:Nat×Nat×Nat)=>[(0,.optr 8192 0 0 0),(8,.optr 8 g.1 0 0),(9,.optr 9 g.2.1 0 0),(10,.osl 10 g.2.2 0 s.2.2.1.length),(14,Av s.2.2.2)]) (O:=λs g=>[(8,dV g.1 3 36 (.agg [Av 0,.nils,.nils])),(9,dV g.2.1 3 36 (.agg [Av c,.sl (d.map Ps),.nils])),(10,dW g.2.2 5 63 (s.2.2.1.map Pp)),(8192,dV 0 2 69 (.agg [.sl (s.1.map eU8),Av s.2.1]))]) (body:=λs=>Ut c d s.1 s.2.1 s.2.2.1 s.2.2.2) (s:=(ai,aj,f++([(OT.mk ac 0 0 0 ad)]:List OT),0)) (_,_,_) ((hX))<|?_
    rintro⟨ak,ao,a,i⟩ ⟨bw,bx,bz⟩ nn
    try dsimp only
    unfold Ut;refine A 9 ?_;refine cD r ?_ ?_
    ·refine A 8 ?_;refine bD λe ca=>?_
     refine A 6 ?_;refine sC (E:=λ(s:Int) (g:Nat×Nat×Nat)=>[(0,.optr 8192 0 0 0),(8,.optr 8 g.1 0 0),(9,.optr 9 g.2.1 0 0),(10,.osl 10 g.2.2 0 a.length),(14,Av i),(15,Av s)]) (O:=λ_ g=>[(8,dV g.1 3 36 (.agg [Av 0,.nils,.nils])),(9,dV g.2.1 3 36 (.agg [Av c,.sl (d.map Ps),.nils])),(10,dW g.2.2 5 63 (a.map Pp)),(8192,dV 0 2 69 (.agg [.sl (e.2.list.map eU8),Av e.2.at_]))]) (j:=λs=>QK i a e s) ?_ ?_
     ·refine A 5 ?_;refine Px r ?_ ?_
      ·refine A 14 ?_;exact xC (s:=i64.wrap ((a.length:Int)-1)) (_,_,_) ((hX))
      ·refine A 7 ?_;refine cD r ?_ ?_
       ·refine A 6 ?_;exact xC (s:=i64.wrap ((a.length:Int)-1)) (_,_,_) ((hX))
       ·refine A 1 ?_;exact xC (s:=i64.wrap ((i64.wrap (i+e.1))-2)) (_,_,_) ((hX))
     ·rintro w ⟨cb,cc,cd⟩ nn
      try dsimp only
      unfold QK;refine A 1 ?_;refine sC (E:=λ(s:Bool) (g:Nat×Nat×Nat)=>[(0,.optr 8192 0 0 0),(8,.optr 8 g.1 0 0),(9,.optr 9 g.2.1 0 0),(10,.osl 10 g.2.2 0 a.length),(14,Av i),(15,Av w),(107,.bool s)]) (O:=λ_ g=>[(8,dV g.1 3 36 (.agg [Av 0,.nils,.nils])),(9,dV g.2.1 3 36 (.agg [Av c,.sl (d.map Ps),.nils])),(10,dW g.2.2 5 63 (a.map Pp)),(8192,dV 0 2 69 (.agg [.sl (e.2.list.map eU8),Av e.2.at_]))]) (j:=λs=>SU i a e w s) ?_ ?_
      ·refine A 5 ?_;refine bD λce cf=>?_
       refine A 3 ?_;refine Px r ?_ ?_
       ·refine A 4 ?_;refine bD λap cg=>?_
        refine A 5 ?_;exact xC (s:=(decide (ap.A<0))) (_,_,_) ((hX))
       ·refine A 9 ?_;exact xC (s:=false) (_,_,_) ((hX))
      ·rintro ch ⟨ci,cj,ck⟩ nn
       try dsimp only
       unfold SU;refine cD r ?_ ?_
       ·refine A 6 ?_;refine bD λx aq=>sE (l:=a) (en:=Pp) (q':=(OT.mk x.Op w x.B x.C x.Imm)) r r r r r r r (by simp) aq r r r r r<|?_
        exact B
       ·refine A 6 ?_;refine bD λcl cm=>?_
        refine A 3 ?_;refine Px r ?_ ?_
        ·refine A 4 ?_;refine bD λcn co=>?_
         refine A 6 ?_;refine cD r ?_ ?_
         ·refine A 6 ?_;refine bD λy ar=>sE (l:=a) (en:=Pp) (q':=(OT.mk y.Op y.A w y.C y.Imm)) r r r r r r r (by simp) ar r r r r r<|?_
          exact B
         ·refine A 9 ?_;exact xL (s:=(e.2.list,e.2.at_,a,i64.wrap (i+1))) (_,_,_) ((hX))
        ·refine A 20 ?_;exact xL (s:=(e.2.list,e.2.at_,a,i64.wrap (i+1))) (_,_,_) ((hX))
    ·refine A 19 ?_;refine Akg (b:=((Le.mk c d a),(OY.mk ak ao))) r ?_ r r ?_ (by first|rfl|(simp only[Mk];rfl)|(simp only[OV];rfl)|(simp only[Mk,OV];rfl)|(simp[AdI,Pl];try rfl))
     all_goals first|(simp;done)|(simp;omega)|rfl|(simp[QA,Qu];done)

end
end Go.Proofs.YtilmapojncgflaaGreatDoor
