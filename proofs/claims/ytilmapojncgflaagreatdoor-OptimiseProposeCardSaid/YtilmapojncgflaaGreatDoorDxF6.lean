/-
  Programs on typed data, and the proofs that the code does what they say; written by a program (dx.py).
-/
import Derived.Test.YtilmapojncgflaaGreatDoorProg
import Derived.Test.YtilmapojncgflaaGreatDoorDd
import Derived.KernelRfl
import Derived.Test.YtilmapojncgflaaGreatDoorSh
import Derived.Test.YtilmapojncgflaaGreatDoorCl
import Derived.Test.YtilmapojncgflaaGreatDoorDxP
import Derived.Test.YtilmapojncgflaaGreatDoorDxF1
import Derived.Test.YtilmapojncgflaaGreatDoorDxF2
import Derived.Test.YtilmapojncgflaaGreatDoorDxF3
import Derived.Test.YtilmapojncgflaaGreatDoorDxF4
import Derived.Test.YtilmapojncgflaaGreatDoorDxF5
namespace Go.Proofs.YtilmapojncgflaaGreatDoor
open Go Go.Dw Go.Proofs
open Go.IntKind (i64)
set_option maxRecDepth 100000
set_option maxHeartbeats 40000000
open Go.Dw renaming Ra -> bD,Qe -> cK,Abn -> bS,Akq -> aP,TC -> sE,ZS -> cD,AbR -> xC,XW -> xL,AbS -> lP,XE -> sC,YV -> bC,Akr -> mF,rf -> r
noncomputable section
def Yf (a:(List Pa)×(List (List Int))×Int):List D:=[.sl (a.1.map Pm),.sl (a.2.1.map (eL Le)),Av a.2.2]
def Ye (ds:List D):(List Pa)×(List (List Int))×Int:=((uL Uy) (ds.getD 0 .top),(uL (uL uI)) (ds.getD 1 .top),uI (ds.getD 2 .top))
instance:Py Yf Ye:=⟨λa=>by simp[Ye,Yf,uI,Qb (u:=Uy) (en:=Pm) Aei,Qb (u:=(uL uI)) (en:=(eL Le)) (Qb (u:=uI) (en:=Le) (λ_=>rfl))]⟩
def AiQ (b:(List Int)×Int):D:=.tup [.sl (b.1.map Le),Av b.2]
def AiR:Dw.Spec:=OY [] .val Yf Ye (λa=>WH a.1 a.2.1 a.2.2) AiQ noE
theorem AnW:OW Tryz.prog 66 AiR:=by
 refine fn2 3 (OZ (l:=[(120,Afy),(121,Aht),(122,AjO),(123,Ahl),(124,Amp)]) (by simp[AiV,Amt,AoK,Ame,Aqt])) Tryz.func66<|?_
 rintro⟨a,d,c⟩;unfold WH;refine A 10 ?_;refine bD λq t=>?_
 refine A 10 ?_;refine cD r ?_ ?_
 ·exact B
 ·refine A 2 ?_;refine sC (E:=λ(_s:Unit) (_g:Unit)=>[(0,.sl (a.map Pm)),(1,.sl (d.map (eL Le))),(2,Av c)]) (O:=λ_ _=>[]) (j:=λ_=>Adp a d c) ?_ ?_
  ·refine A 5 ?_;refine bD λu v=>?_
   refine A 3 ?_;refine Pj r ?_ ?_
   ·exact B
   ·refine A 4 ?_;refine Pj r ?_ ?_
    ·exact B
    ·refine A 5 ?_;refine cD r ?_ ?_
     ·exact B
     ·refine A 1 ?_;exact xC (s:=()) () ((hX))
  ·rintro⟨⟩ ⟨⟩ nn
   try dsimp only
   unfold Adp;refine A 16 ?_;refine bD λb w=>?_
   refine A 6 ?_;refine lP (E:=λ(s:(List Bool)×(List Int)×Int) (g:Nat×Nat×Nat)=>[(0,.sl (a.map Pm)),(1,.sl (d.map (eL Le))),(2,Av c),(9,.osl 9 g.1 0 s.2.1.length),(10,.osl 10 g.2.1 0 s.1.length),(43,.osl 43 g.2.2 0 b.length),(44,Av (b.length:Int)),(45,Av s.2.2)]) (O:=λs g=>[(9,dW g.1 1 3 (s.2.1.map Le)),(10,dW g.2.1 1 4 (s.1.map D.bool)),(43,dW g.2.2 1 3 (b.map Le))]) (body:=λs=>Zg b d a c s.1 s.2.1 s.2.2) (s:=(List.replicate (a.length:Int).toNat false,List.replicate (a.length:Int).toNat (0:Int),0)) (_,_,_) ((hX))<|?_
   rintro⟨e,f,i⟩ ⟨x,y,z⟩ nn
   try dsimp only
   unfold Zg;refine A 6 ?_;refine cD r ?_ ?_
   ·refine A 7 ?_;refine bD λk aa=>?_
    refine A 14 ?_;refine bD λh ab=>?_
    refine A 7 ?_;refine lP (E:=λ(s:(List OU)×Int) (g:Nat×Nat×Nat×Nat)=>[(0,.sl (a.map Pm)),(1,.sl (d.map (eL Le))),(2,Av c),(9,.osl 9 g.1 0 f.length),(10,.osl 10 g.2.1 0 e.length),(12,Av k),(13,.osl 13 g.2.2.1 0 s.1.length),(43,.osl 43 g.2.2.2 0 b.length),(44,Av (b.length:Int)),(45,Av i),(52,.sl (h.map Le)),(53,Av (h.length:Int)),(54,Av s.2)]) (O:=λs g=>[(9,dW g.1 1 3 (f.map Le)),(10,dW g.2.1 1 4 (e.map D.bool)),(13,dW g.2.2.1 2 121 (s.1.map Pv)),(43,dW g.2.2.2 1 3 (b.map Le))]) (body:=λs=>Zh h e a f k c i s.1 s.2) (s:=(([]:List OU),0)) (_,_,_,_) ((hX))<|?_
    rintro⟨m,o⟩ ⟨ac,ad,ae,af⟩ nn
    try dsimp only
    unfold Zh;refine A 6 ?_;refine cD r ?_ ?_
    ·refine A 6 ?_;refine bD λag ah=>?_
     refine A 10 ?_;refine bD λai aj=>?_
     refine A 3 ?_;refine cD r ?_ ?_
     ·refine A 5 ?_;refine bD λp ak=>?_
      refine A 1 ?_;refine bS ([p]:List OU) Pv r r r (by simp) r r r<|?_
      refine A 9 ?_;exact xL (s:=(m++([p]:List OU),i64.wrap (o+1))) (_,_,_,_) ((hX))
     ·refine A 7 ?_;exact xL (s:=(m,i64.wrap (o+1))) (_,_,_,_) ((hX))
    ·exact B
   ·exact B

def AjT:Dw.Spec:=OY [] .ground Sd Sc (λa=>YA a) Pb noE
theorem AoQ:OW Tryz.prog 128 AjT:=by
 refine fn2 1 (OZ (l:=[(120,Afy)]) (by simp[AiV])) Tryz.func128<|?_
 intro a;unfold YA;refine A 14 ?_;refine bD λe f=>?_
 refine A 4 ?_;refine cD r ?_ ?_
 ·refine A 8 ?_;refine lP (E:=λ(s:Int×Int) (_g:Unit)=>[(3,Av s.2),(9,.sl (a.map Pm)),(10,Av (a.length:Int)),(11,Av s.1)]) (O:=λ_ _=>[]) (body:=λs=>Aar a s.1 s.2) (s:=(0,16)) () ((hX))<|?_
  rintro⟨b,c⟩ ⟨⟩ nn
  try dsimp only
  unfold Aar;refine A 6 ?_;refine cD r ?_ ?_
  ·refine A 6 ?_;refine bD λd g=>?_
   refine A 19 ?_;exact xL (s:=(i64.wrap (b+1),PJ c d.Align)) () ((hX))
  ·exact B
 ·exact B

def ZI (a:Pk):List D:=[XR a]
def ZH (ds:List D):Pk:=Agi (ds.getD 0 .top)
instance:Py ZI ZH:=⟨λa=>by simp[ZH,ZI]⟩
def AnR:Dw.Spec:=OY [] .ground ZI ZH (λa=>AgP a) Pb noE
theorem Ase:OW Tryz.prog 69 AnR:=by
 refine fn2 1 (OZ (l:=[(128,AjT)]) (by simp[AoQ])) Tryz.func69<|?_
 intro a;unfold AgP;refine A 21 ?_;refine lP (E:=λ(s:Int×Int) (_g:Unit)=>[(3,Av s.1),(7,.sl (a.Funcs.map Pf)),(8,Av (a.Funcs.length:Int)),(9,Av s.2)]) (O:=λ_ _=>[]) (body:=λs=>AiI a s.1 s.2) (s:=(16,0)) () ((hX))<|?_
 rintro⟨b,c⟩ ⟨⟩ nn
 try dsimp only
 unfold AiI;refine A 6 ?_;refine cD r ?_ ?_
 ·refine A 6 ?_;refine bD λe f=>?_
  refine A 10 ?_;refine bD λd g=>?_
  refine A 10 ?_;exact xL (s:=(PJ b d,i64.wrap (c+1))) () ((hX))
 ·exact B

def Acf (a:OU×Int):List D:=[Pv a.1,Av a.2]
def Ace (ds:List D):OU×Int:=(SQ (ds.getD 0 .top),uI (ds.getD 1 .top))
instance:Py Acf Ace:=⟨λa=>by simp[Ace,Acf,uI]⟩
def AiU:Dw.Spec:=OY [] .ground Acf Ace (λa=>AcS a.1 a.2) Pe noE
theorem Aod:OW Tryz.prog 125 AiU:=by
 refine fn2 2 (OZ (l:=[(169,Afz)]) (by simp[AiW])) Tryz.func125<|?_
 intro a;unfold AcS;exact B

def Abt (a:(List Pa)×(List Int)):List D:=[.sl (a.1.map Pm),.sl (a.2.map Le)]
def Abs (ds:List D):(List Pa)×(List Int):=((uL Uy) (ds.getD 0 .top),(uL uI) (ds.getD 1 .top))
instance:Py Abt Abs:=⟨λa=>by simp[Abs,Abt,Qb (u:=Uy) (en:=Pm) Aei,Qb (u:=uI) (en:=Le) (λ_=>rfl)]⟩
def Ama:Dw.Spec:=OY [] .ground Abt Abs (λa=>Aeq a.1 a.2) Pb noE
theorem Aqr:OW Tryz.prog 127 Ama:=by
 refine fn2 2 (Pp) Tryz.func127<|?_;rintro⟨a,b⟩;unfold Aeq;refine A 19 ?_;refine lP (E:=λ(s:Int×Int) (_g:Unit)=>[(0,.sl (a.map Pm)),(1,.sl (b.map Le)),(5,Av s.1),(8,Av (a.length:Int)),(9,Av s.2)]) (O:=λ_ _=>[]) (body:=λs=>AgU a b s.1 s.2) (s:=(0,0)) () ((hX))<|?_
 rintro⟨c,d⟩ ⟨⟩ nn
 try dsimp only
 unfold AgU;refine A 6 ?_;refine cD r ?_ ?_
 ·refine A 14 ?_;refine bD λe g=>?_
  refine A 4 ?_;refine bD λf h=>?_
  refine A 13 ?_;exact xL (s:=(PJ c (i64.wrap (e+f.Size)),i64.wrap (d+1))) () ((hX))
 ·exact B

def Ady:Dw.Spec:=OY [] .ground PU PT (λa=>VB a) YB noE
theorem Ahr:OW Tryz.prog 201 Ady:=by
 refine fn2 1 (Pp) Tryz.func201<|?_;intro a;unfold VB;exact B

def AnI:Dw.Spec:=OY [] .ground Sa RZ (λa=>AgG a.1 a.2) YB noE
theorem Arw:OW Tryz.prog 175 AnI:=by
 refine fn2 2 (OZ (l:=[(166,YE),(158,Abx),(173,AjB),(201,Ady)]) (by simp[Aau,AeB,Amq,Ahr])) Tryz.func175<|?_
 rintro⟨a,b⟩;unfold AgG;refine A 6 ?_;refine sC (E:=λ(_s:Unit) (_g:Unit)=>[(0,Av a),(1,Av b)]) (O:=λ_ _=>[]) (j:=λ_=>AeC a b) ?_ ?_
 ·refine A 3 ?_;refine bD λc d=>?_
  refine A 3 ?_;refine Pj r ?_ ?_
  ·exact B
  ·refine A 1 ?_;refine bD λe f=>?_
   refine A 5 ?_;refine cD r ?_ ?_
   ·exact B
   ·refine A 1 ?_;exact xC (s:=()) () ((hX))
 ·rintro⟨⟩ ⟨⟩ nn
  try dsimp only
  unfold AeC;exact B

def Amo:Dw.Spec:=OY [] .ground Sa RZ (λa=>Aey a.1 a.2) YB noE
theorem Aqs:OW Tryz.prog 176 Amo:=by
 refine fn2 2 (OZ (l:=[(166,YE),(201,Ady)]) (by simp[Aau,Ahr])) Tryz.func176<|?_
 rintro⟨a,b⟩;unfold Aey;refine A 6 ?_;refine sC (E:=λ(_s:Unit) (_g:Unit)=>[(0,Av a),(1,Av b)]) (O:=λ_ _=>[]) (j:=λ_=>AcN a b) ?_ ?_
 ·refine A 3 ?_;refine bD λc d=>?_
  refine A 3 ?_;refine Pj r ?_ ?_
  ·exact B
  ·refine A 1 ?_;refine bD λe f=>?_
   refine A 5 ?_;refine cD r ?_ ?_
   ·exact B
   ·refine A 1 ?_;exact xC (s:=()) () ((hX))
 ·rintro⟨⟩ ⟨⟩ nn
  try dsimp only
  unfold AcN;exact B

def AfH (a:PG×Int×Int):List D:=[Su a.1,Av a.2.1,Av a.2.2]
def AfG (ds:List D):PG×Int×Int:=(Akv (ds.getD 0 .top),uI (ds.getD 1 .top),uI (ds.getD 2 .top))
instance:Py AfH AfG:=⟨λa=>by simp[AfG,AfH,uI]⟩
def Sh (b:PG×Int):D:=.tup [Su b.1,Av b.2]
def AmC:Dw.Spec:=OY [] .val AfH AfG (λa=>AhE a.1 a.2.1 a.2.2) Sh noE
theorem Aqv:OW Tryz.prog 126 AmC:=by
 refine fn2 3 (OZ (l:=[(175,AnI),(176,Amo)]) (by simp[Arw,Aqs])) Tryz.func126<|?_
 rintro⟨c,e,f⟩;unfold AhE;refine A 11 ?_;refine bD λa h=>?_
 refine A 8 ?_;refine sC (E:=λ(s:Int) (g:Nat×Nat)=>[(3,.optr 3 g.1 0 0),(6,.optr 6 g.2 0 0),(8,Av a.1),(9,Av s)]) (O:=λ_ g=>[(3,dV g.1 3 46 (Su c)),(6,dV g.2 3 46 (.agg [Av 0,Av 0,.nils]))]) (j:=λs=>AcW c a s) ?_ ?_
 ·refine A 6 ?_;refine cD r ?_ ?_
  ·refine A 2 ?_;refine bD λd i=>?_
   refine A 6 ?_;exact xC (s:=d.2) (_,_) ((hX))
  ·refine A 1 ?_;exact xC (s:=a.2) (_,_) ((hX))
 ·rintro k ⟨m,o⟩ nn
  try dsimp only
  unfold AcW;refine A 7 ?_;refine cD r ?_ ?_
  ·refine A 9 ?_;refine Sq (b:=((PG.mk 0 0 ([])),9)) r ?_ r r ?_ (by first|rfl|(simp only[Lo];rfl)|(simp only[OQ];rfl)|(simp only[Lo,OQ];rfl)|(simp[Sh,Su];try rfl)) (by decide)
   all_goals first|(simp;done)|(simp;omega)|rfl|(simp[Qr,Qm];done)
  ·exact B

def Aaz (a:Pk×Int×Int×(List Int)):List D:=[XR a.1,Av a.2.1,Av a.2.2.1,.sl (a.2.2.2.map Le)]
def Aay (ds:List D):Pk×Int×Int×(List Int):=(Agi (ds.getD 0 .top),uI (ds.getD 1 .top),uI (ds.getD 2 .top),(uL uI) (ds.getD 3 .top))
instance:Py Aaz Aay:=⟨λa=>by simp[Aay,Aaz,uI,Qb (u:=uI) (en:=Le) (λ_=>rfl)]⟩
def Alp:Dw.Spec:=OY [] .val Aaz Aay (λa=>ZL a.1 a.2.1 a.2.2.1 a.2.2.2) Sh noE
theorem ApD:OW Tryz.prog 68 Alp:=by
 refine fn2 4 (OZ (l:=[(125,AiU),(67,AjF),(115,AnV),(127,Ama),(126,AmC)]) (by simp[Aod,AmB,ApX,Aqr,Aqv])) Tryz.func68<|?_
 rintro⟨c,d,e,f⟩;unfold ZL;refine A 12 ?_;refine bD λa i=>?_
 refine A 16 ?_;refine cD r ?_ ?_
 ·refine A 9 ?_;refine Sq (b:=((PG.mk 0 0 ([])),13)) r ?_ r r ?_ (by first|rfl|(simp only[Lo];rfl)|(simp only[OQ];rfl)|(simp only[Lo,OQ];rfl)|(simp[Sh,Su];try rfl)) (by decide)
  all_goals first|(simp;done)|(simp;omega)|rfl|(simp[Qr,Qm];done)
 ·refine A 11 ?_;refine lP (E:=λ(s:Int) (g:Nat×Nat)=>[(1,Av d),(2,Av e),(3,.sl (f.map Le)),(4,.optr 4 g.1 0 0),(8,.optr 8 g.2 0 0),(10,.sl (a.Slots.map Pm)),(26,.sl (a.Slots.map Pm)),(27,Av (a.Slots.length:Int)),(28,Av s)]) (O:=λ_ g=>[(4,dV g.1 1 28 (.agg [.sl (c.Funcs.map Pf)])),(8,dV g.2 3 46 (.agg [Av 0,Av 0,.nils]))]) (body:=λs=>AfF a f c d e s) (s:=0) (_,_) ((hX))<|?_
  rintro h ⟨j,k⟩ nn
  try dsimp only
  unfold AfF;refine A 6 ?_;refine cD r ?_ ?_
  ·refine A 7 ?_;refine bD λm o=>?_
   refine A 11 ?_;refine bD λp q=>?_
   refine A 5 ?_;refine bD λt u=>?_
   refine A 4 ?_;refine cD r ?_ ?_
   ·refine A 13 ?_;refine Sq (b:=((PG.mk 0 0 ([])),13)) r ?_ r r ?_ (by first|rfl|(simp only[Lo];rfl)|(simp only[OQ];rfl)|(simp only[Lo,OQ];rfl)|(simp[Sh,Su];try rfl)) (by decide)
    all_goals first|(simp;done)|(simp;omega)|rfl|(simp[Qr,Qm];done)
   ·refine A 7 ?_;exact xL (s:=i64.wrap (h+1)) (_,_) ((hX))
  ·refine A 9 ?_;refine bD λv w=>?_
   refine A 2 ?_;refine bD λx y=>?_
   refine A 13 ?_;refine bD λz aa=>?_
   refine A 1 ?_;refine Awl r r r r<|?_;exact B

def Ake (b:PE):List D:=[Ti b]
def Aef:Dw.Spec:=OY [(0,(12,75))] .val Rj RH (λa=>Wo a) Vt Ake
theorem AjE:OW Tryz.prog 32 Aef:=by
 refine fn2 1 (OZ (l:=[(12,AiZ),(65,AgH),(67,AjF),(66,AiR),(69,AnR),(68,Alp)]) (by simp[Aoo,AlQ,AmB,AnW,Ase,ApD])) Tryz.func32<|?_
 intro a;unfold Wo;refine A 14 ?_;refine bD λc d=>?_
 refine A 16 ?_;refine bD λe g=>?_
 refine A 21 ?_;refine bD λh j=>?_
 refine A 1 ?_;refine bD λk m=>?_
 refine A 15 ?_;refine cD r ?_ ?_
 ·exact B
 ·refine A 13 ?_;refine bD λo q=>?_
  refine A 2 ?_;refine bD λb s=>?_
  refine A 15 ?_;refine cD r ?_ ?_
  ·refine A 6 ?_;refine TD (i:=0) (es':=[.agg [.sl (a.p.Funcs.map Pf),Av a.i,Av a.f.Params,.sl (a.f.Slots.map Pm),.sl (a.f.Code.map Ph),.sl (a.x.Live.Out.map (eL Le)),.sl (a.x.Rename.To.map Le),.sl (a.x.Rename.Keep.map D.bool),.sl (a.x.LiveAfter.Out.map (eL Le)),Av b.1.Args,Av b.1.Size,.sl (b.1.Off.map Le)]]) r r r r r r r (by first|trivial|(simp;done)|(simp;omega)) r r r r r r<|?_
   exact B
  ·exact B

def Xo (b:Px):D:=Rp b
def Xp:Dw.Spec:=OY [] .val WN WM (λa=>QP a.1 a.2) Xo noE
theorem Aak:OW Tryz.prog 14 Xp:=by
 refine fn2 2 (OZ (l:=[(29,AeL),(30,AeK),(31,Aee),(32,Aef)]) (by simp[Akd,Akc,AjD,AjE])) Tryz.func14<|?_
 rintro⟨a,b⟩;unfold QP;refine A 13 ?_;refine bD λc k=>?_
 refine A 11 ?_;refine mF (caps:=[.optr 16 _ 0 0]) r r (by simp[VF])<|?_
 refine A 1 ?_;refine mF (caps:=[.optr 16 _ 0 0]) r r (by simp[VF])<|?_
 refine A 1 ?_;refine mF (caps:=[.optr 16 _ 0 0]) r r (by simp[VF])<|?_
 refine A 1 ?_;refine mF (caps:=[.optr 16 _ 0 0]) r r (by simp[VF])<|Awk r r r r r<|AsU r r<|?_
 refine A 4 ?_;refine Avo 5<|?_;refine A 13 ?_;refine Ane r r r (by decide)<|?_
 refine A 6 ?_;refine bD λd e=>Adi (q:=29) (PE.mk a b c (Px.mk (Pg.mk ([])) (Pl.mk ([]) ([])) (Pg.mk ([])) (PG.mk 0 0 ([])))) r r r Py.ok r r (by simp) (by first|rfl|(simp only[Lo];rfl)|(simp only[OQ];rfl)|(simp only[Lo,OQ];rfl)|simp[Rj,Ti]) e<|?_
 refine A 7 ?_;refine Agv<|?_;refine A 13 ?_;refine Ane r r r (by decide)<|?_
 refine A 6 ?_;refine bD λf g=>Adi (q:=30) d r r r Py.ok r r (by simp) r g<|?_
 refine A 7 ?_;refine Agv<|?_;refine A 13 ?_;refine Ane r r r (by decide)<|?_
 refine A 6 ?_;refine bD λh i=>Adi (q:=31) f r r r Py.ok r r (by simp) r i<|?_
 refine A 7 ?_;refine Agv<|?_;refine A 13 ?_;refine Ane r r r (by decide)<|?_
 refine A 6 ?_;refine bD λm j=>Adi (q:=32) h r r r Py.ok r r (by simp) r j<|?_
 refine A 7 ?_;refine Agv<|?_;refine A 9 ?_;refine AsW<|?_;exact B

def AeH (_a:Unit):List D:=[]
def AeG (_ds:List D):Unit:=()
theorem Apz (a:Unit):AeG (AeH a)=a:=rfl
instance:Py AeH AeG:=⟨Apz⟩
def Alo:Dw.Spec:=OY [] .ground AeH AeG (λ_a=>Acz) Pe noE
theorem ApA:OW Tryz.prog 7 Alo:=by
 refine fn2 0 (OZ (l:=[(14,Xp)]) (by simp[Aak])) Tryz.func7<|?_
 intro _;unfold Acz;refine A 8 ?_;refine bS ([(OP.mk 23 0 0 0 0)]:List OP) Ph r r r (by simp) r r r<|?_
 refine A 1 ?_;refine bS ([(Mk.mk 0 ([]) ([(OP.mk 23 0 0 0 0)]:List OP))]:List Mk) Pf r r r (by simp) r (by simp[Aav,Pf]<;>first|rfl|(rw[List.take_of_length_le (by simp)])) r<|?_
 exact B

def Aii (a:(List Int)×Int):List D:=[.sl (a.1.map eU8),Av a.2]
def Aih (ds:List D):(List Int)×Int:=((uL uI) (ds.getD 0 .top),uI (ds.getD 1 .top))
instance:Py Aii Aih:=⟨λa=>by simp[Aih,Aii,uI,Qb (u:=uI) (en:=eU8) (λ_=>rfl)]⟩
def AtO (b:OV):D:=QC b
def AoN:Dw.Spec:=OY [] (.ptr 2 69) Aii Aih (λa=>Aig a.1 a.2) AtO noE
theorem AsG:OW Tryz.prog 8 AoN:=by
 refine fn2 2 (Pp) Tryz.func8<|?_;intro a;unfold Aig;exact B

def Ue (a:OV):List D:=[QC a]
def Ud (ds:List D):OV:=VA (ds.getD 0 .top)
instance:Py Ue Ud:=⟨λa=>by simp[Ud,Ue]⟩
def Anp (b:Bool×OV):D:=.bool b.1
def Ano (b:Bool×OV):List D:=[QC b.2]
def Ahm:Dw.Spec:=OY [(0,(2,69))] .val Ue Ud (λa=>Aao a) Anp Ano
theorem Amf:OW Tryz.prog 25 Ahm:=by
 refine fn2 1 (Pp) Tryz.func25<|?_;intro a;unfold Aao;exact B

def We (a:OV×Int):List D:=[QC a.1,Av a.2]
def Wd (ds:List D):OV×Int:=(VA (ds.getD 0 .top),uI (ds.getD 1 .top))
instance:Py We Wd:=⟨λa=>by simp[Wd,We,uI]⟩
def Ahn (b:Int×OV):D:=Av b.1
def Anq (b:Int×OV):List D:=[QC b.2]
def RL:Dw.Spec:=OY [(0,(2,69))] .val We Wd (λa=>Pn a.1 a.2) Ahn Anq
theorem Sb:OW Tryz.prog 10 RL:=by
 refine fn2 2 (OZ (l:=[(25,Ahm)]) (by simp[Amf])) Tryz.func10<|?_
 rintro⟨e,a⟩;unfold Pn;refine A 5 ?_;refine sC (E:=λ(_s:(List Int)×Int) (_g:Unit)=>[(0,.optr 8192 0 0 0),(1,Av a)]) (O:=λs _=>[(8192,dV 0 2 69 (.agg [.sl (s.1.map eU8),Av s.2]))]) (j:=λs=>Xd a s.1 s.2) ?_ ?_
 ·refine A 3 ?_;refine bD λb f=>?_
  refine A 3 ?_;refine Pj r ?_ ?_
  ·exact B
  ·refine A 5 ?_;refine cD r ?_ ?_
   ·exact B
   ·refine A 1 ?_;exact xC (s:=(b.2.list,b.2.at_)) () ((hX))
 ·rintro⟨c,d⟩ ⟨⟩ nn
  try dsimp only
  unfold Xd;refine A 10 ?_;refine bD λg h=>?_
  refine A 15 ?_;refine TD (i:=0) (es':=[.agg [.sl (c.map eU8),Av (i64.wrap (d+1))]]) r r r r r r r (by first|trivial|(simp;done)|(simp;omega)) r r r r r r<|?_
  exact B

def Ans (b:Pa×OV):D:=Pm b.1
def Anr (b:Pa×OV):List D:=[QC b.2]
def Aho:Dw.Spec:=OY [(0,(2,69))] .val Ue Ud (λa=>Aap a) Ans Anr
theorem Amg:OW Tryz.prog 97 Aho:=by
 refine fn2 1 (OZ (l:=[(10,RL)]) (by simp[Sb])) Tryz.func97<|?_
 intro a;unfold Aap;refine A 7 ?_;refine bS ([8,4,8,1,2,16,8]:List Int) Le r r r (by simp) r r r<|?_
 refine A 1 ?_;refine bD λb c=>?_
 refine A 2 ?_;refine bD λd e=>?_
 refine A 1 ?_;refine bS ([8,4,1,8,16,2,32,64]:List Int) Le r r r (by simp) r r r<|?_
 exact B

def Ami (b:(List Pa)×OV):D:=.sl (b.1.map Pm)
def Amh (b:(List Pa)×OV):List D:=[QC b.2]
def AgD:Dw.Spec:=OY [(0,(2,69))] (.row 2 60) We Wd (λa=>VJ a.1 a.2) Ami Amh
theorem AlO:OW Tryz.prog 56 AgD:=by
 refine fn2 2 (OZ (l:=[(10,RL),(97,Aho)]) (by simp[Sb,Amg])) Tryz.func56<|?_
 rintro⟨e,f⟩;unfold VJ;refine A 16 ?_;refine bD λb h=>?_
 refine A 5 ?_;refine lP (E:=λ(s:(List Int)×Int×(List Pa)×Int) (g:Nat)=>[(0,.optr 8192 0 0 0),(5,.osl 5 g 0 s.2.2.1.length),(6,Av s.2.2.2)]) (O:=λs g=>[(5,dW g 2 60 (s.2.2.1.map Pm)),(8192,dV 0 2 69 (.agg [.sl (s.1.map eU8),Av s.2.1]))]) (body:=λs=>Aae s.1 s.2.1 s.2.2.1 s.2.2.2) (s:=(b.2.list,b.2.at_,([]:List Pa),b.1)) _ ((hX))<|?_
 rintro⟨i,c5,c,d⟩ j nn
 try dsimp only
 unfold Aae;refine A 7 ?_;refine cD r ?_ ?_
 ·refine A 7 ?_;refine bD λa k=>?_
  refine A 1 ?_;refine bS ([a.1]:List Pa) Pm r r r (by simp) r r r<|?_
  refine A 10 ?_;exact xL (s:=(a.2.list,a.2.at_,c++([a.1]:List Pa),i64.wrap (d-1))) _ ((hX))
 ·exact B

def Aai (a:OV×Mk×Int):List D:=[QC a.1,Pf a.2.1,Av a.2.2]
def Aah (ds:List D):OV×Mk×Int:=(VA (ds.getD 0 .top),Td (ds.getD 1 .top),uI (ds.getD 2 .top))
instance:Py Aai Aah:=⟨λa=>by simp[Aah,Aai,uI]⟩
def Anx (b:Int×OV):List D:=[QC b.2]
def Ahq:Dw.Spec:=OY [(0,(2,69))] .val Aai Aah (λa=>Aaq a.1 a.2.1 a.2.2) Ahn Anx
theorem Amk:OW Tryz.prog 98 Ahq:=by
 refine fn2 3 (OZ (l:=[(10,RL)]) (by simp[Sb])) Tryz.func98<|?_
 rintro⟨a,c,d⟩;unfold Aaq;refine A 18 ?_;refine lP (E:=λ(s:(List Int)×Int) (g:Nat×Nat)=>[(0,.optr 8192 0 0 0),(2,Av d),(4,.optr 4 g.1 0 0),(7,.osl 7 g.2 0 s.1.length),(8,Av s.2)]) (O:=λs g=>[(4,dV g.1 3 36 (Pf c)),(7,dW g.2 1 3 (s.1.map Le)),(8192,dV 0 2 69 (.agg [.sl (a.list.map eU8),Av a.at_]))]) (body:=λs=>AaP c d a s.1 s.2) (s:=(([]:List Int),0)) (_,_) ((hX))<|?_
 rintro⟨e,b⟩ ⟨f,h⟩ nn
 try dsimp only
 unfold AaP;refine A 10 ?_;refine cD r ?_ ?_
 ·refine A 9 ?_;refine bD λi j=>?_
  refine A 6 ?_;refine bD λk m=>?_
  refine A 6 ?_;refine cD r ?_ ?_
  ·refine A 14 ?_;exact xL (s:=(e++([b]:List Int),i64.wrap (b+1))) (_,_) ((hX))
  ·refine A 8 ?_;exact xL (s:=(e,i64.wrap (b+1))) (_,_) ((hX))
 ·exact B

def Anu (b:Int×OV):D:=AkM b.1
def Ant (b:Int×OV):List D:=[QC b.2]
def Acb:Dw.Spec:=OY [(0,(2,69))] .val Ue Ud (λa=>Xf a) Anu Ant
theorem AgE:OW Tryz.prog 58 Acb:=by
 refine fn2 1 (OZ (l:=[(10,RL)]) (by simp[Sb])) Tryz.func58<|?_
 intro a;unfold Xf;exact B

def Aag (a:OV×Mk×Int×(List Int)):List D:=[QC a.1,Pf a.2.1,Av a.2.2.1,.sl (a.2.2.2.map Le)]
def Aaf (ds:List D):OV×Mk×Int×(List Int):=(VA (ds.getD 0 .top),Td (ds.getD 1 .top),uI (ds.getD 2 .top),(uL uI) (ds.getD 3 .top))
instance:Py Aag Aaf:=⟨λa=>by simp[Aaf,Aag,uI,Qb (u:=uI) (en:=Le) (λ_=>rfl)]⟩
def Anw (b:(List OP)×OV):D:=.sl (b.1.map Ph)
def Anv (b:(List OP)×OV):List D:=[QC b.2]
def Ahp:Dw.Spec:=OY [(0,(2,69))] (.row 5 63) Aag Aaf (λa=>Xg a.1 a.2.1 a.2.2.1 a.2.2.2) Anw Anv
theorem Amj:OW Tryz.prog 57 Ahp:=by
 refine fn2 4 (OZ (l:=[(10,RL),(98,Ahq),(58,Acb)]) (by simp[Sb,Amk,AgE])) Tryz.func57<|?_
 rintro⟨c1,c,d,e⟩;unfold Xg;refine A 9 ?_;refine bD λb ab=>?_
 refine A 15 ?_;refine bD λa ac=>?_
 refine A 4 ?_;refine bC (E:=λ(_s:Unit) (_g:Unit)=>[(9,Av b.1)]) (O:=λ_ _=>[(8192,dV 0 2 69 (.agg [.sl (a.2.list.map eU8),Av a.2.at_]))]) (j:=λ_=>AaO b a) ?_ ?_
 ·refine sC (E:=λ(s:Bool) (g:Nat)=>[(0,.optr 8192 0 0 0),(2,Av d),(3,.sl (e.map Le)),(5,.optr 5 g 0 0),(9,Av b.1),(10,Av (c.Slots.length:Int)),(11,Av a.1),(23,.bool s)]) (O:=λ_ g=>[(5,dV g 3 36 (Pf c)),(8192,dV 0 2 69 (.agg [.sl (a.2.list.map eU8),Av a.2.at_]))]) (j:=λs=>UC a c b e d s) ?_ ?_
  ·refine A 4 ?_;refine Pj r ?_ ?_
   ·refine A 5 ?_;exact xC (s:=(decide ((c.Slots.length:Int)>0))) _ ((hX))
   ·refine A 5 ?_;exact xC (s:=false) _ ((hX))
  ·rintro x7 ae nn
   try dsimp only
   unfold UC;refine cD r ?_ ?_
   ·refine A 4 ?_;refine bD λo af=>?_
    refine A 3 ?_;refine bS ([(OP.mk 16 o.1 b.1 0 0)]:List OP) Ph r r r (by simp) r r r<|?_
    exact B
   ·refine sC (E:=λ(s:Bool) (g:Nat)=>[(0,.optr 8192 0 0 0),(2,Av d),(3,.sl (e.map Le)),(5,.optr 5 g 0 0),(9,Av b.1),(10,Av (c.Slots.length:Int)),(11,Av a.1),(36,.bool s)]) (O:=λ_ g=>[(5,dV g 3 36 (Pf c)),(8192,dV 0 2 69 (.agg [.sl (a.2.list.map eU8),Av a.2.at_]))]) (j:=λs=>UD a c b e d s) ?_ ?_
    ·refine A 4 ?_;refine Pj r ?_ ?_
     ·refine A 5 ?_;exact xC (s:=(decide ((c.Slots.length:Int)>0))) _ ((hX))
     ·refine A 5 ?_;exact xC (s:=false) _ ((hX))
    ·rintro x9 ah nn
     try dsimp only
     unfold UD;refine cD r ?_ ?_
     ·refine A 5 ?_;refine bD λp ai=>?_
      refine A 2 ?_;refine bS ([(OP.mk 15 b.1 p.1 0 0)]:List OP) Ph r r r (by simp) r r r<|?_
      exact B
     ·refine sC (E:=λ(s:Bool) (g:Nat)=>[(0,.optr 8192 0 0 0),(2,Av d),(3,.sl (e.map Le)),(5,.optr 5 g 0 0),(9,Av b.1),(10,Av (c.Slots.length:Int)),(11,Av a.1),(49,.bool s)]) (O:=λ_ g=>[(5,dV g 3 36 (Pf c)),(8192,dV 0 2 69 (.agg [.sl (a.2.list.map eU8),Av a.2.at_]))]) (j:=λs=>UE a c b e d s) ?_ ?_
      ·refine A 4 ?_;refine Pj r ?_ ?_
       ·refine A 5 ?_;exact xC (s:=(decide ((c.Slots.length:Int)>0))) _ ((hX))
       ·refine A 5 ?_;exact xC (s:=false) _ ((hX))
      ·rintro aj ak nn
       try dsimp only
       unfold UE;refine cD r ?_ ?_
       ·refine A 4 ?_;refine bD λq ao=>?_
        refine A 9 ?_;refine bD λt ap=>?_
        refine A 3 ?_;refine bS ([(OP.mk 17 t.1 q.1 0 0)]:List OP) Ph r r r (by simp) r r r<|?_
        exact B
       ·refine A 7 ?_;refine cD r ?_ ?_
        ·refine A 4 ?_;refine bD λu aq=>?_
         refine A 2 ?_;refine bS ([(OP.mk 0 b.1 0 0 u.1)]:List OP) Ph r r r (by simp) r r r<|?_
         exact B
        ·refine A 7 ?_;refine cD r ?_ ?_
         ·refine A 3 ?_;refine bD λv ar=>?_
          refine A 4 ?_;refine bD λw au=>?_
          refine A 2 ?_;refine bD λx av=>?_
          refine A 2 ?_;refine bS ([(OP.mk (i64.wrap (2+v.1)) b.1 w.1 x.1 0)]:List OP) Ph r r r (by simp) r r r<|?_
          exact B
         ·refine A 7 ?_;refine cD r ?_ ?_
          ·refine A 4 ?_;refine bS ([(OP.mk 14 b.1 0 0 0)]:List OP) Ph r r r (by simp) r r r<|?_
           exact B
          ·refine A 7 ?_;refine cD r ?_ ?_
           ·refine A 2 ?_;refine bS ([13,12,1]:List Int) Le r r r (by simp) r r r<|?_
            refine A 1 ?_;refine bD λaw ax=>?_
            refine A 2 ?_;refine bD λy ay=>?_
            refine A 3 ?_;refine bS ([(OP.mk y b.1 0 0 0)]:List OP) Ph r r r (by simp) r r r<|?_
            exact B
           ·refine sC (E:=λ(s:Bool) (g:Nat)=>[(0,.optr 8192 0 0 0),(2,Av d),(3,.sl (e.map Le)),(5,.optr 5 g 0 0),(9,Av b.1),(11,Av a.1),(104,.bool s)]) (O:=λ_ g=>[(5,dV g 3 36 (Pf c)),(8192,dV 0 2 69 (.agg [.sl (a.2.list.map eU8),Av a.2.at_]))]) (j:=λs=>UF a c b e d s) ?_ ?_
            ·refine A 4 ?_;refine Pj r ?_ ?_
             ·refine A 6 ?_;exact xC (s:=(decide (c.Params>0))) _ ((hX))
             ·refine A 6 ?_;exact xC (s:=false) _ ((hX))
            ·rintro az ba nn
             try dsimp only
             unfold UF;refine cD r ?_ ?_
             ·refine A 6 ?_;refine bD λz bb=>?_
              refine A 2 ?_;refine bS ([(OP.mk 19 b.1 z.1 0 0)]:List OP) Ph r r r (by simp) r r r<|?_
              exact B
             ·refine sC (E:=λ(s:Bool) (_g:Unit)=>[(0,.optr 8192 0 0 0),(2,Av d),(3,.sl (e.map Le)),(9,Av b.1),(119,.bool s)]) (O:=λ_ _=>[(8192,dV 0 2 69 (.agg [.sl (a.2.list.map eU8),Av a.2.at_]))]) (j:=λs=>UG a e d b s) ?_ ?_
              ·refine A 4 ?_;refine Pj r ?_ ?_
               ·refine A 8 ?_;exact xC (s:=(decide ((i64.wrap (d+1))<(e.length:Int)))) () ((hX))
               ·refine A 8 ?_;exact xC (s:=false) () ((hX))
              ·rintro bc ⟨⟩ nn
               try dsimp only
               unfold UG;refine cD r ?_ ?_
               ·refine A 10 ?_;refine bD λf bd=>?_
                refine A 17 ?_;refine lP (E:=λ(s:(List Int)×Int×(List OP)×Int) (g:Nat)=>[(0,.optr 8192 0 0 0),(3,.sl (e.map Le)),(13,Av (i64.wrap ((i64.wrap (d+1))+f.1))),(14,.osl 14 g 0 s.2.2.1.length),(15,Av s.2.2.2)]) (O:=λs g=>[(14,dW g 5 63 (s.2.2.1.map Ph)),(8192,dV 0 2 69 (.agg [.sl (s.1.map eU8),Av s.2.1]))]) (body:=λs=>Xh e d f s.1 s.2.1 s.2.2.1 s.2.2.2) (s:=(f.2.list,f.2.at_,([]:List OP),0)) _ ((hX))<|?_
                rintro⟨bf,bg,k,h⟩ bh nn
                try dsimp only
                unfold Xh;refine A 6 ?_;refine bD λbi bj=>?_
                refine A 5 ?_;refine cD r ?_ ?_
                ·refine A 7 ?_;refine bD λm bk=>?_
                 refine A 4 ?_;refine cD r ?_ ?_
                 ·refine A 4 ?_;refine bD λi bl=>?_
                  refine A 2 ?_;refine bS ([(OP.mk 18 h i.1 0 0)]:List OP) Ph r r r (by simp) r r r<|?_
                  refine A 10 ?_;exact xL (s:=(i.2.list,i.2.at_,k++([(OP.mk 18 h i.1 0 0)]:List OP),i64.wrap (h+1))) _ ((hX))
                 ·refine A 8 ?_;exact xL (s:=(m.2.list,m.2.at_,k,i64.wrap (h+1))) _ ((hX))
                ·refine A 10 ?_;refine bS ([(OP.mk 22 (i64.wrap ((i64.wrap (d+1))+f.1)) 0 0 0)]:List OP) Ph r r r (by simp) r r r<|?_
                 exact B
               ·refine A 1 ?_;exact PS (s:=()) () ((hX))
 ·rintro⟨⟩ ⟨⟩ nn
  try dsimp only
  unfold AaO;refine A 4 ?_;refine bS ([(OP.mk 14 b.1 0 0 0)]:List OP) Ph r r r (by simp) r r r<|?_
  exact B

def Ww (a:OV×Int×(List Int)×Int):List D:=[QC a.1,Av a.2.1,.sl (a.2.2.1.map Le),Av a.2.2.2]
def Wv (ds:List D):OV×Int×(List Int)×Int:=(VA (ds.getD 0 .top),uI (ds.getD 1 .top),(uL uI) (ds.getD 2 .top),uI (ds.getD 3 .top))
instance:Py Ww Wv:=⟨λa=>by simp[Wv,Ww,uI,Qb (u:=uI) (en:=Le) (λ_=>rfl)]⟩
def AdW (b:Mk×OV):D:=Pf b.1
def AjR (b:Mk×OV):List D:=[QC b.2]
def AdX:Dw.Spec:=OY [(0,(2,69))] .val Ww Wv (λa=>Wf a.1 a.2.1 a.2.2.1 a.2.2.2) AdW AjR
theorem Ajz:OW Tryz.prog 24 AdX:=by
 refine fn2 4 (OZ (l:=[(56,AgD),(10,RL),(57,Ahp),(58,Acb)]) (by simp[AlO,Sb,Amj,AgE])) Tryz.func24<|?_
 rintro⟨c1,k,m,ae⟩;unfold Wf;refine A 9 ?_;refine bD λc av=>?_
 refine A 3 ?_;refine bD λh aw=>?_
 refine A 18 ?_;refine lP (E:=λ(s:(List Int)×Int×(List OP)×Int) (g:Nat×Nat×Nat×Nat)=>[(0,.optr 8192 0 0 0),(1,Av k),(2,.sl (m.map Le)),(3,Av ae),(8,.optr 8 g.1 0 0),(9,.optr 9 g.2.1 0 0),(10,.osl 10 g.2.2.1 0 s.2.2.1.length),(11,Av s.2.2.2)]) (O:=λs g=>[(8,dV g.1 3 36 (.agg [Av 0,.nils,.nils])),(9,dV g.2.1 3 36 (.agg [Av c,.osl 21 g.2.2.2 0 h.1.length,.nils])),(10,dW g.2.2.1 5 63 (s.2.2.1.map Ph)),(21,dW g.2.2.2 2 60 (h.1.map Pm)),(8192,dV 0 2 69 (.agg [.sl (s.1.map eU8),Av s.2.1]))]) (body:=λs=>XP h ae c k m s.1 s.2.1 s.2.2.1 s.2.2.2) (s:=(h.2.list,h.2.at_,([]:List OP),0)) (_,_,_,_) ((hX))<|?_
 rintro⟨c7,c8,z,o⟩ ⟨az,ba,bb,bc⟩ nn
 try dsimp only
 unfold XP;refine A 10 ?_;refine cD r ?_ ?_
 ·refine A 7 ?_;refine bD λaf bd=>?_
  refine A 4 ?_;refine cD r ?_ ?_
  ·refine A 4 ?_;refine bD λp bf=>?_
   refine A 2 ?_;refine bS ([(OP.mk 16 o p.1 0 0)]:List OP) Ph r r r (by simp) r r r<|?_
   refine A 10 ?_;exact xL (s:=(p.2.list,p.2.at_,z++([(OP.mk 16 o p.1 0 0)]:List OP),i64.wrap (o+1))) (_,_,_,_) ((hX))
  ·refine A 8 ?_;exact xL (s:=(af.2.list,af.2.at_,z,i64.wrap (o+1))) (_,_,_,_) ((hX))
 ·refine A 11 ?_;refine bD λaa bg=>?_
  refine A 5 ?_;refine lP (E:=λ(s:(List Int)×Int×(List OP)×(List Pa)×Int) (g:Nat×Nat×Nat)=>[(0,.optr 8192 0 0 0),(1,Av k),(2,.sl (m.map Le)),(8,.optr 8 g.1 0 0),(9,.optr 9 g.2.1 0 0),(10,.osl 10 g.2.2 0 s.2.2.1.length),(12,Av s.2.2.2.2)]) (O:=λs g=>[(8,dV g.1 3 36 (.agg [Av 0,.nils,.nils])),(9,dV g.2.1 3 36 (.agg [Av c,.sl (s.2.2.2.1.map Pm),.nils])),(10,dW g.2.2 5 63 (s.2.2.1.map Ph)),(8192,dV 0 2 69 (.agg [.sl (s.1.map eU8),Av s.2.1]))]) (body:=λs=>XQ c k m s.1 s.2.1 s.2.2.1 s.2.2.2.1 s.2.2.2.2) (s:=(aa.2.list,aa.2.at_,z,h.1,aa.1)) (_,_,_) ((Adz [(21,some (_,⟨true,false,2,60,h.1.map Pm⟩))] ⟨⟨_,_,r,r,r⟩,trivial⟩ ⟨(PL r),(PL r),(PL r),(PL r),(PL r),(PL r),(PL r),trivial⟩ ⟨(.inl r),(.inr ⟨_,_,_,_,r,r,r,r,Adw r ⟨(Xa r),(YW (l:=h.1) (en:=Pm) r r r (by simp)),(Xa r),trivial⟩⟩),(.inl r),(.inl r),trivial⟩))<|?_
  rintro⟨bh,bi,f,d,q⟩ ⟨bj,bk,bl⟩ nn
  try dsimp only
  unfold XQ;refine A 7 ?_;refine cD r ?_ ?_
  ·refine A 11 ?_;refine bD λt bm=>?_
   refine A 8 ?_;refine bD λag bn=>?_
   refine A 10 ?_;refine cD r ?_ ?_
   ·refine A 3 ?_;refine bD λu bo=>?_
    refine A 2 ?_;refine bS ([(OP.mk 21 u.1 (-1) 0 0)]:List OP) Ph r r r (by simp) r r r<|?_
    refine A 11 ?_;exact xL (s:=(u.2.list,u.2.at_,(f++t.1)++([(OP.mk 21 u.1 (-1) 0 0)]:List OP),d,i64.wrap (q-1))) (_,_,_) ((hX))
   ·refine A 6 ?_;refine cD r ?_ ?_
    ·refine A 3 ?_;refine bD λv bp=>?_
     refine A 4 ?_;refine cD r ?_ ?_
     ·refine A 3 ?_;refine bS ([(OP.mk 20 (-1) 0 0 0)]:List OP) Ph r r r (by simp) r r r<|?_
      refine A 11 ?_;exact xL (s:=(v.2.list,v.2.at_,(f++t.1)++([(OP.mk 20 (-1) 0 0 0)]:List OP),d,i64.wrap (q-1))) (_,_,_) ((hX))
     ·refine A 9 ?_;exact xL (s:=(v.2.list,v.2.at_,f++t.1,d,i64.wrap (q-1))) (_,_,_) ((hX))
    ·refine A 9 ?_;exact xL (s:=(ag.2.list,ag.2.at_,f++t.1,d,i64.wrap (q-1))) (_,_,_) ((hX))
  ·refine A 12 ?_;refine sC (E:=λ(_s:(List Int)×Int×Int×Int) (g:Nat×Nat×Nat×Nat)=>[(0,.optr 8192 0 0 0),(8,.optr 8 g.1 0 0),(9,.optr 9 g.2.1 0 0),(10,.osl 10 g.2.2.1 0 f.length),(13,.optr 13 g.2.2.2 0 0)]) (O:=λs g=>[(8,dV g.1 3 36 (.agg [Av 0,.nils,.nils])),(9,dV g.2.1 3 36 (.agg [Av c,.sl (d.map Pm),.nils])),(10,dW g.2.2.1 5 63 (f.map Ph)),(13,dV g.2.2.2 5 63 (.agg [Av s.2.2.1,Av 0,Av 0,Av 0,AkM s.2.2.2])),(8192,dV 0 2 69 (.agg [.sl (s.1.map eU8),Av s.2.1]))]) (j:=λs=>RF f c d s.1 s.2.1 s.2.2.1 s.2.2.2) ?_ ?_
   ·refine A 3 ?_;refine bD λah bq=>?_
    refine A 4 ?_;refine cD r ?_ ?_
    ·refine A 2 ?_;refine bD λab br=>?_
     refine A 4 ?_;exact xC (s:=(ab.2.list,ab.2.at_,24,ab.1)) (_,_,_,_) ((hX))
    ·refine A 1 ?_;exact xC (s:=(ah.2.list,ah.2.at_,23,0)) (_,_,_,_) ((hX))
   ·rintro⟨ai,aj,ac,ad⟩ ⟨bs,bt,bu,bv⟩ nn
    try dsimp only
    unfold RF;refine A 4 ?_;refine bS ([(OP.mk ac 0 0 0 ad)]:List OP) Ph r r r (by simp) r r r<|cK λhq=>aP (f) (([(OP.mk ac 0 0 0 ad)]:List OP)) Ph r r r r r r r (by simp) (SP _ _ r) r r (by simp) (QO _ _ r) (λ_=>r) r hq<|?_
    refine A 10 ?_;refine lP (E:=λ(s:(List Int)×Int×(List OP)×Int) (g:Nat×Nat×Nat)=>[(0,.optr 8192 0 0 0),(8,.optr 8 g.1 0 0),(9,.optr 9 g.2.1 0 0),(10,.osl 10 g.2.2 0 s.2.2.1.length),(14,Av s.2.2.2)]) (O:=λs g=>[(8,dV g.1 3 36 (.agg [Av 0,.nils,.nils])),(9,dV g.2.1 3 36 (.agg [Av c,.sl (d.map Pm),.nils])),(10,dW g.2.2 5 63 (s.2.2.1.map Ph)),(8192,dV 0 2 69 (.agg [.sl (s.1.map eU8),Av s.2.1]))]) (body:=λs=>Ut c d s.1 s.2.1 s.2.2.1 s.2.2.2) (s:=(ai,aj,f++([(OP.mk ac 0 0 0 ad)]:List OP),0)) (_,_,_) ((hX))<|?_
    rintro⟨ak,ao,a,i⟩ ⟨bw,bx,bz⟩ nn
    try dsimp only
    unfold Ut;refine A 9 ?_;refine cD r ?_ ?_
    ·refine A 8 ?_;refine bD λe ca=>?_
     refine A 6 ?_;refine sC (E:=λ(s:Int) (g:Nat×Nat×Nat)=>[(0,.optr 8192 0 0 0),(8,.optr 8 g.1 0 0),(9,.optr 9 g.2.1 0 0),(10,.osl 10 g.2.2 0 a.length),(14,Av i),(15,Av s)]) (O:=λ_ g=>[(8,dV g.1 3 36 (.agg [Av 0,.nils,.nils])),(9,dV g.2.1 3 36 (.agg [Av c,.sl (d.map Pm),.nils])),(10,dW g.2.2 5 63 (a.map Ph)),(8192,dV 0 2 69 (.agg [.sl (e.2.list.map eU8),Av e.2.at_]))]) (j:=λs=>QJ i a e s) ?_ ?_
     ·refine A 5 ?_;refine Pj r ?_ ?_
      ·refine A 14 ?_;exact xC (s:=i64.wrap ((a.length:Int)-1)) (_,_,_) ((hX))
      ·refine A 7 ?_;refine cD r ?_ ?_
       ·refine A 6 ?_;exact xC (s:=i64.wrap ((a.length:Int)-1)) (_,_,_) ((hX))
       ·refine A 1 ?_;exact xC (s:=i64.wrap ((i64.wrap (i+e.1))-2)) (_,_,_) ((hX))
     ·rintro w ⟨cb,cc,cd⟩ nn
      try dsimp only
      unfold QJ;refine A 1 ?_;refine sC (E:=λ(s:Bool) (g:Nat×Nat×Nat)=>[(0,.optr 8192 0 0 0),(8,.optr 8 g.1 0 0),(9,.optr 9 g.2.1 0 0),(10,.osl 10 g.2.2 0 a.length),(14,Av i),(15,Av w),(107,.bool s)]) (O:=λ_ g=>[(8,dV g.1 3 36 (.agg [Av 0,.nils,.nils])),(9,dV g.2.1 3 36 (.agg [Av c,.sl (d.map Pm),.nils])),(10,dW g.2.2 5 63 (a.map Ph)),(8192,dV 0 2 69 (.agg [.sl (e.2.list.map eU8),Av e.2.at_]))]) (j:=λs=>SW i a e w s) ?_ ?_
      ·refine A 5 ?_;refine bD λce cf=>?_
       refine A 3 ?_;refine Pj r ?_ ?_
       ·refine A 4 ?_;refine bD λap cg=>?_
        refine A 5 ?_;exact xC (s:=(decide (ap.A<0))) (_,_,_) ((hX))
       ·refine A 9 ?_;exact xC (s:=false) (_,_,_) ((hX))
      ·rintro ch ⟨ci,cj,ck⟩ nn
       try dsimp only
       unfold SW;refine cD r ?_ ?_
       ·refine A 6 ?_;refine bD λx aq=>sE (l:=a) (en:=Ph) (q':=(OP.mk x.Op w x.B x.C x.Imm)) r r r r r r r (by simp) aq r r r r r<|?_
        exact B
       ·refine A 6 ?_;refine bD λcl cm=>?_
        refine A 3 ?_;refine Pj r ?_ ?_
        ·refine A 4 ?_;refine bD λcn co=>?_
         refine A 6 ?_;refine cD r ?_ ?_
         ·refine A 6 ?_;refine bD λy ar=>sE (l:=a) (en:=Ph) (q':=(OP.mk y.Op y.A w y.C y.Imm)) r r r r r r r (by simp) ar r r r r r<|?_
          exact B
         ·refine A 9 ?_;exact xL (s:=(e.2.list,e.2.at_,a,i64.wrap (i+1))) (_,_,_) ((hX))
        ·refine A 20 ?_;exact xL (s:=(e.2.list,e.2.at_,a,i64.wrap (i+1))) (_,_,_) ((hX))
    ·refine A 19 ?_;refine Aeg (b:=((Mk.mk c d a),(OV.mk ak ao))) r ?_ r r ?_ (by first|rfl|(simp only[Lo];rfl)|(simp only[OQ];rfl)|(simp only[Lo,OQ];rfl)|(simp[AdW,Pf];try rfl))
     all_goals first|(simp;done)|(simp;omega)|rfl|(simp[Qr,Qm];done)

end
end Go.Proofs.YtilmapojncgflaaGreatDoor
