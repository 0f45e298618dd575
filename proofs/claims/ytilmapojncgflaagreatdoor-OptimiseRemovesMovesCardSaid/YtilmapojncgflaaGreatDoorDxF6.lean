/-
  Programs on typed data, and the proofs that the code does what they say; written by a program (dx.py).
-/
import Derived.Test.YtilmapojncgflaaGreatDoorProg
import Derived.Test.YtilmapojncgflaaGreatDoorDd
import Derived.KernelRfl
import Derived.Test.YtilmapojncgflaaGreatDoorSh
import Derived.Test.YtilmapojncgflaaGreatDoorCl
import Derived.Test.YtilmapojncgflaaGreatDoorDxP
import Derived.Test.YtilmapojncgflaaGreatDoorDxF1
import Derived.Test.YtilmapojncgflaaGreatDoorDxF2
import Derived.Test.YtilmapojncgflaaGreatDoorDxF3
import Derived.Test.YtilmapojncgflaaGreatDoorDxF4
import Derived.Test.YtilmapojncgflaaGreatDoorDxF5
open List renaming take_of_length_le->aAA
open Nat renaming min->aA
namespace Go.Proofs.YtilmapojncgflaaGreatDoor
open Go Go.Dw Go.Proofs
open Go.IntKind (i64)
set_option maxRecDepth 100000
set_option maxHeartbeats 40000000
open Go.Dw renaming Rv -> bD,AfI -> bS,AdA -> cD,Afa -> xC,Abp -> xL,Afb -> lP,AcG -> sC,Ahp -> bC,Ahn -> mF,rf -> r
noncomputable section
def ZQ (a:(List Pa)×(List (List Int))×Int):List D:=[.sl (a.1.map Pt),.sl (a.2.1.map (eL Le)),Av a.2.2]
def ZP (ds:List D):(List Pa)×(List (List Int))×Int:=((uL UJ) (ds.getD 0 .top),(uL (uL uI)) (ds.getD 1 .top),uI (ds.getD 2 .top))
instance:PD ZQ ZP:=⟨λa=>by simp[ZP,ZQ,uI,Qo (u:=UJ) (en:=Pt) AbI,Qo (u:=(uL uI)) (en:=(eL Le)) (Qo (u:=uI) (en:=Le) (λ_=>rfl))]⟩
def Ali (b:(List Int)×Int):D:=.tup [.sl (b.1.map Le),Av b.2]
def AfN:Dw.Spec:=Pd [] .val ZQ ZP (λa=>VB a.1 a.2.1 a.2.2) Ali noE
theorem Akr:Pb Tryz.prog 66 AfN:=by
 refine fn2 3 (Pg (l:=[(120,Adj),(121,AeD),(122,AgS),(123,AeA),(124,AiS)]) (by simp[AfS,AiW,Alj,AiN,AmL])) Tryz.func66<|?_
 rintro⟨a,d,c⟩;unfold VB;refine A 10 ?_;refine bD λq t=>?_
 refine A 10 ?_;refine cD r ?_ ?_
 ·exact B
 ·refine A 2 ?_;refine sC (E:=λ(_s:Unit) (_g:Unit)=>[(0,.sl (a.map Pt)),(1,.sl (d.map (eL Le))),(2,Av c)]) (O:=λ_ _=>[]) (j:=λ_=>AaS a d c) ?_ ?_
  ·refine A 5 ?_;refine bD λu v=>?_
   refine A 3 ?_;refine PM r ?_ ?_
   ·exact B
   ·refine A 4 ?_;refine PM r ?_ ?_
    ·exact B
    ·refine A 5 ?_;refine cD r ?_ ?_
     ·exact B
     ·refine A 1 ?_;exact xC (s:=()) () ((hX))
  ·rintro⟨⟩ ⟨⟩ nn
   try dsimp only
   unfold AaS;refine A 16 ?_;refine bD λb w=>?_
   refine A 6 ?_;refine lP (E:=λ(s:(List Bool)×(List Int)×Int) (g:Nat×Nat×Nat)=>[(0,.sl (a.map Pt)),(1,.sl (d.map (eL Le))),(2,Av c),(9,.osl 9 g.1 0 s.2.1.length),(10,.osl 10 g.2.1 0 s.1.length),(43,.osl 43 g.2.2 0 b.length),(44,Av (b.length:Int)),(45,Av s.2.2)]) (O:=λs g=>[(9,dW g.1 1 3 (s.2.1.map Le)),(10,dW g.2.1 1 4 (s.1.map D.bool)),(43,dW g.2.2 1 3 (b.map Le))]) (body:=λs=>XA b d a c s.1 s.2.1 s.2.2) (s:=(List.replicate (a.length:Int).toNat false,List.replicate (a.length:Int).toNat (0:Int),0)) (_,_,_) ((hX))<|?_
   rintro⟨e,f,i⟩ ⟨x,y,z⟩ nn
   try dsimp only
   unfold XA;refine A 6 ?_;refine cD r ?_ ?_
   ·refine A 7 ?_;refine bD λk aa=>?_
    refine A 14 ?_;refine bD λh ab=>?_
    refine A 7 ?_;refine lP (E:=λ(s:(List OY)×Int) (g:Nat×Nat×Nat×Nat)=>[(0,.sl (a.map Pt)),(1,.sl (d.map (eL Le))),(2,Av c),(9,.osl 9 g.1 0 f.length),(10,.osl 10 g.2.1 0 e.length),(12,Av k),(13,.osl 13 g.2.2.1 0 s.1.length),(43,.osl 43 g.2.2.2 0 b.length),(44,Av (b.length:Int)),(45,Av i),(52,.sl (h.map Le)),(53,Av (h.length:Int)),(54,Av s.2)]) (O:=λs g=>[(9,dW g.1 1 3 (f.map Le)),(10,dW g.2.1 1 4 (e.map D.bool)),(13,dW g.2.2.1 2 121 (s.1.map PH)),(43,dW g.2.2.2 1 3 (b.map Le))]) (body:=λs=>XB h e a f k c i s.1 s.2) (s:=(([]:List OY),0)) (_,_,_,_) ((hX))<|?_
    rintro⟨m,o⟩ ⟨ac,ad,ae,af⟩ nn
    try dsimp only
    unfold XB;refine A 6 ?_;refine cD r ?_ ?_
    ·refine A 6 ?_;refine bD λag ah=>?_
     refine A 10 ?_;refine bD λai aj=>?_
     refine A 3 ?_;refine cD r ?_ ?_
     ·refine A 5 ?_;refine bD λp ak=>?_
      refine A 1 ?_;refine bS ([p]:List OY) PH r r r (by simp) r r r<|?_
      refine A 9 ?_;exact xL (s:=(m++([p]:List OY),i64.wrap (o+1))) (_,_,_,_) ((hX))
     ·refine A 7 ?_;exact xL (s:=(m,i64.wrap (o+1))) (_,_,_,_) ((hX))
    ·exact B
   ·exact B

def AgV:Dw.Spec:=Pd [] .ground Vb Va (λa=>WY a) Pf noE
theorem Alp:Pb Tryz.prog 128 AgV:=by
 refine fn2 1 (Pg (l:=[(120,Adj)]) (by simp[AfS])) Tryz.func128<|?_
 intro a;unfold WY;refine A 14 ?_;refine bD λe f=>?_
 refine A 4 ?_;refine cD r ?_ ?_
 ·refine A 8 ?_;refine lP (E:=λ(s:Int×Int) (_g:Unit)=>[(3,Av s.2),(9,.sl (a.map Pt)),(10,Av (a.length:Int)),(11,Av s.1)]) (O:=λ_ _=>[]) (body:=λs=>VK a s.1 s.2) (s:=(0,16)) () ((hX))<|?_
  rintro⟨b,c⟩ ⟨⟩ nn
  try dsimp only
  unfold VK;refine A 6 ?_;refine cD r ?_ ?_
  ·refine A 6 ?_;refine bD λd g=>?_
   refine A 19 ?_;exact xL (s:=(i64.wrap (b+1),PF c d.Align)) () ((hX))
  ·exact B
 ·exact B

def Aey (a:Pr):List D:=[YQ a]
def Aex (ds:List D):Pr:=AdB (ds.getD 0 .top)
instance:PD Aey Aex:=⟨λa=>by simp[Aex,Aey]⟩
def Akm:Dw.Spec:=Pd [] .ground Aey Aex (λa=>AbG a) Pf noE
theorem Aoo:Pb Tryz.prog 69 Akm:=by
 refine fn2 1 (Pg (l:=[(128,AgV)]) (by simp[Alp])) Tryz.func69<|?_
 intro a;unfold AbG;refine A 21 ?_;refine lP (E:=λ(s:Int×Int) (_g:Unit)=>[(3,Av s.1),(7,.sl (a.Funcs.map Pl)),(8,Av (a.Funcs.length:Int)),(9,Av s.2)]) (O:=λ_ _=>[]) (body:=λs=>AcC a s.1 s.2) (s:=(16,0)) () ((hX))<|?_
 rintro⟨b,c⟩ ⟨⟩ nn
 try dsimp only
 unfold AcC;refine A 6 ?_;refine cD r ?_ ?_
 ·refine A 6 ?_;refine bD λe f=>?_
  refine A 10 ?_;refine bD λd g=>?_
  refine A 10 ?_;exact xL (s:=(PF b d,i64.wrap (c+1))) () ((hX))
 ·exact B

def ZX (a:OY×Int):List D:=[PH a.1,Av a.2]
def ZW (ds:List D):OY×Int:=(Uf (ds.getD 0 .top),uI (ds.getD 1 .top))
instance:PD ZX ZW:=⟨λa=>by simp[ZW,ZX,uI]⟩
def AfR:Dw.Spec:=Pd [] .ground ZX ZW (λa=>AaE a.1 a.2) Pm noE
theorem AkA:Pb Tryz.prog 125 AfR:=by
 refine fn2 2 (Pg (l:=[(169,Adk)]) (by simp[AfT])) Tryz.func125<|?_
 intro a;unfold AaE;exact B

def Ade (a:(List Pa)×(List Int)):List D:=[.sl (a.1.map Pt),.sl (a.2.map Le)]
def Adc (ds:List D):(List Pa)×(List Int):=((uL UJ) (ds.getD 0 .top),(uL uI) (ds.getD 1 .top))
instance:PD Ade Adc:=⟨λa=>by simp[Adc,Ade,Qo (u:=UJ) (en:=Pt) AbI,Qo (u:=uI) (en:=Le) (λ_=>rfl)]⟩
def AiJ:Dw.Spec:=Pd [] .ground Ade Adc (λa=>Zs a.1 a.2) Pf noE
theorem AmJ:Pb Tryz.prog 127 AiJ:=by
 refine fn2 2 (Px) Tryz.func127<|?_;rintro⟨a,b⟩;unfold Zs;refine A 19 ?_;refine lP (E:=λ(s:Int×Int) (_g:Unit)=>[(0,.sl (a.map Pt)),(1,.sl (b.map Le)),(5,Av s.1),(8,Av (a.length:Int)),(9,Av s.2)]) (O:=λ_ _=>[]) (body:=λs=>Aay a b s.1 s.2) (s:=(0,0)) () ((hX))<|?_
 rintro⟨c,d⟩ ⟨⟩ nn
 try dsimp only
 unfold Aay;refine A 6 ?_;refine cD r ?_ ?_
 ·refine A 14 ?_;refine bD λe g=>?_
  refine A 4 ?_;refine bD λf h=>?_
  refine A 13 ?_;exact xL (s:=(PF c (i64.wrap (e+f.Size)),i64.wrap (d+1))) () ((hX))
 ·exact B

def Aba:Dw.Spec:=Pd [] .ground Qh Qg (λa=>UO a) Aca noE
theorem AeB:Pb Tryz.prog 201 Aba:=by
 refine fn2 1 (Px) Tryz.func201<|?_;intro a;unfold UO;exact B

def Akc:Dw.Spec:=Pd [] .ground SM SL (λa=>AdW a.1 a.2) Aca noE
theorem AnK:Pb Tryz.prog 175 Akc:=by
 refine fn2 2 (Pg (l:=[(166,Xb),(158,Zv),(173,Agx),(201,Aba)]) (by simp[YC,Acd,AiT,AeB])) Tryz.func175<|?_
 rintro⟨a,b⟩;unfold AdW;refine A 6 ?_;refine sC (E:=λ(_s:Unit) (_g:Unit)=>[(0,Av a),(1,Av b)]) (O:=λ_ _=>[]) (j:=λ_=>Ace a b) ?_ ?_
 ·refine A 3 ?_;refine bD λc d=>?_
  refine A 3 ?_;refine PM r ?_ ?_
  ·exact B
  ·refine A 1 ?_;refine bD λe f=>?_
   refine A 5 ?_;refine cD r ?_ ?_
   ·exact B
   ·refine A 1 ?_;exact xC (s:=()) () ((hX))
 ·rintro⟨⟩ ⟨⟩ nn
  try dsimp only
  unfold Ace;exact B

def AiR:Dw.Spec:=Pd [] .ground SM SL (λa=>AbY a.1 a.2) Aca noE
theorem AmK:Pb Tryz.prog 176 AiR:=by
 refine fn2 2 (Pg (l:=[(166,Xb),(201,Aba)]) (by simp[YC,AeB])) Tryz.func176<|?_
 rintro⟨a,b⟩;unfold AbY;refine A 6 ?_;refine sC (E:=λ(_s:Unit) (_g:Unit)=>[(0,Av a),(1,Av b)]) (O:=λ_ _=>[]) (j:=λ_=>Aaz a b) ?_ ?_
 ·refine A 3 ?_;refine bD λc d=>?_
  refine A 3 ?_;refine PM r ?_ ?_
  ·exact B
  ·refine A 1 ?_;refine bD λe f=>?_
   refine A 5 ?_;refine cD r ?_ ?_
   ·exact B
   ·refine A 1 ?_;exact xC (s:=()) () ((hX))
 ·rintro⟨⟩ ⟨⟩ nn
  try dsimp only
  unfold Aaz;exact B

def Adq (a:Qe×Int×Int):List D:=[Aby a.1,Av a.2.1,Av a.2.2]
def Adp (ds:List D):Qe×Int×Int:=(Amj (ds.getD 0 .top),uI (ds.getD 1 .top),uI (ds.getD 2 .top))
instance:PD Adq Adp:=⟨λa=>by simp[Adp,Adq,uI]⟩
def AfB (b:Qe×Int):D:=.tup [Aby b.1,Av b.2]
def Ajh:Dw.Spec:=Pd [] .val Adq Adp (λa=>AeN a.1 a.2.1 a.2.2) AfB noE
theorem AmN:Pb Tryz.prog 126 Ajh:=by
 refine fn2 3 (Pg (l:=[(175,Akc),(176,AiR)]) (by simp[AnK,AmK])) Tryz.func126<|?_
 rintro⟨c,e,f⟩;unfold AeN;refine A 11 ?_;refine bD λa h=>?_
 refine A 8 ?_;refine sC (E:=λ(s:Int) (g:Nat×Nat)=>[(3,.optr 3 g.1 0 0),(6,.optr 6 g.2 0 0),(8,Av a.1),(9,Av s)]) (O:=λ_ g=>[(3,dV g.1 3 46 (Aby c)),(6,dV g.2 3 46 (.agg [Av 0,Av 0,.nils]))]) (j:=λs=>XX c a s) ?_ ?_
 ·refine A 6 ?_;refine cD r ?_ ?_
  ·refine A 2 ?_;refine bD λd i=>?_
   refine A 6 ?_;exact xC (s:=d.2) (_,_) ((hX))
  ·refine A 1 ?_;exact xC (s:=a.2) (_,_) ((hX))
 ·rintro k ⟨m,o⟩ nn
  try dsimp only
  unfold XX;refine A 7 ?_;refine cD r ?_ ?_
  ·refine A 9 ?_;refine Wp (b:=((Qe.mk 0 0 ([])),9)) r ?_ r r ?_ (by first|rfl|(simp only[Mk];rfl)|(simp only[OV];rfl)|(simp only[Mk,OV];rfl)|(simp[AfB,Aby];try rfl)) (by decide)
   all_goals first|(simp;done)|(simp;omega)|rfl|(simp[QY,QP];done)
  ·exact B

def Acq (a:Pr×Int×Int×(List Int)):List D:=[YQ a.1,Av a.2.1,Av a.2.2.1,.sl (a.2.2.2.map Le)]
def Acp (ds:List D):Pr×Int×Int×(List Int):=(AdB (ds.getD 0 .top),uI (ds.getD 1 .top),uI (ds.getD 2 .top),(uL uI) (ds.getD 3 .top))
instance:PD Acq Acp:=⟨λa=>by simp[Acp,Acq,uI,Qo (u:=uI) (en:=Le) (λ_=>rfl)]⟩
def Aim:Dw.Spec:=Pd [] .val Acq Acp (λa=>Yg a.1 a.2.1 a.2.2.1 a.2.2.2) AfB noE
theorem AlW:Pb Tryz.prog 68 Aim:=by
 refine fn2 4 (Pg (l:=[(125,AfR),(67,AgB),(115,Akq),(127,AiJ),(126,Ajh)]) (by simp[AkA,Ajg,Amm,AmJ,AmN])) Tryz.func68<|?_
 rintro⟨c,d,e,f⟩;unfold Yg;refine A 12 ?_;refine bD λa i=>?_
 refine A 16 ?_;refine cD r ?_ ?_
 ·refine A 9 ?_;refine Wp (b:=((Qe.mk 0 0 ([])),13)) r ?_ r r ?_ (by first|rfl|(simp only[Mk];rfl)|(simp only[OV];rfl)|(simp only[Mk,OV];rfl)|(simp[pack_Finish_R,Aby];try rfl)) (by decide)
  all_goals first|(simp;done)|(simp;omega)|rfl|(simp[QY,QP];done)
 ·refine A 11 ?_;refine lP (E:=λ(s:Int) (g:Nat×Nat)=>[(1,Av d),(2,Av e),(3,.sl (f.map Le)),(4,.optr 4 g.1 0 0),(8,.optr 8 g.2 0 0),(10,.sl (a.Slots.map Pt)),(26,.sl (a.Slots.map Pt)),(27,Av (a.Slots.length:Int)),(28,Av s)]) (O:=λ_ g=>[(4,dV g.1 1 28 (.agg [.sl (c.Funcs.map Pl)])),(8,dV g.2 3 46 (.agg [Av 0,Av 0,.nils]))]) (body:=λs=>ZA a f c d e s) (s:=0) (_,_) ((hX))<|?_
  rintro h ⟨j,k⟩ nn
  try dsimp only
  unfold ZA;refine A 6 ?_;refine cD r ?_ ?_
  ·refine A 7 ?_;refine bD λm o=>?_
   refine A 11 ?_;refine bD λp q=>?_
   refine A 5 ?_;refine bD λt u=>?_
   refine A 4 ?_;refine cD r ?_ ?_
   ·refine A 13 ?_;refine Wp (b:=((Qe.mk 0 0 ([])),13)) r ?_ r r ?_ (by first|rfl|(simp only[Mk];rfl)|(simp only[OV];rfl)|(simp only[Mk,OV];rfl)|(simp[pack_Finish_R,Aby];try rfl)) (by decide)
    all_goals first|(simp;done)|(simp;omega)|rfl|(simp[QY,QP];done)
   ·refine A 7 ?_;exact xL (s:=i64.wrap (h+1)) (_,_) ((hX))
  ·refine A 9 ?_;refine bD λv w=>?_
   refine A 2 ?_;refine bD λx y=>?_
   refine A 13 ?_;refine bD λz aa=>?_
   refine A 1 ?_;refine Asy r r r r<|?_;exact B

def Ahf (b:PC):List D:=[SR b]
def AbF:Dw.Spec:=Pd [(0,(12,75))] .val QW RD (λa=>Vp a) UH Ahf
theorem AgA:Pb Tryz.prog 32 AbF:=by
 refine fn2 1 (Pg (l:=[(12,AfV),(65,AdX),(67,AgB),(66,AfN),(69,Akm),(68,Aim)]) (by simp[AkO,AiB,Ajg,Akr,Aoo,AlW])) Tryz.func32<|?_
 intro a;unfold Vp;refine A 14 ?_;refine bD λc d=>?_
 refine A 16 ?_;refine bD λe g=>?_
 refine A 21 ?_;refine bD λh j=>?_
 refine A 1 ?_;refine bD λk m=>?_
 refine A 15 ?_;refine cD r ?_ ?_
 ·exact B
 ·refine A 13 ?_;refine bD λo q=>?_
  refine A 2 ?_;refine bD λb s=>?_
  refine A 15 ?_;refine cD r ?_ ?_
  ·refine A 6 ?_;refine TS (i:=0) (es':=[.agg [.sl (a.p.Funcs.map Pl),Av a.i,Av a.f.Params,.sl (a.f.Slots.map Pt),.sl (a.f.Code.map Pu),.sl (a.x.Live.Out.map (eL Le)),.sl (a.x.Rename.To.map Le),.sl (a.x.Rename.Keep.map D.bool),.sl (a.x.LiveAfter.Out.map (eL Le)),Av b.1.Args,Av b.1.Size,.sl (b.1.Off.map Le)]]) r r r r r r r (by first|trivial|(simp;done)|(simp;omega)) r r r r r r<|?_
   exact B
  ·exact B

def Aje (b:Rl):D:=AfO b
def Zf:Dw.Spec:=Pd [] .val AaH AaG (λa=>RZ a.1 a.2) Aje noE
theorem AcT:Pb Tryz.prog 14 Zf:=by
 refine fn2 2 (Pg (l:=[(29,Acn),(30,Acm),(31,AbE),(32,AbF)]) (by simp[Ahe,Ahd,Agz,AgA])) Tryz.func14<|?_
 rintro⟨a,b⟩;unfold RZ;refine A 13 ?_;refine bD λc k=>?_
 refine A 11 ?_;refine mF (caps:=[.optr 16 _ 0 0]) r r (by simp[UX])<|?_
 refine A 1 ?_;refine mF (caps:=[.optr 16 _ 0 0]) r r (by simp[UX])<|?_
 refine A 1 ?_;refine mF (caps:=[.optr 16 _ 0 0]) r r (by simp[UX])<|?_
 refine A 1 ?_;refine mF (caps:=[.optr 16 _ 0 0]) r r (by simp[UX])<|Asx r r r r r<|AoX r r<|?_
 refine A 4 ?_;refine Ary 5<|?_;refine A 13 ?_;refine AjH r r r (by decide)<|?_
 refine A 6 ?_;refine bD λd e=>AaM (q:=29) (PC.mk a b c (Rl.mk (Ph.mk ([])) (Pj.mk ([]) ([])) (Ph.mk ([])) (Qe.mk 0 0 ([])))) r r r PD.ok r r (by simp) (by first|rfl|(simp only[Mk];rfl)|(simp only[OV];rfl)|(simp only[Mk,OV];rfl)|simp[QW,SR]) e<|?_
 refine A 7 ?_;refine AdL<|?_;refine A 13 ?_;refine AjH r r r (by decide)<|?_
 refine A 6 ?_;refine bD λf g=>AaM (q:=30) d r r r PD.ok r r (by simp) r g<|?_
 refine A 7 ?_;refine AdL<|?_;refine A 13 ?_;refine AjH r r r (by decide)<|?_
 refine A 6 ?_;refine bD λh i=>AaM (q:=31) f r r r PD.ok r r (by simp) r i<|?_
 refine A 7 ?_;refine AdL<|?_;refine A 13 ?_;refine AjH r r r (by decide)<|?_
 refine A 6 ?_;refine bD λm j=>AaM (q:=32) h r r r PD.ok r r (by simp) r j<|?_
 refine A 7 ?_;refine AdL<|?_;refine A 9 ?_;refine AoZ<|?_;exact B

def Ack (_a:Unit):List D:=[]
def Acj (_ds:List D):Unit:=()
theorem AlT (a:Unit):Acj (Ack a)=a:=rfl
instance:PD Ack Acj:=⟨AlT⟩
def Ail:Dw.Spec:=Pd [] .ground Ack Acj (λ_a=>Aap) Pm noE
theorem AlU:Pb Tryz.prog 7 Ail:=by
 refine fn2 0 (Pg (l:=[(14,Zf)]) (by simp[AcT])) Tryz.func7<|?_
 intro _;unfold Aap;refine A 8 ?_;refine bS ([(OX.mk 23 0 0 0 0)]:List OX) Pu r r r (by simp) r r r<|?_
 refine A 1 ?_;refine bS ([(Lo.mk 0 ([]) ([(OX.mk 23 0 0 0 0)]:List OX))]:List Lo) Pl r r r (by simp) r (by simp[XK,Pl]<;>first|rfl|(rw[aAA (by simp)])) r<|?_
 exact B

def Air:Dw.Spec:=Pd [] .ground VJ VI (λa=>Aas a.1 a.2) Pm noE
theorem Amb:Pb Tryz.prog 74 Air:=by
 refine fn2 2 (Px) Tryz.func74<|?_;rintro⟨a,b⟩;unfold Aas;refine A 17 ?_;refine cD r ?_ ?_
 ·exact B
 ·refine A 9 ?_;refine lP (E:=λ(s:Int) (g:Nat)=>[(1,.sl (b.map Le)),(2,.optr 2 g 0 0),(5,Av s)]) (O:=λ_ g=>[(2,dV g 3 36 (Pl a))]) (body:=λs=>ZC b a s) (s:=0) _ ((hX))<|?_
  rintro c e nn
  try dsimp only
  unfold ZC;refine A 9 ?_;refine cD r ?_ ?_
  ·refine A 8 ?_;refine bD λf h=>?_
   refine A 4 ?_;refine PM r ?_ ?_
   ·exact B
   ·refine A 2 ?_;refine bD λi j=>?_
    refine A 8 ?_;refine cD r ?_ ?_
    ·exact B
    ·refine A 8 ?_;exact xL (s:=i64.wrap (c+1)) _ ((hX))
  ·refine A 12 ?_;refine lP (E:=λ(s:Int) (g:Nat)=>[(1,.sl (b.map Le)),(2,.optr 2 g 0 0),(6,Av s)]) (O:=λ_ g=>[(2,dV g 3 36 (Pl a))]) (body:=λs=>ZD b a s) (s:=0) _ ((hX))<|?_
   rintro d k nn
   try dsimp only
   unfold ZD;refine A 9 ?_;refine cD r ?_ ?_
   ·refine A 10 ?_;refine bD λl m=>?_
    refine A 2 ?_;refine bD λo p=>?_
    refine A 6 ?_;refine bD λq t=>?_
    refine A 5 ?_;refine PM r ?_ ?_
    ·exact B
    ·refine A 3 ?_;refine bD λu v=>?_
     refine A 2 ?_;refine bD λw x=>?_
     refine A 4 ?_;refine bD λy z=>?_
     refine A 6 ?_;refine cD r ?_ ?_
     ·exact B
     ·refine A 8 ?_;exact xL (s:=i64.wrap (d+1)) _ ((hX))
   ·exact B

def Aag:Dw.Spec:=Pd [] .ground Rn Rm (λa=>Sy a) Pm noE
theorem Aed:Pb Tryz.prog 75 Aag:=by
 refine fn2 1 (Px) Tryz.func75<|?_;intro a;unfold Sy;exact B

def Ait:Dw.Spec:=Pd [] .ground RG RF (λa=>Aat a.1 a.2) Pf noE
theorem Amd:Pb Tryz.prog 37 Ait:=by
 refine fn2 2 (Pg (l:=[(74,Air),(75,Aag)]) (by simp[Amb,Aed])) Tryz.func37<|?_
 rintro⟨b,a⟩;unfold Aat;refine A 7 ?_;refine sC (E:=λ(_s:Unit) (g:Nat×Nat)=>[(2,.optr 2 g.1 0 0),(3,.optr 3 g.2 0 0)]) (O:=λ_ g=>[(2,dV g.1 3 36 (Pl b)),(3,dV g.2 2 44 (.agg [.sl (a.To.map Le),.sl (a.Keep.map D.bool)]))]) (j:=λ_=>ZG b a) ?_ ?_
 ·refine A 5 ?_;refine bD λd e=>?_
  refine A 3 ?_;refine PM r ?_ ?_
  ·exact B
  ·refine A 10 ?_;refine cD r ?_ ?_
   ·exact B
   ·refine A 1 ?_;exact xC (s:=()) (_,_) ((hX))
 ·rintro⟨⟩ ⟨f,h⟩ nn
  try dsimp only
  unfold ZG;refine A 7 ?_;refine lP (E:=λ(s:Int) (g:Nat×Nat)=>[(2,.optr 2 g.1 0 0),(3,.optr 3 g.2 0 0),(5,Av s)]) (O:=λ_ g=>[(2,dV g.1 3 36 (Pl b)),(3,dV g.2 2 44 (.agg [.sl (a.To.map Le),.sl (a.Keep.map D.bool)]))]) (body:=λs=>ZF b a s) (s:=0) (_,_) ((hX))<|?_
  rintro c ⟨i,k⟩ nn
  try dsimp only
  unfold ZF;refine A 10 ?_;refine cD r ?_ ?_
  ·refine A 9 ?_;refine bD λm o=>?_
   refine A 4 ?_;refine PM r ?_ ?_
   ·refine A 3 ?_;refine bD λp q=>?_
    refine A 2 ?_;refine bD λt u=>?_
    refine A 5 ?_;refine cD r ?_ ?_
    ·exact B
    ·refine A 8 ?_;exact xL (s:=i64.wrap (c+1)) (_,_) ((hX))
   ·refine A 19 ?_;exact xL (s:=i64.wrap (c+1)) (_,_) ((hX))
  ·exact B

def Aai (a:Int×(List Int)):List D:=[Av a.1,.sl (a.2.map Le)]
def Aah (ds:List D):Int×(List Int):=(uI (ds.getD 0 .top),(uL uI) (ds.getD 1 .top))
instance:PD Aai Aah:=⟨λa=>by simp[Aah,Aai,uI,Qo (u:=uI) (en:=Le) (λ_=>rfl)]⟩
def AfX:Dw.Spec:=Pd [] .ground Aai Aah (λa=>Tv a.1 a.2) Pf noE
theorem AkQ:Pb Tryz.prog 80 AfX:=by
 refine fn2 2 (Px) Tryz.func80<|?_;intro a;unfold Tv;exact B

def Acs:Dw.Spec:=Pd [] .ground XU XT (λa=>VD a.1 a.2) Afr noE
theorem AfD:Pb Tryz.prog 42 Acs:=by
 refine fn2 2 (Pg (l:=[(80,AfX)]) (by simp[AkQ])) Tryz.func42<|?_
 intro a;unfold VD;exact B

def Ajo:Dw.Spec:=Pd [] (.row 1 3) Rn Rm (λa=>UI a) PX noE
theorem AmP:Pb Tryz.prog 77 Ajo:=by
 refine fn2 1 (Px) Tryz.func77<|?_;intro a;unfold UI;exact B

def Ajn:Dw.Spec:=Pd [] .ground Qh Qg (λa=>VX a) Pm noE
theorem AmO:Pb Tryz.prog 133 Ajn:=by
 refine fn2 1 (Px) Tryz.func133<|?_;intro a;unfold VX;exact B

def AgD:Dw.Spec:=Pd [] (.row 1 3) QG QF (λa=>VU a.1 a.2) PX noE
theorem Ajm:Pb Tryz.prog 79 AgD:=by
 refine fn2 2 (Pg (l:=[(133,Ajn)]) (by simp[AmO])) Tryz.func79<|?_
 rintro⟨b,a⟩;unfold VU;refine A 13 ?_;refine bD λf o=>?_
 refine A 12 ?_;refine lP (E:=λ(s:(List Int)×Bool×Int) (g:Nat)=>[(0,.sl (b.map Le)),(1,Av a),(5,.osl 5 g 0 s.1.length),(6,.bool s.2.1),(7,Av s.2.2)]) (O:=λs g=>[(5,dW g 1 3 (s.1.map Le))]) (body:=λs=>Sa b a s.1 s.2.1 s.2.2) (s:=(([]:List Int),(!f),0)) _ ((hX))<|?_
 rintro⟨c,e,d⟩ p nn
 try dsimp only
 unfold Sa;refine A 9 ?_;refine cD r ?_ ?_
 ·refine A 4 ?_;refine sC (E:=λ(s:(List Int)×Bool) (g:Nat)=>[(0,.sl (b.map Le)),(1,Av a),(5,.osl 5 g 0 s.1.length),(6,.bool s.2),(7,Av d)]) (O:=λs g=>[(5,dW g 1 3 (s.1.map Le))]) (j:=λs=>Tj b d s.1 s.2) ?_ ?_
  ·refine sC (E:=λ(s:Bool) (g:Nat)=>[(0,.sl (b.map Le)),(1,Av a),(5,.osl 5 g 0 c.length),(6,.bool e),(7,Av d),(26,.bool s)]) (O:=λ_ g=>[(5,dW g 1 3 (c.map Le))]) (j:=λs=>Uc b d a c e s) ?_ ?_
   ·refine A 4 ?_;refine PM r ?_ ?_
    ·refine A 2 ?_;refine bD λh q=>?_
     refine A 6 ?_;exact xC (s:=(decide (h>=a))) _ ((hX))
    ·refine A 8 ?_;exact xC (s:=false) _ ((hX))
   ·rintro t u nn
    try dsimp only
    unfold Uc;refine cD r ?_ ?_
    ·refine A 5 ?_;refine bD λv w=>?_
     refine A 6 ?_;refine cD r ?_ ?_
     ·refine A 11 ?_;exact xC (s:=(c++([a]:List Int),true)) _ ((hX))
     ·refine A 5 ?_;exact xC (s:=(c,true)) _ ((hX))
    ·refine A 1 ?_;exact xC (s:=(c,e)) _ ((hX))
  ·rintro⟨i,k⟩ x nn
   try dsimp only
   unfold Tj;refine A 4 ?_;refine bD λm y=>?_
   refine A 13 ?_;exact xL (s:=(i++([m]:List Int),k,i64.wrap (d+1))) _ ((hX))
 ·exact B

def Aio:Dw.Spec:=Pd [] (.row 1 3) TG TF (λa=>TQ a.1 a.2) PX noE
theorem AlX:Pb Tryz.prog 76 Aio:=by
 refine fn2 2 (Pg (l:=[(79,AgD)]) (by simp[Ajm])) Tryz.func76<|?_
 rintro⟨b,a⟩;unfold TQ;refine A 19 ?_;refine lP (E:=λ(s:(List Int)×Int) (g:Nat)=>[(1,.sl (a.map Le)),(5,.osl 5 g 0 s.1.length),(6,Av s.2)]) (O:=λs g=>[(5,dW g 1 3 (s.1.map Le))]) (body:=λs=>UR a s.1 s.2) (s:=(([]:List Int)++b,0)) _ ((hX))<|?_
 rintro⟨e,c⟩ f nn
 try dsimp only
 unfold UR;refine A 9 ?_;refine cD r ?_ ?_
 ·refine A 8 ?_;refine bD λh i=>?_
  refine A 2 ?_;refine bD λd j=>?_
  refine A 10 ?_;exact xL (s:=(d,i64.wrap (c+1))) _ ((hX))
 ·exact B

def AfW:Dw.Spec:=Pd [] .ground Rn Rm (λa=>SJ a) AaZ noE
theorem AkP:Pb Tryz.prog 78 AfW:=by
 refine fn2 1 (Pg (l:=[(75,Aag)]) (by simp[Aed])) Tryz.func78<|?_
 intro a;unfold SJ;exact B

def Ajp:Dw.Spec:=Pd [] (.row 1 3) RG RF (λa=>ZH a.1 a.2) PX noE
theorem AmR:Pb Tryz.prog 38 Ajp:=by
 refine fn2 2 (Pg (l:=[(42,Acs),(77,Ajo),(76,Aio),(78,AfW),(79,AgD)]) (by simp[AfD,AmP,AlX,AkP,Ajm])) Tryz.func38<|?_
 rintro⟨c,a⟩;unfold ZH;refine A 19 ?_;refine lP (E:=λ(s:(List Int)×Int) (g:Nat×Nat×Nat)=>[(2,.optr 2 g.1 0 0),(3,.optr 3 g.2.1 0 0),(5,.osl 5 g.2.2 0 s.1.length),(6,Av s.2)]) (O:=λs g=>[(2,dV g.1 3 36 (Pl c)),(3,dV g.2.1 2 44 (.agg [.sl (a.To.map Le),.sl (a.Keep.map D.bool)])),(5,dW g.2.2 1 3 (s.1.map Le))]) (body:=λs=>AaK c a s.1 s.2) (s:=(([]:List Int),0)) (_,_,_) ((hX))<|?_
 rintro⟨d,b⟩ ⟨h,i,k⟩ nn
 try dsimp only
 unfold AaK;refine sC (E:=λ(_s:Unit) (g:Nat×Nat×Nat)=>[(2,.optr 2 g.1 0 0),(3,.optr 3 g.2.1 0 0),(5,.osl 5 g.2.2 0 d.length),(6,Av b),(16,Av b),(17,.optr 3 g.2.1 0 1),(18,.sl (a.Keep.map D.bool)),(19,Av (a.Keep.length:Int)),(20,.bool (decide (b<(a.Keep.length:Int))))]) (O:=λ_ g=>[(2,dV g.1 3 36 (Pl c)),(3,dV g.2.1 2 44 (.agg [.sl (a.To.map Le),.sl (a.Keep.map D.bool)])),(5,dW g.2.2 1 3 (d.map Le))]) (j:=λ_=>XZ a b d c) ?_ ?_
 ·refine A 8 ?_;refine PM r ?_ ?_
  ·refine A 8 ?_;refine cD r ?_ ?_
   ·refine A 1 ?_;exact xC (s:=()) (_,_,_) ((hX))
   ·exact B
  ·exact B
 ·rintro⟨⟩ ⟨m,o,p⟩ nn
  try dsimp only
  unfold XZ;refine A 8 ?_;refine bD λq t=>?_
  refine A 5 ?_;refine cD r ?_ ?_
  ·refine A 9 ?_;exact xL (s:=(d,i64.wrap (b+1))) (_,_,_) ((hX))
  ·refine A 7 ?_;refine bD λu v=>?_
   refine A 4 ?_;refine bD λw x=>?_
   refine A 9 ?_;refine bD λy z=>?_
   refine A 1 ?_;refine bD λe aa=>?_
   refine A 7 ?_;refine bD λab ac=>?_
   refine A 13 ?_;refine cD r ?_ ?_
   ·refine A 3 ?_;refine bD λf ad=>?_
    refine A 10 ?_;exact xL (s:=(f,i64.wrap (b+1))) (_,_,_) ((hX))
   ·refine A 8 ?_;exact xL (s:=(e,i64.wrap (b+1))) (_,_,_) ((hX))

def AfY:Dw.Spec:=Pd [] (.row 1 3) QG QF (λa=>VE a.1 a.2) PX noE
theorem AkR:Pb Tryz.prog 39 AfY:=by
 refine fn2 2 (Px) Tryz.func39<|?_;rintro⟨b,c⟩;unfold VE;refine A 17 ?_;refine lP (E:=λ(s:(List Int)×Int) (g:Nat)=>[(0,.sl (b.map Le)),(1,Av c),(5,.osl 5 g 0 s.1.length),(6,Av s.2)]) (O:=λs g=>[(5,dW g 1 3 (s.1.map Le))]) (body:=λs=>Abf b c s.1 s.2) (s:=(([]:List Int),0)) _ ((hX))<|?_
 rintro⟨d,a⟩ e nn
 try dsimp only
 unfold Abf;refine A 9 ?_;refine cD r ?_ ?_
 ·refine A 8 ?_;refine bD λf h=>?_
  refine A 6 ?_;refine cD r ?_ ?_
  ·refine A 14 ?_;exact xL (s:=(d++([a]:List Int),i64.wrap (a+1))) _ ((hX))
  ·refine A 8 ?_;exact xL (s:=(d,i64.wrap (a+1))) _ ((hX))
 ·exact B

def Aak (a:Pj×(List Int)):List D:=[AeU a.1,.sl (a.2.map Le)]
def Aaj (ds:List D):Pj×(List Int):=(Afc (ds.getD 0 .top),(uL uI) (ds.getD 1 .top))
instance:PD Aak Aaj:=⟨λa=>by simp[Aaj,Aak,Qo (u:=uI) (en:=Le) (λ_=>rfl)]⟩
def AfZ:Dw.Spec:=Pd [] (.row 1 3) Aak Aaj (λa=>Ya a.1 a.2) PX noE
theorem AkS:Pb Tryz.prog 40 AfZ:=by
 refine fn2 2 (Px) Tryz.func40<|?_;rintro⟨a,b⟩;unfold Ya;refine A 18 ?_;refine lP (E:=λ(s:(List Int)×Int) (g:Nat×Nat)=>[(1,.sl (b.map Le)),(2,.optr 2 g.1 0 0),(5,.osl 5 g.2 0 s.1.length),(6,Av s.2)]) (O:=λs g=>[(2,dV g.1 2 44 (.agg [.sl (a.To.map Le),.sl (a.Keep.map D.bool)])),(5,dW g.2 1 3 (s.1.map Le))]) (body:=λs=>Abg a b s.1 s.2) (s:=(([]:List Int),0)) (_,_) ((hX))<|?_
 rintro⟨d,c⟩ ⟨i,k⟩ nn
 try dsimp only
 unfold Abg;refine A 10 ?_;refine cD r ?_ ?_
 ·refine A 2 ?_;refine bC (E:=λ(s:(List Int)) (g:Nat×Nat)=>[(1,.sl (b.map Le)),(2,.optr 2 g.1 0 0),(5,.osl 5 g.2 0 s.length),(6,Av c)]) (O:=λs g=>[(2,dV g.1 2 44 (.agg [.sl (a.To.map Le),.sl (a.Keep.map D.bool)])),(5,dW g.2 1 3 (s.map Le))]) (j:=λs=>XN c s) ?_ ?_
  ·refine A 12 ?_;refine lP (E:=λ(s:Int×Int) (g:Nat×Nat)=>[(1,.sl (b.map Le)),(2,.optr 2 g.1 0 0),(5,.osl 5 g.2 0 d.length),(6,Av c),(7,Av s.1),(8,Av s.2)]) (O:=λ_ g=>[(2,dV g.1 2 44 (.agg [.sl (a.To.map Le),.sl (a.Keep.map D.bool)])),(5,dW g.2 1 3 (d.map Le))]) (body:=λs=>Abh b a c d s.1 s.2) (s:=(0,0)) (_,_) ((hX))<|?_
   rintro⟨f,e⟩ ⟨l,m⟩ nn
   try dsimp only
   unfold Abh;refine A 9 ?_;refine cD r ?_ ?_
   ·refine A 8 ?_;refine bD λo p=>?_
    refine A 5 ?_;refine bD λq t=>?_
    refine A 5 ?_;refine cD r ?_ ?_
    ·refine A 11 ?_;exact xL (s:=(e,i64.wrap (e+1))) (_,_) ((hX))
    ·refine A 8 ?_;exact xL (s:=(f,i64.wrap (e+1))) (_,_) ((hX))
   ·refine A 12 ?_;exact RP (s:=d++([f]:List Int)) (_,_) ((hX))
  ·rintro h ⟨u,v⟩ nn
   try dsimp only
   unfold XN;refine A 5 ?_;exact xL (s:=(h,i64.wrap (c+1))) (_,_) ((hX))
 ·exact B

def Ahl:Dw.Spec:=Pd [] (.row 1 3) VZ VY (λa=>Acu a) PX noE
theorem AlB:Pb Tryz.prog 41 Ahl:=by
 refine fn2 1 (Px) Tryz.func41<|?_;intro b;unfold Acu;refine A 23 ?_;refine lP (E:=λ(s:(List Int)×Int×Int) (g:Nat×Nat)=>[(1,.optr 1 g.1 0 0),(3,.osl 3 g.2 0 s.1.length),(4,Av s.2.1),(5,Av s.2.2)]) (O:=λs g=>[(1,dV g.1 2 44 (.agg [.sl (b.To.map Le),.sl (b.Keep.map D.bool)])),(3,dW g.2 1 3 (s.1.map Le))]) (body:=λs=>Acv b s.1 s.2.1 s.2.2) (s:=(([]:List Int),0,0)) (_,_) ((hX))<|?_
 rintro⟨c,a,d⟩ ⟨e,f⟩ nn
 try dsimp only
 unfold Acv;refine A 10 ?_;refine cD r ?_ ?_
 ·refine A 18 ?_;refine bD λh i=>?_
  refine A 4 ?_;refine cD r ?_ ?_
  ·refine A 12 ?_;exact xL (s:=(c++([a]:List Int),i64.wrap (a+1),i64.wrap (d+1))) (_,_) ((hX))
  ·refine A 8 ?_;exact xL (s:=(c++([a]:List Int),a,i64.wrap (d+1))) (_,_) ((hX))
 ·exact B

def Ais:Dw.Spec:=Pd [] .val RG RF (λa=>Ri a.1 a.2) YE noE
theorem Amc:Pb Tryz.prog 18 Ais:=by
 refine fn2 2 (Pg (l:=[(37,Ait),(38,Ajp),(39,AfY),(40,AfZ),(41,Ahl),(42,Acs)]) (by simp[Amd,AmR,AkR,AkS,AlB,AfD])) Tryz.func18<|?_
 rintro⟨a,c⟩;unfold Ri;refine A 13 ?_;refine bD λu ab=>?_
 refine A 10 ?_;refine cD r ?_ ?_
 ·refine A 10 ?_;refine Wp (b:=((Lo.mk 0 ([]) ([])),u)) r ?_ r r ?_ (by first|rfl|(simp only[Mk];rfl)|(simp only[OV];rfl)|(simp only[Mk,OV];rfl)|(simp[ref21_Apply_R,Pl];try rfl)) (by decide)
  all_goals first|(simp;done)|(simp;omega)|rfl|(simp[QY,QP];done)
 ·refine A 6 ?_;refine bD λe ac=>?_
  refine A 20 ?_;refine lP (E:=λ(s:(List Pa)×Int) (g:Nat×Nat×Nat×Nat×Nat)=>[(2,.optr 2 g.1 0 0),(3,.optr 3 g.2.1 0 0),(4,.optr 4 g.2.2.1 0 0),(7,.osl 7 g.2.2.2.1 0 e.length),(8,.optr 8 g.2.2.2.2 0 0),(9,Av s.2)]) (O:=λs g=>[(2,dV g.1 3 36 (Pl a)),(3,dV g.2.1 2 44 (.agg [.sl (c.To.map Le),.sl (c.Keep.map D.bool)])),(4,dV g.2.2.1 3 36 (.agg [Av 0,.nils,.nils])),(7,dW g.2.2.2.1 1 3 (e.map Le)),(8,dV g.2.2.2.2 3 36 (.agg [Av a.Params,.sl (s.1.map Pt),.nils]))]) (body:=λs=>ZE e a c s.1 s.2) (s:=([],0)) (_,_,_,_,_) ((AhK [] trivial ⟨(QN r),(QN r),(QN r),(QN r),(QN r),(QN r),trivial⟩ ⟨(.inl r),(.inl r),(.inl r),(.inl r),(.inr ⟨_,_,_,_,r,r,r,r,AhH r ⟨(Zt r),(Abw Pt r),(Zt r),trivial⟩⟩),trivial⟩))<|?_
  rintro⟨f,m⟩ ⟨ad,ae,af,ag,ah⟩ nn
  try dsimp only
  unfold ZE;refine A 9 ?_;refine cD r ?_ ?_
  ·refine A 2 ?_;refine bC (E:=λ(_s:(List Pa)) (g:Nat×Nat×Nat×Nat×Nat×Nat)=>[(2,.optr 2 g.1 0 0),(3,.optr 3 g.2.1 0 0),(4,.optr 4 g.2.2.1 0 0),(7,.osl 7 g.2.2.2.1 0 e.length),(8,.optr 8 g.2.2.2.2.1 0 0),(9,Av m)]) (O:=λs g=>[(2,dV g.1 3 36 (Pl a)),(3,dV g.2.1 2 44 (.agg [.sl (c.To.map Le),.sl (c.Keep.map D.bool)])),(4,dV g.2.2.1 3 36 (.agg [Av 0,.nils,.nils])),(7,dW g.2.2.2.1 1 3 (e.map Le)),(8,dV g.2.2.2.2.1 3 36 (.agg [Av a.Params,.osl 13 g.2.2.2.2.2 0 s.length,.nils])),(13,dW g.2.2.2.2.2 2 60 (s.map Pt))]) (j:=λs=>Xo m s) ?_ ?_
   ·refine A 7 ?_;refine bD λai aj=>?_
    refine A 1 ?_;refine bD λh ak=>?_
    refine A 13 ?_;refine bD λao ap=>?_
    refine A 1 ?_;refine bD λo aq=>?_
    refine A 11 ?_;refine lP (E:=λ(s:Int×Int) (g:Nat×Nat×Nat×Nat×Nat×Nat×Nat)=>[(2,.optr 2 g.1 0 0),(3,.optr 3 g.2.1 0 0),(4,.optr 4 g.2.2.1 0 0),(7,.osl 7 g.2.2.2.1 0 e.length),(8,.optr 8 g.2.2.2.2.1 0 0),(9,Av m),(10,.optr 10 g.2.2.2.2.2.1 0 0),(11,.osl 11 g.2.2.2.2.2.2 0 o.length),(12,Av s.2)]) (O:=λs g=>[(2,dV g.1 3 36 (Pl a)),(3,dV g.2.1 2 44 (.agg [.sl (c.To.map Le),.sl (c.Keep.map D.bool)])),(4,dV g.2.2.1 3 36 (.agg [Av 0,.nils,.nils])),(7,dW g.2.2.2.1 1 3 (e.map Le)),(8,dV g.2.2.2.2.1 3 36 (.agg [Av a.Params,.sl (f.map Pt),.nils])),(10,dV g.2.2.2.2.2.1 2 60 (.agg [Av h.Size,Av s.1])),(11,dW g.2.2.2.2.2.2 1 3 (o.map Le))]) (body:=λs=>UU o a f h m s.1 s.2) (s:=(h.Align,0)) (_,_,_,_,_,_,_) ((hX))<|?_
    rintro⟨p,v⟩ ⟨ar,au,av,aw,ax,ay,az⟩ nn
    try dsimp only
    unfold UU;refine A 9 ?_;refine cD r ?_ ?_
    ·refine A 12 ?_;refine bD λba bb=>?_
     refine A 1 ?_;refine bD λw bc=>?_
     refine A 14 ?_;exact xL (s:=(PF p w.Align,i64.wrap (v+1))) (_,_,_,_,_,_,_) ((hX))
    ·refine A 11 ?_;refine bS ([(Pa.mk h.Size p)]:List Pa) Pt r r r (by simp) r r r<|?_
     refine A 9 ?_;exact RP (s:=(([]:List Pa)++f)++([(Pa.mk h.Size p)]:List Pa)) (_,_,_,_,_,_) ((hX))
   ·rintro bd ⟨bf,bg,bh,bi,bj,bk⟩ nn
    try dsimp only
    unfold Xo;refine A 5 ?_;exact wf [13] λ_=>B
  ·refine A 9 ?_;refine bD λi bl=>?_
   refine A 2 ?_;refine bD λk bm=>?_
   refine A 12 ?_;refine lP (E:=λ(s:(List OX)×Int) (g:Nat×Nat×Nat×Nat×Nat×Nat)=>[(2,.optr 2 g.1 0 0),(3,.optr 3 g.2.1 0 0),(4,.optr 4 g.2.2.1 0 0),(8,.optr 8 g.2.2.2.1 0 0),(14,.osl 14 g.2.2.2.2.1 0 i.length),(15,.osl 15 g.2.2.2.2.2 0 k.length),(16,Av s.2)]) (O:=λs g=>[(2,dV g.1 3 36 (Pl a)),(3,dV g.2.1 2 44 (.agg [.sl (c.To.map Le),.sl (c.Keep.map D.bool)])),(4,dV g.2.2.1 3 36 (.agg [Av 0,.nils,.nils])),(8,dV g.2.2.2.1 3 36 (.agg [Av a.Params,.sl (f.map Pt),.sl (s.1.map Pu)])),(14,dW g.2.2.2.2.1 1 3 (i.map Le)),(15,dW g.2.2.2.2.2 1 3 (k.map Le))]) (body:=λs=>Xn a c i k f s.1 s.2) (s:=([],0)) (_,_,_,_,_,_) ((AhK [] trivial ⟨(QN r),(QN r),(QN r),(QN r),(QN r),(QN r),(QN r),trivial⟩ ⟨(.inl r),(.inl r),(.inl r),(.inr ⟨_,_,_,_,r,r,r,r,AhH r ⟨(Zt r),(Zt r),(Abw Pu r),trivial⟩⟩),(.inl r),(.inl r),trivial⟩))<|?_
   rintro⟨q,t⟩ ⟨bn,bo,bp,bq,br,bs⟩ nn
   try dsimp only
   unfold Xn;refine A 10 ?_;refine cD r ?_ ?_
   ·refine A 10 ?_;refine bD λbt bu=>?_
    refine A 5 ?_;refine cD r ?_ ?_
    ·refine A 9 ?_;exact xL (s:=(q,i64.wrap (t+1))) (_,_,_,_,_,_) ((hX))
    ·refine A 7 ?_;refine bD λbv bw=>?_
     refine A 3 ?_;refine bD λd bx=>?_
     refine A 5 ?_;refine sC (E:=λ(_s:Int×Int) (g:Nat×Nat×Nat×Nat×Nat×Nat×Nat)=>[(2,.optr 2 g.1 0 0),(3,.optr 3 g.2.1 0 0),(4,.optr 4 g.2.2.1 0 0),(8,.optr 8 g.2.2.2.1 0 0),(14,.osl 14 g.2.2.2.2.1 0 i.length),(15,.osl 15 g.2.2.2.2.2.1 0 k.length),(16,Av t),(17,.optr 17 g.2.2.2.2.2.2 0 0)]) (O:=λs g=>[(2,dV g.1 3 36 (Pl a)),(3,dV g.2.1 2 44 (.agg [.sl (c.To.map Le),.sl (c.Keep.map D.bool)])),(4,dV g.2.2.1 3 36 (.agg [Av 0,.nils,.nils])),(8,dV g.2.2.2.1 3 36 (.agg [Av a.Params,.sl (f.map Pt),.sl (q.map Pu)])),(14,dW g.2.2.2.2.1 1 3 (i.map Le)),(15,dW g.2.2.2.2.2.1 1 3 (k.map Le)),(17,dV g.2.2.2.2.2.2 5 63 (.agg [Av d.Op,Av s.1,Av s.2,Av d.C,Akt d.Imm]))]) (j:=λs=>TM q d t s.1 s.2) ?_ ?_
     ·refine A 13 ?_;refine cD r ?_ ?_
      ·refine A 5 ?_;refine bD λx bz=>?_
       refine A 5 ?_;exact xC (s:=(x,d.B)) (_,_,_,_,_,_,_) ((hX))
      ·refine A 6 ?_;refine cD r ?_ ?_
       ·refine A 5 ?_;refine bD λy ca=>?_
        refine A 5 ?_;exact xC (s:=(d.A,y)) (_,_,_,_,_,_,_) ((hX))
       ·refine A 2 ?_;exact xC (s:=(d.A,d.B)) (_,_,_,_,_,_,_) ((hX))
     ·rintro⟨z,aa⟩ ⟨cb,cc,cd,ce,cf,cg,ch⟩ nn
      try dsimp only
      unfold TM;refine A 6 ?_;refine bS ([(OX.mk d.Op z aa d.C d.Imm)]:List OX) Pu r r r (by simp) r r r<|?_
      refine A 16 ?_;exact wf [18] λ_=>B
   ·exact B

def RM (a:Int×Int×Int):List D:=[.int .u8 a.1,.int .u8 a.2.1,.int .u8 a.2.2]
def RL (ds:List D):Int×Int×Int:=(uI (ds.getD 0 .top),uI (ds.getD 1 .top),uI (ds.getD 2 .top))
theorem Ww (a:Int×Int×Int):RL (RM a)=a:=by simp[RL,RM,uI]
instance:PD RM RL:=⟨Ww⟩
def Adm:Dw.Spec:=Pd [] .ground RM RL (λa=>Rz a.1 a.2.1 a.2.2) Pm noE
theorem AcN:Pb Tryz.prog 5 Adm:=by
 refine fn2 3 (Pg (l:=[(7,Ail),(14,Zf),(18,Ais)]) (by simp[AlU,AcT,Amc])) Tryz.func5<|?_
 rintro⟨b,c,d⟩;unfold Rz;refine A 8 ?_;refine bD λh i=>?_
 refine A 4 ?_;refine cD r ?_ ?_
 ·exact B
 ·refine A 27 ?_;refine bS ([(Pa.mk (i64.wrap (1*2 ^ (aA (b.tmod 5).toNat i64.bits))) (i64.wrap (1*2 ^ (aA (c.tmod 7).toNat i64.bits))))]:List Pa) Pt r r r (by simp) r r r<|?_
  refine A 1 ?_;refine bS ([(OX.mk 16 0 1 0 0)]:List OX) Pu r r r (by simp) r r r<|?_
  refine A 12 ?_;refine lP (E:=λ(s:(List Pa)×(List OX)×Int) (g:Nat×Nat×Nat×Nat)=>[(7,.optr 7 g.1 0 0),(8,Av (i64.wrap (1+((i64.wrap (d)).tmod 6)))),(9,.optr 9 g.2.1 0 0),(10,Av s.2.2)]) (O:=λs g=>[(7,dV g.1 2 60 (.agg [Av (i64.wrap (1*2 ^ (aA (b.tmod 5).toNat i64.bits))),Av (i64.wrap (1*2 ^ (aA (c.tmod 7).toNat i64.bits)))])),(9,dV g.2.1 3 36 (.agg [Av 0,.osl 30 g.2.2.1 0 s.1.length,.osl 32 g.2.2.2 0 s.2.1.length])),(30,dW g.2.2.1 2 60 (s.1.map Pt)),(32,dW g.2.2.2 5 63 (s.2.1.map Pu))]) (body:=λs=>RV d b c s.1 s.2.1 s.2.2) (s:=(([(Pa.mk (i64.wrap (1*2 ^ (aA (b.tmod 5).toNat i64.bits))) (i64.wrap (1*2 ^ (aA (c.tmod 7).toNat i64.bits))))]:List Pa),([(OX.mk 16 0 1 0 0)]:List OX),1)) (_,_,_,_) ((hX))<|?_
  rintro⟨e,f,a⟩ ⟨j,k,m,o⟩ nn
  try dsimp only
  unfold RV;refine A 8 ?_;refine cD r ?_ ?_
  ·refine A 10 ?_;refine bS ([(Pa.mk (i64.wrap (1*2 ^ (aA (b.tmod 5).toNat i64.bits))) (i64.wrap (1*2 ^ (aA (c.tmod 7).toNat i64.bits))))]:List Pa) Pt r r r (by simp) r r r<|?_
   refine A 13 ?_;refine bS ([(OX.mk 17 a (i64.wrap (a-1)) 0 0)]:List OX) Pu r r r (by simp) r r r<|?_
   refine A 19 ?_;exact xL (s:=((([]:List Pa)++e)++([(Pa.mk (i64.wrap (1*2 ^ (aA (b.tmod 5).toNat i64.bits))) (i64.wrap (1*2 ^ (aA (c.tmod 7).toNat i64.bits))))]:List Pa),(([]:List OX)++f)++([(OX.mk 17 a (i64.wrap (a-1)) 0 0)]:List OX),i64.wrap (a+1))) (_,_,_,_) ((Qi (E1:=[(7,.optr 7 _ 0 0),(8,Av (i64.wrap (1+((i64.wrap (d)).tmod 6)))),(9,.optr 9 _ 0 0),(10,Av (i64.wrap (a+1)))]) (O1:=[(7,dV _ 2 60 (.agg [Av (i64.wrap (1*2 ^ (aA (b.tmod 5).toNat i64.bits))),Av (i64.wrap (1*2 ^ (aA (c.tmod 7).toNat i64.bits)))])),(9,dV _ 3 36 (.agg [Av 0,.osl 11 _ 0 (((([]:List Pa)++e)++([(Pa.mk (i64.wrap (1*2 ^ (aA (b.tmod 5).toNat i64.bits))) (i64.wrap (1*2 ^ (aA (c.tmod 7).toNat i64.bits))))]:List Pa)).length),.osl 12 _ 0 (((([]:List OX)++f)++([(OX.mk 17 a (i64.wrap (a-1)) 0 0)]:List OX)).length)])),(11,dW _ 2 60 (((([]:List Pa)++e)++([(Pa.mk (i64.wrap (1*2 ^ (aA (b.tmod 5).toNat i64.bits))) (i64.wrap (1*2 ^ (aA (c.tmod 7).toNat i64.bits))))]:List Pa)).map Pt)),(12,dW _ 5 63 (((([]:List OX)++f)++([(OX.mk 17 a (i64.wrap (a-1)) 0 0)]:List OX)).map Pu))]) (hX) (λ_=>Py (λg=>bif Nat.beq g 12 then 32 else bif Nat.beq g 11 then 30 else g) (by rfl) (hX))))
  ·refine A 13 ?_;refine bS ([(OX.mk 15 0 (i64.wrap (1+((i64.wrap (d)).tmod 6))) 0 0),(OX.mk 23 0 0 0 0)]:List OX) Pu r r r (by simp) r r r<|?_
   refine A 8 ?_;refine bS ([(Lo.mk 0 e ((([]:List OX)++f)++([(OX.mk 15 0 (i64.wrap (1+((i64.wrap (d)).tmod 6))) 0 0),(OX.mk 23 0 0 0 0)]:List OX)))]:List Lo) Pl r r r (by simp) r (by simp[XK,Pl]<;>first|rfl|(rw[aAA (by simp)])) r<|?_
   exact B

end
end Go.Proofs.YtilmapojncgflaaGreatDoor
