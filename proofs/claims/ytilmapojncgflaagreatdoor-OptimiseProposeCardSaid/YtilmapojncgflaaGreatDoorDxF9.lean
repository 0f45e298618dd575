/-
  Programs on typed data, and the proofs that the code does what they say; written by a program (dx.py).
-/
import Derived.Test.YtilmapojncgflaaGreatDoorProg
import Derived.Test.YtilmapojncgflaaGreatDoorDd
import Derived.KernelRfl
import Derived.Test.YtilmapojncgflaaGreatDoorDxP
import Derived.Test.YtilmapojncgflaaGreatDoorDxF1
import Derived.Test.YtilmapojncgflaaGreatDoorDxF2
import Derived.Test.YtilmapojncgflaaGreatDoorDxF4
import Derived.Test.YtilmapojncgflaaGreatDoorDxF5
import Derived.Test.YtilmapojncgflaaGreatDoorDxF6
import Derived.Test.YtilmapojncgflaaGreatDoorDxF7
import Derived.Test.YtilmapojncgflaaGreatDoorDxF8
namespace Go.Proofs.YtilmapojncgflaaGreatDoor
open Go Go.Dw Go.Proofs
open Go.IntKind (i64)
set_option maxRecDepth 100000
set_option maxHeartbeats 40000000
open Go.Dw renaming Ra -> bD,Qe -> cK,Abn -> bS,Akq -> aP,TC -> sE,ZR -> iO,ZS -> cD,AbR -> xC,XW -> xL,AbS -> lP,XE -> sC,YV -> bC,rf -> r
noncomputable section
def Akm:Dw.Spec:=OY [] .val Yf Ye (λa=>UP a.1 a.2.1 a.2.2) AiQ noE
theorem Ape:OW Tryz.prog 52 Akm:=by
 refine fn2 3 (OZ (l:=[(70,Ahd),(90,AlB),(81,Zw),(91,AlI),(92,ZM),(93,AnN)]) (by simp[Akf,ApK,AbC,ApR,Abg,ArV])) Tryz.func52<|?_
 rintro⟨a,c,d⟩;unfold UP;refine A 10 ?_;refine bD λv w=>?_
 refine A 10 ?_;refine cD r ?_ ?_
 ·exact B
 ·refine A 2 ?_;refine sC (E:=λ(_s:Unit) (_g:Unit)=>[(0,.sl (a.map Pm)),(1,.sl (c.map (eL Le))),(2,Av d)]) (O:=λ_ _=>[]) (j:=λ_=>AaC a c d) ?_ ?_
  ·refine A 5 ?_;refine bD λx y=>?_
   refine A 3 ?_;refine Pj r ?_ ?_
   ·exact B
   ·refine A 1 ?_;refine bD λz aa=>?_
    refine A 5 ?_;refine cD r ?_ ?_
    ·exact B
    ·refine A 1 ?_;exact xC (s:=()) () ((hX))
  ·rintro⟨⟩ ⟨⟩ nn
   try dsimp only
   unfold AaC;refine A 15 ?_;refine bD λb ab=>?_
   refine A 11 ?_;refine lP (E:=λ(s:(List Bool)×(List Int)×Int) (g:Nat×Nat×Nat)=>[(0,.sl (a.map Pm)),(1,.sl (c.map (eL Le))),(2,Av d),(9,.osl 9 g.1 0 s.2.1.length),(10,.osl 10 g.2.1 0 s.1.length),(11,.osl 11 g.2.2 0 b.length),(12,Av s.2.2)]) (O:=λs g=>[(9,dW g.1 1 3 (s.2.1.map Le)),(10,dW g.2.1 1 4 (s.1.map D.bool)),(11,dW g.2.2 1 3 (b.map Le))]) (body:=λs=>AaA b a c d s.1 s.2.1 s.2.2) (s:=(List.replicate (a.length:Int).toNat false,List.replicate (a.length:Int).toNat (0:Int),0)) (_,_,_) ((hX))<|?_
   rintro⟨h,e,f⟩ ⟨ac,ad,ae⟩ nn
   try dsimp only
   unfold AaA;refine A 9 ?_;refine cD r ?_ ?_
   ·refine A 2 ?_;refine bC (E:=λ(s:(List Bool)×(List Int)) (g:Nat×Nat×Nat)=>[(0,.sl (a.map Pm)),(1,.sl (c.map (eL Le))),(2,Av d),(9,.osl 9 g.1 0 s.2.length),(10,.osl 10 g.2.1 0 s.1.length),(11,.osl 11 g.2.2 0 b.length),(12,Av f)]) (O:=λs g=>[(9,dW g.1 1 3 (s.2.map Le)),(10,dW g.2.1 1 4 (s.1.map D.bool)),(11,dW g.2.2 1 3 (b.map Le))]) (j:=λs=>Xw f s.1 s.2) ?_ ?_
    ·refine A 5 ?_;refine bD λm af=>?_
     refine A 16 ?_;refine lP (E:=λ(s:(List OU)×Int) (g:Nat×Nat×Nat×Nat)=>[(0,.sl (a.map Pm)),(1,.sl (c.map (eL Le))),(2,Av d),(9,.osl 9 g.1 0 e.length),(10,.osl 10 g.2.1 0 h.length),(11,.osl 11 g.2.2.1 0 b.length),(12,Av f),(13,Av m),(14,.osl 14 g.2.2.2 0 s.1.length),(15,Av s.2)]) (O:=λs g=>[(9,dW g.1 1 3 (e.map Le)),(10,dW g.2.1 1 4 (h.map D.bool)),(11,dW g.2.2.1 1 3 (b.map Le)),(14,dW g.2.2.2 2 121 (s.1.map Pv))]) (body:=λs=>AaB a h c m e d f s.1 s.2) (s:=(([]:List OU),0)) (_,_,_,_) ((hX))<|?_
     rintro⟨i,k⟩ ⟨ag,ah,ai,aj⟩ nn
     try dsimp only
     unfold AaB;refine A 9 ?_;refine cD r ?_ ?_
     ·refine A 4 ?_;refine sC (E:=λ(s:Bool) (g:Nat×Nat×Nat×Nat)=>[(0,.sl (a.map Pm)),(1,.sl (c.map (eL Le))),(2,Av d),(9,.osl 9 g.1 0 e.length),(10,.osl 10 g.2.1 0 h.length),(11,.osl 11 g.2.2.1 0 b.length),(12,Av f),(13,Av m),(14,.osl 14 g.2.2.2 0 i.length),(15,Av k),(68,.bool s)]) (O:=λ_ g=>[(9,dW g.1 1 3 (e.map Le)),(10,dW g.2.1 1 4 (h.map D.bool)),(11,dW g.2.2.1 1 3 (b.map Le)),(14,dW g.2.2.2 2 121 (i.map Pv))]) (j:=λs=>QN k e a i s) ?_ ?_
      ·refine A 4 ?_;refine bD λak ao=>?_
       refine A 2 ?_;refine Pj r ?_ ?_
       ·refine A 2 ?_;refine bD λap aq=>?_
        refine A 3 ?_;refine bD λq ar=>?_
        refine A 3 ?_;exact xC (s:=q) (_,_,_,_) ((hX))
       ·refine A 8 ?_;exact xC (s:=false) (_,_,_,_) ((hX))
      ·rintro au ⟨av,aw,ax,ay⟩ nn
       try dsimp only
       unfold QN;refine cD r ?_ ?_
       ·refine A 5 ?_;refine bD λo az=>?_
        refine A 3 ?_;refine bD λp ba=>?_
        refine A 4 ?_;refine bS ([(OU.mk o p.Size)]:List OU) Pv r r r (by simp) r r r<|?_
        refine A 10 ?_;exact xL (s:=(i++([(OU.mk o p.Size)]:List OU),i64.wrap (k+1))) (_,_,_,_) ((hX))
       ·refine A 8 ?_;exact xL (s:=(i,i64.wrap (k+1))) (_,_,_,_) ((hX))
     ·exact B
    ·rintro⟨t,u⟩ ⟨bb,bc,bd⟩ nn
     try dsimp only
     unfold Xw;refine A 5 ?_;exact xL (s:=(t,u,i64.wrap (f+1))) (_,_,_) ((hX))
   ·exact B

def Ajf:Dw.Spec:=OY [] .val Vj Vi (λa=>Adc a.1 a.2.1 a.2.2) Xn noE
theorem Aou:OW Tryz.prog 28 Ajf:=by
 refine fn2 3 (Pp) Tryz.func28<|?_;rintro⟨a,d,c⟩;unfold Adc;refine A 11 ?_;refine cK λhq=>aP (([]:List Mk)) (a.Funcs) Pf r r r r r r r (by simp) r r r (by simp) r (λ_=>r) r hq<|?_
 refine A 8 ?_;refine cK λhq=>iO (l:=([]:List Mk)++a.Funcs) (en:=Pf) r r r r r hq<|bD λf e=>sE (l:=([]:List Mk)++a.Funcs) (en:=Pf) (q':=c) r r r r r r r (by simp) e r r r r r<|?_
 refine A 10 ?_;refine Aeg (b:=(Pk.mk ((([]:List Mk)++a.Funcs).set d.toNat c))) r ?_ r r ?_ (by first|rfl|(simp only[Lo];rfl)|(simp only[OQ];rfl)|(simp only[Lo,OQ];rfl)|(simp[Xn,XR];try rfl))
 all_goals first|(simp;done)|(simp;omega)|rfl|(simp[Qr,Qm];done)

def AmM:Dw.Spec:=OY [] .val Vj Vi (λa=>Afb a.1 a.2.1 a.2.2) Xn noE
theorem AqE:OW Tryz.prog 13 AmM:=by
 refine fn2 3 (OZ (l:=[(28,Ajf)]) (by simp[Aou])) Tryz.func13<|?_
 intro a;unfold Afb;exact B

def Alq:Dw.Spec:=OY [] .ground Sd Sc (λa=>Vx a) Pb noE
theorem ApE:OW Tryz.prog 33 Alq:=by
 refine fn2 1 (OZ (l:=[(70,Ahd)]) (by simp[Akf])) Tryz.func33<|?_
 intro a;unfold Vx;refine A 14 ?_;refine bD λe f=>?_
 refine A 4 ?_;refine cD r ?_ ?_
 ·exact B
 ·refine A 9 ?_;refine lP (E:=λ(s:Int×Int) (_g:Unit)=>[(0,.sl (a.map Pm)),(3,Av s.1),(4,Av s.2)]) (O:=λ_ _=>[]) (body:=λs=>YI a s.1 s.2) (s:=(16,0)) () ((hX))<|?_
  rintro⟨b,c⟩ ⟨⟩ nn
  try dsimp only
  unfold YI;refine A 9 ?_;refine cD r ?_ ?_
  ·refine A 8 ?_;refine bD λd g=>?_
   refine A 13 ?_;exact xL (s:=(PJ b d.Align,i64.wrap (c+1))) () ((hX))
  ·exact B

def Alu:Dw.Spec:=OY [] .ground ZI ZH (λa=>Vy a) Pb noE
theorem ApG:OW Tryz.prog 15 Alu:=by
 refine fn2 1 (OZ (l:=[(33,Alq)]) (by simp[ApE])) Tryz.func15<|?_
 intro a;unfold Vy;refine A 18 ?_;refine lP (E:=λ(s:Int×Int) (g:Nat)=>[(1,.optr 1 g 0 0),(3,Av s.1),(4,Av s.2)]) (O:=λ_ g=>[(1,dV g 1 28 (.agg [.sl (a.Funcs.map Pf)]))]) (body:=λs=>AbE a s.1 s.2) (s:=(16,0)) _ ((hX))<|?_
 rintro⟨b,c⟩ e nn
 try dsimp only
 unfold AbE;refine A 10 ?_;refine cD r ?_ ?_
 ·refine A 9 ?_;refine bD λf h=>?_
  refine A 3 ?_;refine bD λd i=>?_
  refine A 11 ?_;exact xL (s:=(PJ b d,i64.wrap (c+1))) _ ((hX))
 ·exact B

def AnQ:Dw.Spec:=OY [] .ground Abt Abs (λa=>AgN a.1 a.2) Pb noE
theorem ArW:OW Tryz.prog 95 AnQ:=by
 refine fn2 2 (Pp) Tryz.func95<|?_;rintro⟨c,a⟩;unfold AgN;refine A 17 ?_;refine lP (E:=λ(s:Int×Int) (_g:Unit)=>[(0,.sl (c.map Pm)),(1,.sl (a.map Le)),(5,Av s.1),(6,Av s.2)]) (O:=λ_ _=>[]) (body:=λs=>AiE c a s.1 s.2) (s:=(0,0)) () ((hX))<|?_
 rintro⟨d,b⟩ ⟨⟩ nn
 try dsimp only
 unfold AiE;refine sC (E:=λ(_s:Unit) (_g:Unit)=>[(0,.sl (c.map Pm)),(1,.sl (a.map Le)),(5,Av d),(6,Av b),(12,Av b),(13,.sl (a.map Le)),(14,Av (a.length:Int)),(15,.bool (decide (b<(a.length:Int))))]) (O:=λ_ _=>[]) (j:=λ_=>AeY a b c d) ?_ ?_
 ·refine A 7 ?_;refine Pj r ?_ ?_
  ·refine A 7 ?_;refine cD r ?_ ?_
   ·refine A 1 ?_;exact xC (s:=()) () ((hX))
   ·exact B
  ·exact B
 ·rintro⟨⟩ ⟨⟩ nn
  try dsimp only
  unfold AeY;refine A 6 ?_;refine bD λe g=>?_
  refine A 4 ?_;refine bD λf h=>?_
  refine A 14 ?_;exact xL (s:=(PJ d (i64.wrap (e+f.Size)),i64.wrap (b+1))) () ((hX))

def Ako:Dw.Spec:=OY [] .val Aaz Aay (λa=>YS a.1 a.2.1 a.2.2.1 a.2.2.2) Sh noE
theorem Apg:OW Tryz.prog 53 Ako:=by
 refine fn2 4 (OZ (l:=[(94,AcY),(43,AiF),(95,AnQ),(44,Alb)]) (by simp[AfJ,AlJ,ArW,AnO])) Tryz.func53<|?_
 rintro⟨c,d,e,a⟩;unfold YS;refine A 12 ?_;refine bD λf k=>?_
 refine A 16 ?_;refine cD r ?_ ?_
 ·refine A 9 ?_;refine Sq (b:=((PG.mk 0 0 ([])),13)) r ?_ r r ?_ (by first|rfl|(simp only[Lo];rfl)|(simp only[OQ];rfl)|(simp only[Lo,OQ];rfl)|(simp[Sh,Su];try rfl)) (by decide)
  all_goals first|(simp;done)|(simp;omega)|rfl|(simp[Qr,Qm];done)
 ·refine A 9 ?_;refine lP (E:=λ(s:Int) (g:Nat×Nat)=>[(1,Av d),(2,Av e),(3,.sl (a.map Le)),(4,.optr 4 g.1 0 0),(8,.optr 8 g.2 0 0),(10,.sl (f.Slots.map Pm)),(11,Av s)]) (O:=λ_ g=>[(4,dV g.1 1 28 (.agg [.sl (c.Funcs.map Pf)])),(8,dV g.2 3 46 (.agg [Av 0,Av 0,.nils]))]) (body:=λs=>AeZ f a c d e s) (s:=0) (_,_) ((hX))<|?_
  rintro h ⟨m,o⟩ nn
  try dsimp only
  unfold AeZ;refine A 9 ?_;refine cD r ?_ ?_
  ·refine A 8 ?_;refine bD λp q=>?_
   refine A 4 ?_;refine bD λt u=>?_
   refine A 4 ?_;refine bD λv w=>?_
   refine A 4 ?_;refine cD r ?_ ?_
   ·refine A 13 ?_;refine Sq (b:=((PG.mk 0 0 ([])),13)) r ?_ r r ?_ (by first|rfl|(simp only[Lo];rfl)|(simp only[OQ];rfl)|(simp only[Lo,OQ];rfl)|(simp[Sh,Su];try rfl)) (by decide)
    all_goals first|(simp;done)|(simp;omega)|rfl|(simp[Qr,Qm];done)
   ·refine A 8 ?_;exact xL (s:=i64.wrap (h+1)) (_,_) ((hX))
  ·refine A 9 ?_;refine bD λi x=>?_
   refine A 9 ?_;refine bD λy z=>?_
   refine A 3 ?_;refine bD λj aa=>?_
   refine A 14 ?_;refine Pj r ?_ ?_
   ·refine A 15 ?_;refine Sq (b:=((PG.mk 0 0 ([])),9)) r ?_ r r ?_ (by first|rfl|(simp only[Lo];rfl)|(simp only[OQ];rfl)|(simp only[Lo,OQ];rfl)|(simp[Sh,Su];try rfl)) (by decide)
    all_goals first|(simp;done)|(simp;omega)|rfl|(simp[Qr,Qm];done)
   ·refine A 5 ?_;refine cD r ?_ ?_
    ·refine A 9 ?_;refine Sq (b:=((PG.mk 0 0 ([])),9)) r ?_ r r ?_ (by first|rfl|(simp only[Lo];rfl)|(simp only[OQ];rfl)|(simp only[Lo,OQ];rfl)|(simp[Sh,Su];try rfl)) (by decide)
     all_goals first|(simp;done)|(simp;omega)|rfl|(simp[Qr,Qm];done)
    ·refine A 7 ?_;refine cK λhq=>aP (([]:List Int)) (a) Le r r r r r r r (by simp) r r r (by simp) r (λ_=>r) r hq<|?_
     refine A 6 ?_;refine Sq (b:=((PG.mk i j.1 (([]:List Int)++a)),0)) r ?_ r r ?_ (by first|rfl|(simp only[Lo];rfl)|(simp only[OQ];rfl)|(simp only[Lo,OQ];rfl)|(simp[Sh,Su];try rfl)) (by decide)
     all_goals first|(simp;done)|(simp;omega)|rfl|(simp[Qr,Qm];done)

def Ajh:Dw.Spec:=OY [] .val WN WM (λa=>WT a.1 a.2) Xo noE
theorem Aow:OW Tryz.prog 22 Ajh:=by
 refine fn2 2 (OZ (l:=[(47,Aly),(48,AlC),(49,Aje),(50,AmI),(18,AlG),(51,Akj),(43,AiF),(52,Akm),(13,AmM),(15,Alu),(53,Ako)]) (by simp[ApH,ApL,Aot,AqA,ApP,Apc,AlJ,Ape,AqE,ApG,Apg])) Tryz.func22<|?_
 rintro⟨g,h⟩;unfold WT;refine A 11 ?_;refine bD λi j=>?_
 refine A 9 ?_;refine bD λa k=>?_
 refine A 11 ?_;refine bD λm o=>?_
 refine A 12 ?_;refine bD λc p=>?_
 refine A 14 ?_;refine bD λd q=>?_
 refine A 11 ?_;refine bD λs t=>?_
 refine A 12 ?_;refine bD λe u=>?_
 refine A 10 ?_;refine bD λv w=>?_
 refine A 15 ?_;refine bD λx y=>?_
 refine A 1 ?_;refine bD λz aa=>?_
 refine A 15 ?_;refine cD r ?_ ?_
 ·refine A 8 ?_;refine Aeg (b:=(Px.mk a (Pl.mk c d) e (PG.mk 0 0 ([])))) r ?_ r r ?_ (by first|rfl|(simp only[Lo];rfl)|(simp only[OQ];rfl)|(simp only[Lo,OQ];rfl)|(simp[Xo,Rp];try rfl))
  all_goals first|(simp;done)|(simp;omega)|rfl|(simp[Qr,Qm];done)
 ·refine A 7 ?_;refine bD λab ac=>?_
  refine A 3 ?_;refine bD λad ae=>?_
  refine A 2 ?_;refine bD λf af=>?_
  refine A 15 ?_;refine Aeg (b:=(Px.mk a (Pl.mk c d) e f.1)) r ?_ r r ?_ (by first|rfl|(simp only[Lo];rfl)|(simp only[OQ];rfl)|(simp only[Lo,OQ];rfl)|(simp[Xo,Rp];try rfl))
  all_goals first|(simp;done)|(simp;omega)|rfl|(simp[Qr,Qm];done)

def Agc (a:PG×PG):List D:=[Su a.1,Su a.2]
def Agb (ds:List D):PG×PG:=(Akv (ds.getD 0 .top),Akv (ds.getD 1 .top))
instance:Py Agc Agb:=⟨λa=>by simp[Agb,Agc]⟩
def AmL:Dw.Spec:=OY [] .ground Agc Agb (λa=>Afa a.1 a.2) Pe noE
theorem AqD:OW Tryz.prog 55 AmL:=by
 refine fn2 2 (Pp) Tryz.func55<|?_;rintro⟨a,b⟩;unfold Afa;refine A 7 ?_;refine sC (E:=λ(_s:Unit) (g:Nat×Nat)=>[(2,.optr 2 g.1 0 0),(3,.optr 3 g.2 0 0)]) (O:=λ_ g=>[(2,dV g.1 3 46 (Su a)),(3,dV g.2 3 46 (Su b))]) (j:=λ_=>Adf a b) ?_ ?_
 ·refine A 8 ?_;refine Pj r ?_ ?_
  ·exact B
  ·refine A 7 ?_;refine Pj r ?_ ?_
   ·exact B
   ·refine A 10 ?_;refine cD r ?_ ?_
    ·exact B
    ·refine A 1 ?_;exact xC (s:=()) (_,_) ((hX))
 ·rintro⟨⟩ ⟨d,e⟩ nn
  try dsimp only
  unfold Adf;refine A 7 ?_;refine lP (E:=λ(s:Int) (g:Nat×Nat)=>[(2,.optr 2 g.1 0 0),(3,.optr 3 g.2 0 0),(5,Av s)]) (O:=λ_ g=>[(2,dV g.1 3 46 (Su a)),(3,dV g.2 3 46 (Su b))]) (body:=λs=>ZD a b s) (s:=0) (_,_) ((hX))<|?_
  rintro c ⟨f,h⟩ nn
  try dsimp only
  unfold ZD;refine A 10 ?_;refine cD r ?_ ?_
  ·refine A 9 ?_;refine bD λi k=>?_
   refine A 5 ?_;refine bD λl m=>?_
   refine A 5 ?_;refine cD r ?_ ?_
   ·exact B
   ·refine A 8 ?_;exact xL (s:=i64.wrap (c+1)) (_,_) ((hX))
  ·exact B

def Age (a:Px×Px):List D:=[Rp a.1,Rp a.2]
def Agd (ds:List D):Px×Px:=(Ajo (ds.getD 0 .top),Ajo (ds.getD 1 .top))
instance:Py Age Agd:=⟨λa=>by simp[Agd,Age]⟩
def AmN:Dw.Spec:=OY [] .ground Age Agd (λa=>Xx a.1 a.2) Pe noE
theorem AqF:OW Tryz.prog 23 AmN:=by
 refine fn2 2 (OZ (l:=[(54,AiC),(55,AmL)]) (by simp[Alx,AqD])) Tryz.func23<|?_
 rintro⟨a,b⟩;unfold Xx;refine A 7 ?_;refine sC (E:=λ(_s:Unit) (g:Nat×Nat)=>[(2,.optr 2 g.1 0 0),(3,.optr 3 g.2 0 0)]) (O:=λ_ g=>[(2,dV g.1 7 48 (Rp a)),(3,dV g.2 7 48 (Rp b))]) (j:=λ_=>Ahj a b) ?_ ?_
 ·refine A 6 ?_;refine bD λe f=>?_
  refine A 3 ?_;refine Pj r ?_ ?_
  ·exact B
  ·refine A 4 ?_;refine bD λh i=>?_
   refine A 4 ?_;refine Pj r ?_ ?_
   ·exact B
   ·refine A 4 ?_;refine bD λk m=>?_
    refine A 4 ?_;refine Pj r ?_ ?_
    ·exact B
    ·refine A 11 ?_;refine Pj r ?_ ?_
     ·exact B
     ·refine A 12 ?_;refine cD r ?_ ?_
      ·exact B
      ·refine A 1 ?_;exact xC (s:=()) (_,_) ((hX))
 ·rintro⟨⟩ ⟨o,p⟩ nn
  try dsimp only
  unfold Ahj;refine A 7 ?_;refine lP (E:=λ(s:Int) (g:Nat×Nat)=>[(2,.optr 2 g.1 0 0),(3,.optr 3 g.2 0 0),(5,Av s)]) (O:=λ_ g=>[(2,dV g.1 7 48 (Rp a)),(3,dV g.2 7 48 (Rp b))]) (body:=λs=>ZE a b s) (s:=0) (_,_) ((hX))<|?_
  rintro c ⟨q,t⟩ nn
  try dsimp only
  unfold ZE;refine A 11 ?_;refine cD r ?_ ?_
  ·refine A 10 ?_;refine bD λu v=>?_
   refine A 6 ?_;refine bD λw x=>?_
   refine A 5 ?_;refine cD r ?_ ?_
   ·exact B
   ·refine A 8 ?_;exact xL (s:=i64.wrap (c+1)) (_,_) ((hX))
  ·refine A 12 ?_;refine lP (E:=λ(s:Int) (g:Nat×Nat)=>[(2,.optr 2 g.1 0 0),(3,.optr 3 g.2 0 0),(6,Av s)]) (O:=λ_ g=>[(2,dV g.1 7 48 (Rp a)),(3,dV g.2 7 48 (Rp b))]) (body:=λs=>ZF a b s) (s:=0) (_,_) ((hX))<|?_
   rintro d ⟨y,z⟩ nn
   try dsimp only
   unfold ZF;refine A 11 ?_;refine cD r ?_ ?_
   ·refine A 10 ?_;refine bD λaa ab=>?_
    refine A 6 ?_;refine bD λac ad=>?_
    refine A 5 ?_;refine cD r ?_ ?_
    ·exact B
    ·refine A 8 ?_;exact xL (s:=i64.wrap (d+1)) (_,_) ((hX))
   ·exact B

def Tt (a:(List Int)):List D:=[.sl (a.map eU8)]
def Ts (ds:List D):(List Int):=(uL uI) (ds.getD 0 .top)
theorem AaZ (a:(List Int)):Ts (Tt a)=a:=by simp[Ts,Tt,Qb (u:=uI) (en:=eU8) (λ_=>rfl)]
instance:Py Tt Ts:=⟨AaZ⟩
def AiL:Dw.Spec:=OY [] .ground Tt Ts (λa=>Tk a) Pe noE
theorem Aip:OW Tryz.prog 6 AiL:=by
 refine fn2 1 (OZ (l:=[(7,Alo),(8,AoN),(9,Aex),(21,Aka),(22,Ajh),(14,Xp),(23,AmN)]) (by simp[ApA,AsG,AjQ,AoY,Aow,Aak,AqF])) Tryz.func6<|?_
 intro d;unfold Tk;refine A 8 ?_;refine bD λe f=>?_
 refine A 4 ?_;refine cD r ?_ ?_
 ·exact B
 ·refine A 5 ?_;refine bD λh i=>?_
  refine A 1 ?_;refine bD λb j=>?_
  refine A 8 ?_;refine bD λa k=>?_
  refine A 15 ?_;refine cD r ?_ ?_
  ·exact B
  ·refine A 9 ?_;refine lP (E:=λ(s:Int) (g:Nat×Nat)=>[(3,.optr 3 g.1 0 0),(4,.osl 4 g.2 0 a.length),(5,Av s)]) (O:=λ_ g=>[(3,dV g.1 1 28 (.agg [.sl (b.1.Funcs.map Pf)])),(4,dW g.2 7 48 (a.map Rp))]) (body:=λs=>VS b a s) (s:=0) (_,_) ((hX))<|?_
   rintro c ⟨m,o⟩ nn
   try dsimp only
   unfold VS;refine A 10 ?_;refine cD r ?_ ?_
   ·refine A 8 ?_;refine bD λp q=>?_
    refine A 9 ?_;refine bD λt u=>?_
    refine A 2 ?_;refine bD λv w=>?_
    refine A 3 ?_;refine Pj r ?_ ?_
    ·exact B
    ·refine A 3 ?_;refine bD λx y=>?_
     refine A 2 ?_;refine bD λz aa=>?_
     refine A 5 ?_;refine cD r ?_ ?_
     ·exact B
     ·refine A 8 ?_;exact xL (s:=i64.wrap (c+1)) (_,_) ((hX))
   ·exact B

end
end Go.Proofs.YtilmapojncgflaaGreatDoor
