/-
  Programs on typed data, and the proofs that the code does what they say; written by a program (dx.py).
-/
import Derived.Test.YtilmapojncgflaaGreatDoorProg
import Derived.Test.YtilmapojncgflaaGreatDoorDd
import Derived.KernelRfl
import Derived.Test.YtilmapojncgflaaGreatDoorDxP
import Derived.Test.YtilmapojncgflaaGreatDoorDxF1
import Derived.Test.YtilmapojncgflaaGreatDoorDxF2
import Derived.Test.YtilmapojncgflaaGreatDoorDxF3
import Derived.Test.YtilmapojncgflaaGreatDoorDxF6
open List renaming replicate->aA,eq_of_mem_replicate->aAA
namespace Go.Proofs.YtilmapojncgflaaGreatDoor
open Go Go.Dw Go.Proofs
open Go.IntKind (i64)
set_option maxRecDepth 100000
set_option maxHeartbeats 40000000
open Go.Dw renaming Ra -> bD,Qe -> cK,Abn -> bS,TC -> sE,ZS -> cD,AbR -> xC,XW -> xL,YX -> hE,AbS -> lP,XE -> sC,YV -> bC,rf -> r
noncomputable section
def XO (a:OV×Int×Int):List D:=[QC a.1,Av a.2.1,Av a.2.2]
def XN (ds:List D):OV×Int×Int:=(VA (ds.getD 0 .top),uI (ds.getD 1 .top),uI (ds.getD 2 .top))
instance:Py XO XN:=⟨λa=>by simp[XN,XO,uI]⟩
def AkO (b:Pk×OV):D:=XR b.1
def AkN (b:Pk×OV):List D:=[QC b.2]
def Aex:Dw.Spec:=OY [(0,(2,69))] .val XO XN (λa=>Xe a.1 a.2.1 a.2.2) AkO AkN
theorem AjQ:OW Tryz.prog 9 Aex:=by
 refine fn2 3 (OZ (l:=[(10,RL),(24,AdX)]) (by simp[Sb,Ajz])) Tryz.func9<|?_
 rintro⟨i,j,a⟩;unfold Xe;refine A 16 ?_;refine bD λc k=>?_
 refine A 5 ?_;refine lP (E:=λ(s:(List Int)×Int×(List Int)×Int) (g:Nat×Nat)=>[(0,.optr 8192 0 0 0),(2,Av a),(6,.optr 6 g.1 0 0),(7,.osl 7 g.2 0 s.2.2.1.length),(8,Av s.2.2.2)]) (O:=λs g=>[(6,dV g.1 1 28 (.agg [.nils])),(7,dW g.2 1 3 (s.2.2.1.map Le)),(8192,dV 0 2 69 (.agg [.sl (s.1.map eU8),Av s.2.1]))]) (body:=λs=>Yy a s.1 s.2.1 s.2.2.1 s.2.2.2) (s:=(c.2.list,c.2.at_,([0]:List Int),c.1)) (_,_) ((hX))<|?_
 rintro⟨c5,e,b,f⟩ ⟨m,o⟩ nn
 try dsimp only
 unfold Yy;refine A 7 ?_;refine cD r ?_ ?_
 ·refine A 7 ?_;refine bD λd p=>?_
  refine A 12 ?_;exact xL (s:=(d.2.list,d.2.at_,b++([d.1]:List Int),i64.wrap (f-1))) (_,_) ((hX))
 ·refine A 17 ?_;refine lP (E:=λ(s:(List Int)×Int×(List Mk)×Int×(List Int)) (g:Nat×Nat)=>[(0,.optr 8192 0 0 0),(2,Av a),(6,.optr 6 g.1 0 0),(7,.sl (s.2.2.2.2.map Le)),(9,.optr 9 g.2 0 0),(10,Av s.2.2.2.1)]) (O:=λs g=>[(6,dV g.1 1 28 (.agg [.nils])),(9,dV g.2 1 28 (.agg [.sl (s.2.2.1.map Pf)])),(8192,dV 0 2 69 (.agg [.sl (s.1.map eU8),Av s.2.1]))]) (body:=λs=>UX a s.1 s.2.1 s.2.2.1 s.2.2.2.1 s.2.2.2.2) (s:=(c5,e,[],0,b)) (_,_) ((Adz [(7,some (_,⟨true,false,1,3,b.map Le⟩))] ⟨⟨_,_,r,r,r⟩,trivial⟩ ⟨(PL r),(PL r),(PL r),(AaN (YW (l:=b) (en:=Le) r r r (by simp))),(PL r),(PL r),trivial⟩ ⟨(.inl r),(.inr ⟨_,_,_,_,r,r,r,r,Adw r ⟨(AaM Pf r),trivial⟩⟩),(.inl r),trivial⟩))<|?_
  rintro⟨q,t,u,v,w⟩ ⟨x,y⟩ nn
  try dsimp only
  unfold UX;refine A 9 ?_;refine cD r ?_ ?_
  ·refine A 13 ?_;refine bD λh z=>?_
   refine A 1 ?_;refine bS ([h.1]:List Mk) Pf r r r (by simp) r r r<|?_
   refine A 16 ?_;exact wf [11] λ_=>B
  ·exact B

def ApB (b:(List Px)):D:=.sl (b.map Rp)
def Aka:Dw.Spec:=OY [] (.row 7 48) ZI ZH (λa=>AeJ a) ApB noE
theorem AoY:OW Tryz.prog 21 Aka:=by
 refine fn2 1 (OZ (l:=[(14,Xp)]) (by simp[Aak])) Tryz.func21<|?_
 intro a;unfold AeJ;refine A 21 ?_;refine lP (E:=λ(s:(List Px)×Int) (g:Nat×Nat)=>[(1,.optr 1 g.1 0 0),(3,.osl 3 g.2 0 s.1.length),(7,Av (a.Funcs.length:Int)),(8,Av s.2)]) (O:=λs g=>[(1,dV g.1 1 28 (.agg [.sl (a.Funcs.map Pf)])),(3,dW g.2 7 48 (s.1.map Rp))]) (body:=λs=>Aax a s.1 s.2) (s:=(([]:List Px),0)) (_,_) ((hX))<|?_
 rintro⟨c,d⟩ ⟨e,f⟩ nn
 try dsimp only
 unfold Aax;refine A 6 ?_;refine cD r ?_ ?_
 ·refine A 14 ?_;refine bD λb h=>?_
  refine A 1 ?_;refine bS ([b]:List Px) Rp r r r (by simp) r r r<|?_
  refine A 9 ?_;exact xL (s:=(c++([b]:List Px),i64.wrap (d+1))) (_,_) ((hX))
 ·exact B

def Aiz:Dw.Spec:=OY [] (.row 1 3) AcU AcT (λa=>AbF a.1 a.2) PK noE
theorem Alv:OW Tryz.prog 130 Aiz:=by
 refine fn2 2 (Pp) Tryz.func130<|?_;rintro⟨c,b⟩;unfold AbF;refine A 6 ?_;refine sC (E:=λ(_s:Unit) (g:Nat)=>[(1,Av b),(2,.optr 2 g 0 0)]) (O:=λ_ g=>[(2,dV g 3 36 (Pf c))]) (j:=λ_=>Ada c b) ?_ ?_
 ·refine A 5 ?_;refine Pj r ?_ ?_
  ·exact B
  ·refine A 8 ?_;refine cD r ?_ ?_
   ·exact B
   ·refine A 1 ?_;exact xC (s:=()) _ ((hX))
 ·rintro⟨⟩ d nn
  try dsimp only
  unfold Ada;refine A 5 ?_;refine bD λa e=>?_
  refine A 20 ?_;refine cD r ?_ ?_
  ·exact B
  ·refine sC (E:=λ(s:Bool) (g:Nat)=>[(1,Av b),(5,.optr 5 g 0 0),(21,Av a.Op),(27,.bool s)]) (O:=λ_ g=>[(5,dV g 5 63 (Ph a))]) (j:=λs=>So a b s) ?_ ?_
   ·refine A 6 ?_;refine cD r ?_ ?_
    ·refine A 1 ?_;exact xC (s:=(a.Op==23)) _ ((hX))
    ·refine A 4 ?_;exact xC (s:=(a.Op==24)) _ ((hX))
   ·rintro f h nn
    try dsimp only
    unfold So;refine cD r ?_ ?_
    ·exact B
    ·refine A 6 ?_;refine cD r ?_ ?_
     ·refine A 11 ?_;refine cD r ?_ ?_
      ·refine A 6 ?_;refine bS ([a.B,i64.wrap (b+1)]:List Int) Le r r r (by simp) r r r<|?_
       exact B
      ·refine A 10 ?_;refine cD r ?_ ?_
       ·refine A 6 ?_;refine bS ([i64.wrap (b+1),a.B]:List Int) Le r r r (by simp) r r r<|?_
        exact B
       ·exact B
     ·exact B

def Aco:Dw.Spec:=OY [] .ground Ry Rx (λa=>SM a) Pe noE
theorem AgM:OW Tryz.prog 75 Aco:=by
 refine fn2 1 (Pp) Tryz.func75<|?_;intro a;unfold SM;exact B

def Xv:Dw.Spec:=OY [] .ground Ry Rx (λa=>Tb a) Adx noE
theorem Zn:OW Tryz.prog 78 Xv:=by
 refine fn2 1 (OZ (l:=[(75,Aco)]) (by simp[AgM])) Tryz.func78<|?_
 intro a;unfold Tb;exact B

def Akh:Dw.Spec:=OY [] (.row 1 3) Qx Qw (λa=>Abh a.1 a.2) PK noE
theorem Apb:OW Tryz.prog 177 Akh:=by
 refine fn2 2 (Pp) Tryz.func177<|?_;rintro⟨a,b⟩;unfold Abh;refine A 17 ?_;refine lP (E:=λ(s:(List Int)×Int) (g:Nat)=>[(0,.sl (a.map Le)),(1,Av b),(5,.osl 5 g 0 s.1.length),(6,Av s.2)]) (O:=λs g=>[(5,dW g 1 3 (s.1.map Le))]) (body:=λs=>TM a b s.1 s.2) (s:=(([]:List Int),0)) _ ((hX))<|?_
 rintro⟨c,d⟩ f nn
 try dsimp only
 unfold TM;refine A 9 ?_;refine cD r ?_ ?_
 ·refine A 8 ?_;refine bD λh i=>?_
  refine A 6 ?_;refine cD r ?_ ?_
  ·refine A 4 ?_;refine bD λe j=>?_
   refine A 13 ?_;exact xL (s:=(c++([e]:List Int),i64.wrap (d+1))) _ ((hX))
  ·refine A 8 ?_;exact xL (s:=(c,i64.wrap (d+1))) _ ((hX))
 ·exact B

def AiB:Dw.Spec:=OY [] (.row 1 3) Ry Rx (λa=>Vu a) PK noE
theorem Alw:OW Tryz.prog 77 AiB:=by
 refine fn2 1 (Pp) Tryz.func77<|?_;intro a;unfold Vu;exact B

def Aiy:Dw.Spec:=OY [] .ground PU PT (λa=>Xu a) Pe noE
theorem Als:OW Tryz.prog 133 Aiy:=by
 refine fn2 1 (Pp) Tryz.func133<|?_;intro a;unfold Xu;exact B

def Agp:Dw.Spec:=OY [] (.row 1 3) Qx Qw (λa=>Xt a.1 a.2) PK noE
theorem Aix:OW Tryz.prog 79 Agp:=by
 refine fn2 2 (OZ (l:=[(133,Aiy)]) (by simp[Als])) Tryz.func79<|?_
 rintro⟨b,a⟩;unfold Xt;refine A 13 ?_;refine bD λf o=>?_
 refine A 12 ?_;refine lP (E:=λ(s:(List Int)×Bool×Int) (g:Nat)=>[(0,.sl (b.map Le)),(1,Av a),(5,.osl 5 g 0 s.1.length),(6,.bool s.2.1),(7,Av s.2.2)]) (O:=λs g=>[(5,dW g 1 3 (s.1.map Le))]) (body:=λs=>Si b a s.1 s.2.1 s.2.2) (s:=(([]:List Int),(!f),0)) _ ((hX))<|?_
 rintro⟨c,e,d⟩ p nn
 try dsimp only
 unfold Si;refine A 9 ?_;refine cD r ?_ ?_
 ·refine A 4 ?_;refine sC (E:=λ(s:(List Int)×Bool) (g:Nat)=>[(0,.sl (b.map Le)),(1,Av a),(5,.osl 5 g 0 s.1.length),(6,.bool s.2),(7,Av d)]) (O:=λs g=>[(5,dW g 1 3 (s.1.map Le))]) (j:=λs=>TL b d s.1 s.2) ?_ ?_
  ·refine sC (E:=λ(s:Bool) (g:Nat)=>[(0,.sl (b.map Le)),(1,Av a),(5,.osl 5 g 0 c.length),(6,.bool e),(7,Av d),(26,.bool s)]) (O:=λ_ g=>[(5,dW g 1 3 (c.map Le))]) (j:=λs=>UN b d a c e s) ?_ ?_
   ·refine A 4 ?_;refine Pj r ?_ ?_
    ·refine A 2 ?_;refine bD λh q=>?_
     refine A 6 ?_;exact xC (s:=(decide (h>=a))) _ ((hX))
    ·refine A 8 ?_;exact xC (s:=false) _ ((hX))
   ·rintro t u nn
    try dsimp only
    unfold UN;refine cD r ?_ ?_
    ·refine A 5 ?_;refine bD λv w=>?_
     refine A 6 ?_;refine cD r ?_ ?_
     ·refine A 11 ?_;exact xC (s:=(c++([a]:List Int),true)) _ ((hX))
     ·refine A 5 ?_;exact xC (s:=(c,true)) _ ((hX))
    ·refine A 1 ?_;exact xC (s:=(c,e)) _ ((hX))
  ·rintro⟨i,k⟩ x nn
   try dsimp only
   unfold TL;refine A 4 ?_;refine bD λm y=>?_
   refine A 13 ?_;exact xL (s:=(i++([m]:List Int),k,i64.wrap (d+1))) _ ((hX))
 ·exact B

def Zz:Dw.Spec:=OY [] (.row 1 3) RY RX (λa=>Uw a.1 a.2) PK noE
theorem AbD:OW Tryz.prog 76 Zz:=by
 refine fn2 2 (OZ (l:=[(79,Agp)]) (by simp[Aix])) Tryz.func76<|?_
 rintro⟨b,a⟩;unfold Uw;refine A 19 ?_;refine lP (E:=λ(s:(List Int)×Int) (g:Nat)=>[(1,.sl (a.map Le)),(5,.osl 5 g 0 s.1.length),(6,Av s.2)]) (O:=λs g=>[(5,dW g 1 3 (s.1.map Le))]) (body:=λs=>VD a s.1 s.2) (s:=(([]:List Int)++b,0)) _ ((hX))<|?_
 rintro⟨e,c⟩ f nn
 try dsimp only
 unfold VD;refine A 9 ?_;refine cD r ?_ ?_
 ·refine A 8 ?_;refine bD λh i=>?_
  refine A 2 ?_;refine bD λd j=>?_
  refine A 10 ?_;exact xL (s:=(d,i64.wrap (c+1))) _ ((hX))
 ·exact B

def Alc:Dw.Spec:=OY [] (.row 1 3) WJ WI (λa=>AfO a.1 a.2) PK noE
theorem AnP:OW Tryz.prog 132 Alc:=by
 refine fn2 2 (OZ (l:=[(78,Xv),(177,Akh),(77,AiB),(76,Zz)]) (by simp[Zn,Apb,Alw,AbD])) Tryz.func132<|?_
 intro a;unfold AfO;exact B

def AmH:Dw.Spec:=OY [] .val PQ PO (λa=>AeP a.1 a.2) VU noE
theorem Aqz:OW Tryz.prog 85 AmH:=by
 refine fn2 2 (OZ (l:=[(130,Aiz),(132,Alc),(76,Zz)]) (by simp[Alv,AnP,AbD])) Tryz.func85<|?_
 rintro⟨a,c⟩;unfold AeP;refine A 12 ?_;refine cK λhq=>Vz (α:=Int) r r r hq r<|?_
 refine A 4 ?_;refine Qg (E:=[(2,.optr 2 _ 0 0),(3,.optr 3 _ 0 0),(4,.optr 4 _ 0 0),(5,.optr 5 _ 0 0)]) (O:=[(2,dV _ 3 36 (Pf a)),(3,dV _ 1 40 (.agg [.sl (c.Out.map (eL Le))])),(4,dV _ 1 40 (.agg [.nils])),(5,dV _ 1 40 (.agg [.osl 13 _ 0 ((aA (a.Code.length:Int).toNat ([]:(List Int))).length)])),(13,dW _ 1 41 ((aA (a.Code.length:Int).toNat ([]:(List Int))).map (eL Le)))]) ((AiX (g:=13) r (AkX (l:=aA (a.Code.length:Int).toNat ([]:(List Int))) Le (λ_ h=>aAA h)) (hX))) λnn=>?_
 refine A 7 ?_;refine lP (E:=λ(s:(List (List Int))×Int) (g:Nat×Nat×Nat×Nat×Nat)=>[(2,.optr 2 g.1 0 0),(3,.optr 3 g.2.1 0 0),(4,.optr 4 g.2.2.1 0 0),(5,.optr 5 g.2.2.2.1 0 0),(6,Av s.2)]) (O:=λs g=>[(2,dV g.1 3 36 (Pf a)),(3,dV g.2.1 1 40 (.agg [.sl (c.Out.map (eL Le))])),(4,dV g.2.2.1 1 40 (.agg [.nils])),(5,dV g.2.2.2.1 1 40 (.agg [.osl 13 g.2.2.2.2 0 s.1.length])),(13,dW g.2.2.2.2 1 41 (s.1.map (eL Le)))]) (body:=λs=>WQ a c s.1 s.2) (s:=(aA (a.Code.length:Int).toNat ([]:(List Int)),0)) (_,_,_,_,_) ((hX))<|?_
 rintro⟨i,d⟩ ⟨q,t,u,v,w⟩ nn
 try dsimp only
 unfold WQ;refine A 10 ?_;refine cD r ?_ ?_
 ·refine A 2 ?_;refine bC (E:=λ(_s:(List (List Int))) (g:Nat×Nat×Nat×Nat×Nat)=>[(2,.optr 2 g.1 0 0),(3,.optr 3 g.2.1 0 0),(4,.optr 4 g.2.2.1 0 0),(5,.optr 5 g.2.2.2.1 0 0),(6,Av d)]) (O:=λs g=>[(2,dV g.1 3 36 (Pf a)),(3,dV g.2.1 1 40 (.agg [.sl (c.Out.map (eL Le))])),(4,dV g.2.2.1 1 40 (.agg [.nils])),(5,dV g.2.2.2.1 1 40 (.agg [.osl 13 g.2.2.2.2 0 s.length])),(13,dW g.2.2.2.2 1 41 (s.map (eL Le)))]) (j:=λs=>Adb d s) ?_ ?_
  ·refine A 4 ?_;refine bD λf x=>?_
   refine A 10 ?_;refine lP (E:=λ(s:(List (List Int))×Int) (g:Nat×Nat×Nat×Nat×Nat×Nat)=>[(2,.optr 2 g.1 0 0),(3,.optr 3 g.2.1 0 0),(4,.optr 4 g.2.2.1 0 0),(5,.optr 5 g.2.2.2.1 0 0),(6,Av d),(7,.osl 7 g.2.2.2.2.1 0 f.length),(8,Av s.2)]) (O:=λs g=>[(2,dV g.1 3 36 (Pf a)),(3,dV g.2.1 1 40 (.agg [.sl (c.Out.map (eL Le))])),(4,dV g.2.2.1 1 40 (.agg [.nils])),(5,dV g.2.2.2.1 1 40 (.agg [.osl 13 g.2.2.2.2.2 0 s.1.length])),(7,dW g.2.2.2.2.1 1 3 (f.map Le)),(13,dW g.2.2.2.2.2 1 41 (s.1.map (eL Le)))]) (body:=λs=>WR f d a c s.1 s.2) (s:=(i,0)) (_,_,_,_,_,_) ((hX))<|?_
   rintro⟨e,m⟩ ⟨y,z,aa,ab,ac,ad⟩ nn
   try dsimp only
   unfold WR;refine A 9 ?_;refine cD r ?_ ?_
   ·refine A 9 ?_;refine bD λae af=>?_
    refine A 12 ?_;refine bD λag ah=>?_
    refine A 4 ?_;refine bD λai aj=>?_
    refine A 5 ?_;refine bD λak ao=>?_
    refine A 2 ?_;refine bD λap aq=>?_
    refine A 1 ?_;refine bD λk ar=>?_
    refine A 2 ?_;refine bD λau o=>sE (l:=e) (en:=(eL Le)) (q':=k) r r r r r r r (by simp) o r r r (by simp[Qu,cells,setAt,eL]) r<|?_
    refine A 8 ?_;exact xL (s:=(e.set d.toNat k,i64.wrap (m+1))) (_,_,_,_,_,_) ((hE ⟨rfl,r,r,r,r,r,r,trivial⟩ ⟨rfl,r,r,(Eq.trans (b:=dV _ 1 40 (.agg [.osl 13 _ 0 e.length])) r (by simp)),r,r,trivial⟩))
   ·refine A 4 ?_;exact PS (s:=e) (_,_,_,_,_) ((hX))
  ·rintro p ⟨av,aw,ax,ay,az⟩ nn
   try dsimp only
   unfold Adb;refine A 5 ?_;exact xL (s:=(p,i64.wrap (d+1))) (_,_,_,_,_) ((hX))
 ·refine A 12 ?_;refine Aeg (b:=(Pg.mk i)) r ?_ r r ?_ (by first|rfl|(simp only[Lo];rfl)|(simp only[OQ];rfl)|(simp only[Lo,OQ];rfl)|(simp[VU,Uu];try rfl))
  all_goals first|(simp;done)|(simp;omega)|rfl|(simp[Qr,Qm];done)

def AmG:Dw.Spec:=OY [] .ground RY RX (λa=>AeN a.1 a.2) Pe noE
theorem Aqy:OW Tryz.prog 137 AmG:=by
 refine fn2 2 (Pp) Tryz.func137<|?_;rintro⟨a,b⟩;unfold AeN;refine A 15 ?_;refine cD r ?_ ?_
 ·exact B
 ·refine A 9 ?_;refine lP (E:=λ(s:Int) (_g:Unit)=>[(0,.sl (a.map Le)),(1,.sl (b.map Le)),(5,Av s)]) (O:=λ_ _=>[]) (body:=λs=>Ve a b s) (s:=0) () ((hX))<|?_
  rintro c ⟨⟩ nn
  try dsimp only
  unfold Ve;refine A 9 ?_;refine cD r ?_ ?_
  ·refine A 8 ?_;refine bD λd e=>?_
   refine A 4 ?_;refine bD λf g=>?_
   refine A 5 ?_;refine cD r ?_ ?_
   ·exact B
   ·refine A 8 ?_;exact xL (s:=i64.wrap (c+1)) () ((hX))
  ·exact B

def Acn (a:(List (List Int))×(List (List Int))):List D:=[.sl (a.1.map (eL Le)),.sl (a.2.map (eL Le))]
def Acm (ds:List D):(List (List Int))×(List (List Int)):=((uL (uL uI)) (ds.getD 0 .top),(uL (uL uI)) (ds.getD 1 .top))
instance:Py Acn Acm:=⟨λa=>by simp[Acm,Acn,Qb (u:=(uL uI)) (en:=(eL Le)) (Qb (u:=uI) (en:=Le) (λ_=>rfl))]⟩
def Ajb:Dw.Spec:=OY [] .ground Acn Acm (λa=>Zy a.1 a.2) Pe noE
theorem Aoq:OW Tryz.prog 96 Ajb:=by
 refine fn2 2 (OZ (l:=[(137,AmG)]) (by simp[Aqy])) Tryz.func96<|?_
 rintro⟨a,b⟩;unfold Zy;refine A 15 ?_;refine cD r ?_ ?_
 ·exact B
 ·refine A 9 ?_;refine lP (E:=λ(s:Int) (_g:Unit)=>[(0,.sl (a.map (eL Le))),(1,.sl (b.map (eL Le))),(5,Av s)]) (O:=λ_ _=>[]) (body:=λs=>Tg a b s) (s:=0) () ((hX))<|?_
  rintro c ⟨⟩ nn
  try dsimp only
  unfold Tg;refine A 9 ?_;refine cD r ?_ ?_
  ·refine A 8 ?_;refine bD λd e=>?_
   refine A 4 ?_;refine bD λf g=>?_
   refine A 2 ?_;refine bD λh i=>?_
   refine A 4 ?_;refine cD r ?_ ?_
   ·exact B
   ·refine A 8 ?_;exact xL (s:=i64.wrap (c+1)) () ((hX))
  ·exact B

def AfQ (a:Pg×Pg):List D:=[Uu a.1,Uu a.2]
def AfP (ds:List D):Pg×Pg:=(Zs (ds.getD 0 .top),Zs (ds.getD 1 .top))
instance:Py AfQ AfP:=⟨λa=>by simp[AfP,AfQ]⟩
def AiC:Dw.Spec:=OY [] .ground AfQ AfP (λa=>Vv a.1 a.2) Pe noE
theorem Alx:OW Tryz.prog 54 AiC:=by
 refine fn2 2 (OZ (l:=[(96,Ajb)]) (by simp[Aoq])) Tryz.func54<|?_
 intro a;unfold Vv;exact B

def Aly:Dw.Spec:=OY [] .val TJ TI (λa=>AcD a) VU noE
theorem ApH:OW Tryz.prog 47 Aly:=by
 refine fn2 1 (OZ (l:=[(85,AmH),(54,AiC)]) (by simp[Aqz,Alx])) Tryz.func47<|?_
 intro a;unfold AcD;refine A 11 ?_;refine cK λhq=>Vz (α:=Int) r r r hq r<|?_
 refine A 4 ?_;refine Qg (E:=[(1,.optr 1 _ 0 0),(2,.optr 2 _ 0 0),(3,.optr 3 _ 0 0)]) (O:=[(1,dV _ 3 36 (Pf a)),(2,dV _ 1 40 (.agg [.nils])),(3,dV _ 1 40 (.agg [.osl 8 _ 0 ((aA (a.Code.length:Int).toNat ([]:(List Int))).length)])),(8,dW _ 1 41 ((aA (a.Code.length:Int).toNat ([]:(List Int))).map (eL Le)))]) ((AiX (g:=8) r (AkX (l:=aA (a.Code.length:Int).toNat ([]:(List Int))) Le (λ_ h=>aAA h)) (hX))) λnn=>?_
 refine A 1 ?_;refine lP (E:=λ(_s:(List (List Int))) (g:Nat×Nat×Nat)=>[(1,.optr 1 g.1 0 0),(2,.optr 2 g.2.1 0 0),(3,.optr 3 g.2.2 0 0)]) (O:=λs g=>[(1,dV g.1 3 36 (Pf a)),(2,dV g.2.1 1 40 (.agg [.nils])),(3,dV g.2.2 1 40 (.agg [.sl (s.map (eL Le))]))]) (body:=λs=>AbG a s) (s:=aA (a.Code.length:Int).toNat ([]:(List Int))) (_,_,_) ((Adz [(8,some (_,⟨true,false,1,41,(aA (a.Code.length:Int).toNat ([]:(List Int))).map (eL Le)⟩))] ⟨⟨_,_,r,r,r⟩,trivial⟩ ⟨(PL r),(PL r),(PL r),trivial⟩ ⟨(.inl r),(.inl r),(.inr ⟨_,_,_,_,r,r,r,r,Adw r ⟨(YW (l:=aA (a.Code.length:Int).toNat ([]:(List Int))) (en:=(eL Le)) r r r (by simp)),trivial⟩⟩),trivial⟩))<|?_
 rintro c ⟨d,e,f⟩ nn
 try dsimp only
 unfold AbG;refine A 5 ?_;refine bD λb i=>?_
 refine A 10 ?_;refine bD λj k=>?_
 refine A 3 ?_;refine cD r ?_ ?_
 ·exact B
 ·refine A 7 ?_;exact xL (s:=b.Out) (_,_,_) ((hX))

def Ahe:Dw.Spec:=OY [] .ground SF SE (λa=>AcB a) Pe noE
theorem Akg:OW Tryz.prog 72 Ahe:=by
 refine fn2 1 (OZ (l:=[(133,Aiy)]) (by simp[Als])) Tryz.func72<|?_
 intro a;unfold AcB;refine A 12 ?_;refine lP (E:=λ(s:Int) (_g:Unit)=>[(0,.sl (a.map Le)),(3,Av s)]) (O:=λ_ _=>[]) (body:=λs=>Tn a s) (s:=0) () ((hX))<|?_
 rintro b ⟨⟩ nn
 try dsimp only
 unfold Tn;refine A 9 ?_;refine cD r ?_ ?_
 ·refine A 8 ?_;refine bD λc d=>?_
  refine A 2 ?_;refine bD λe f=>?_
  refine A 3 ?_;refine Pj r ?_ ?_
  ·exact B
  ·refine A 3 ?_;refine Pj r ?_ ?_
   ·refine A 2 ?_;refine bD λg h=>?_
    refine A 5 ?_;refine bD λi j=>?_
    refine A 7 ?_;refine cD r ?_ ?_
    ·exact B
    ·refine A 8 ?_;exact xL (s:=i64.wrap (b+1)) () ((hX))
   ·refine A 23 ?_;exact xL (s:=i64.wrap (b+1)) () ((hX))
 ·exact B

def Ahf:Dw.Spec:=OY [] .ground PQ PO (λa=>AcE a.1 a.2) Pe noE
theorem Aki:OW Tryz.prog 35 Ahf:=by
 refine fn2 2 (OZ (l:=[(72,Ahe)]) (by simp[Akg])) Tryz.func35<|?_
 rintro⟨a,b⟩;unfold AcE;refine A 19 ?_;refine cD r ?_ ?_
 ·exact B
 ·refine A 9 ?_;refine lP (E:=λ(s:Int) (g:Nat×Nat)=>[(2,.optr 2 g.1 0 0),(3,.optr 3 g.2 0 0),(5,Av s)]) (O:=λ_ g=>[(2,dV g.1 3 36 (Pf a)),(3,dV g.2 1 40 (.agg [.sl (b.Out.map (eL Le))]))]) (body:=λs=>AfS b a s) (s:=0) (_,_) ((hX))<|?_
  rintro c ⟨d,e⟩ nn
  try dsimp only
  unfold AfS;refine A 10 ?_;refine cD r ?_ ?_
  ·refine A 10 ?_;refine bD λf h=>?_
   refine A 2 ?_;refine bD λi j=>?_
   refine A 4 ?_;refine cD r ?_ ?_
   ·exact B
   ·refine A 7 ?_;refine bD λk m=>?_
    refine A 11 ?_;refine Pj r ?_ ?_
    ·refine A 3 ?_;refine bD λo p=>?_
     refine A 4 ?_;refine bD λq t=>?_
     refine A 9 ?_;refine cD r ?_ ?_
     ·exact B
     ·refine A 8 ?_;exact xL (s:=i64.wrap (c+1)) (_,_) ((hX))
    ·refine A 25 ?_;exact xL (s:=i64.wrap (c+1)) (_,_) ((hX))
  ·exact B

def ZM:Dw.Spec:=OY [] .ground Qx Qw (λa=>UO a.1 a.2) Pe noE
theorem Abg:OW Tryz.prog 92 ZM:=by
 refine fn2 2 (Pp) Tryz.func92<|?_;rintro⟨a,b⟩;unfold UO;refine A 12 ?_;refine lP (E:=λ(s:Int) (_g:Unit)=>[(0,.sl (a.map Le)),(1,Av b),(5,Av s)]) (O:=λ_ _=>[]) (body:=λs=>YJ a b s) (s:=0) () ((hX))<|?_
 rintro c ⟨⟩ nn
 try dsimp only
 unfold YJ;refine A 9 ?_;refine cD r ?_ ?_
 ·refine A 8 ?_;refine bD λd e=>?_
  refine A 6 ?_;refine cD r ?_ ?_
  ·exact B
  ·refine A 8 ?_;exact xL (s:=i64.wrap (c+1)) () ((hX))
 ·exact B

def Alr:Dw.Spec:=OY [] (.row 1 3) RY RX (λa=>AcC a.1 a.2) PK noE
theorem ApF:OW Tryz.prog 131 Alr:=by
 refine fn2 2 (OZ (l:=[(92,ZM)]) (by simp[Abg])) Tryz.func131<|?_
 rintro⟨a,b⟩;unfold AcC;refine A 17 ?_;refine lP (E:=λ(s:(List Int)×Int) (g:Nat)=>[(0,.sl (a.map Le)),(1,.sl (b.map Le)),(5,.osl 5 g 0 s.1.length),(6,Av s.2)]) (O:=λs g=>[(5,dW g 1 3 (s.1.map Le))]) (body:=λs=>Uj a b s.1 s.2) (s:=(([]:List Int),0)) _ ((hX))<|?_
 rintro⟨c,d⟩ f nn
 try dsimp only
 unfold Uj;refine A 9 ?_;refine cD r ?_ ?_
 ·refine A 9 ?_;refine bD λh i=>?_
  refine A 2 ?_;refine bD λj k=>?_
  refine A 4 ?_;refine cD r ?_ ?_
  ·refine A 4 ?_;refine bD λe m=>?_
   refine A 13 ?_;exact xL (s:=(c++([e]:List Int),i64.wrap (d+1))) _ ((hX))
  ·refine A 8 ?_;exact xL (s:=(c,i64.wrap (d+1))) _ ((hX))
 ·exact B

def Ym (a:Mk×Pg×Int):List D:=[Pf a.1,Uu a.2.1,Av a.2.2]
def Yl (ds:List D):Mk×Pg×Int:=(Td (ds.getD 0 .top),Zs (ds.getD 1 .top),uI (ds.getD 2 .top))
instance:Py Ym Yl:=⟨λa=>by simp[Yl,Ym,uI]⟩
def Ajd:Dw.Spec:=OY [] (.row 1 3) Ym Yl (λa=>ZA a.1 a.2.1 a.2.2) PK noE
theorem Aos:OW Tryz.prog 71 Ajd:=by
 refine fn2 3 (OZ (l:=[(130,Aiz),(132,Alc),(131,Alr),(76,Zz)]) (by simp[Alv,AnP,ApF,AbD])) Tryz.func71<|?_
 rintro⟨b,c,d⟩;unfold ZA;refine A 16 ?_;refine bD λa h=>?_
 refine A 11 ?_;refine lP (E:=λ(s:(List Int)×Int) (g:Nat×Nat×Nat×Nat)=>[(2,Av d),(3,.optr 3 g.1 0 0),(4,.optr 4 g.2.1 0 0),(7,.osl 7 g.2.2.1 0 s.1.length),(8,.osl 8 g.2.2.2 0 a.length),(9,Av s.2)]) (O:=λs g=>[(3,dV g.1 3 36 (Pf b)),(4,dV g.2.1 1 40 (.agg [.sl (c.Out.map (eL Le))])),(7,dW g.2.2.1 1 3 (s.1.map Le)),(8,dW g.2.2.2 1 3 (a.map Le))]) (body:=λs=>Uk a b c d s.1 s.2) (s:=(([]:List Int),0)) (_,_,_,_) ((hX))<|?_
 rintro⟨i,e⟩ ⟨j,k,m,o⟩ nn
 try dsimp only
 unfold Uk;refine A 9 ?_;refine cD r ?_ ?_
 ·refine A 9 ?_;refine bD λp q=>?_
  refine A 9 ?_;refine bD λt u=>?_
  refine A 5 ?_;refine bD λv w=>?_
  refine A 2 ?_;refine bD λx y=>?_
  refine A 4 ?_;refine bD λz aa=>?_
  refine A 2 ?_;refine bD λab ac=>?_
  refine A 1 ?_;refine bD λf ad=>?_
  refine A 10 ?_;exact xL (s:=(f,i64.wrap (e+1))) (_,_,_,_) ((hX))
 ·exact B

def AlA:Dw.Spec:=OY [] .ground PQ PO (λa=>Agr a.1 a.2) Ahx noE
theorem ApJ:OW Tryz.prog 34 AlA:=by
 refine fn2 2 (OZ (l:=[(35,Ahf),(71,Ajd)]) (by simp[Aki,Aos])) Tryz.func34<|?_
 rintro⟨a,b⟩;unfold Agr;refine A 14 ?_;refine bD λd e=>?_
 refine A 4 ?_;refine cD r ?_ ?_
 ·exact B
 ·refine A 9 ?_;refine lP (E:=λ(s:Int) (g:Nat×Nat)=>[(2,.optr 2 g.1 0 0),(3,.optr 3 g.2 0 0),(7,Av s)]) (O:=λ_ g=>[(2,dV g.1 3 36 (Pf a)),(3,dV g.2 1 40 (.agg [.sl (b.Out.map (eL Le))]))]) (body:=λs=>AfR a b s) (s:=0) (_,_) ((hX))<|?_
  rintro c ⟨f,h⟩ nn
  try dsimp only
  unfold AfR;refine A 10 ?_;refine cD r ?_ ?_
  ·refine A 9 ?_;refine bD λi j=>?_
   refine A 11 ?_;refine cD r ?_ ?_
   ·exact B
   ·refine A 8 ?_;exact xL (s:=i64.wrap (c+1)) (_,_) ((hX))
  ·exact B

def Alz:Dw.Spec:=OY [] .ground PQ PO (λa=>Agq a.1 a.2) Pb noE
theorem ApI:OW Tryz.prog 16 Alz:=by
 refine fn2 2 (OZ (l:=[(34,AlA),(35,Ahf)]) (by simp[ApJ,Aki])) Tryz.func16<|?_
 intro a;unfold Agq;exact B

def AeR (a:Mk×Pg×Bool):List D:=[Pf a.1,Uu a.2.1,.bool a.2.2]
def AeQ (ds:List D):Mk×Pg×Bool:=(Td (ds.getD 0 .top),Zs (ds.getD 1 .top),uBo (ds.getD 2 .top))
instance:Py AeR AeQ:=⟨λa=>by simp[AeQ,AeR,uBo]⟩
def Ahg:Dw.Spec:=OY [] .val AeR AeQ (λa=>AcG a.1 a.2.1 a.2.2) QG noE
theorem Akk:OW Tryz.prog 86 Ahg:=by
 refine fn2 3 (OZ (l:=[(16,Alz),(78,Xv),(79,Agp)]) (by simp[ApI,Zn,Aix])) Tryz.func86<|?_
 rintro⟨d,f,c⟩;unfold AcG;refine A 13 ?_;refine bD λw x=>?_
 refine A 10 ?_;refine cD r ?_ ?_
 ·exact B
 ·refine A 7 ?_;refine cK λhq=>Vz (α:=Int) r r r hq r<|?_
  refine A 2 ?_;refine Qg (E:=[(2,.bool c),(3,.optr 3 _ 0 0),(4,.optr 4 _ 0 0),(9,.osl 9 _ 0 ((aA (d.Slots.length:Int).toNat ([]:(List Int))).length))]) (O:=[(3,dV _ 3 36 (Pf d)),(4,dV _ 1 40 (.agg [.sl (f.Out.map (eL Le))])),(9,dW _ 1 41 ((aA (d.Slots.length:Int).toNat ([]:(List Int))).map (eL Le)))]) ((AiX (g:=9) r (AkX (l:=aA (d.Slots.length:Int).toNat ([]:(List Int))) Le (λ_ h=>aAA h)) (hX))) λnn=>?_
  refine A 7 ?_;refine lP (E:=λ(s:(List (List Int))×Int) (g:Nat×Nat×Nat)=>[(2,.bool c),(3,.optr 3 g.1 0 0),(4,.optr 4 g.2.1 0 0),(9,.osl 9 g.2.2 0 s.1.length),(10,Av s.2)]) (O:=λs g=>[(3,dV g.1 3 36 (Pf d)),(4,dV g.2.1 1 40 (.agg [.sl (f.Out.map (eL Le))])),(9,dW g.2.2 1 41 (s.1.map (eL Le)))]) (body:=λs=>AfT d f c s.1 s.2) (s:=(aA (d.Slots.length:Int).toNat ([]:(List Int)),0)) (_,_,_) ((hX))<|?_
  rintro⟨m,i⟩ ⟨y,z,aa⟩ nn
  try dsimp only
  unfold AfT;refine A 10 ?_;refine cD r ?_ ?_
  ·refine A 2 ?_;refine bC (E:=λ(s:Int×Int×Int×Int×Int×(List (List Int))) (g:Nat×Nat×Nat)=>[(2,.bool c),(3,.optr 3 g.1 0 0),(4,.optr 4 g.2.1 0 0),(9,.osl 9 g.2.2 0 s.2.2.2.2.2.length),(10,Av i)]) (O:=λs g=>[(3,dV g.1 3 36 (Pf d)),(4,dV g.2.1 1 40 (.agg [.sl (f.Out.map (eL Le))])),(9,dW g.2.2 1 41 (s.2.2.2.2.2.map (eL Le)))]) (j:=λs=>Un i s.1 s.2.1 s.2.2.1 s.2.2.2.1 s.2.2.2.2.1 s.2.2.2.2.2) ?_ ?_
   ·refine A 5 ?_;refine bD λa ab=>?_
    refine A 9 ?_;refine bD λb ac=>?_
    refine A 8 ?_;refine sC (E:=λ(_s:Unit) (g:Nat×Nat×Nat×Nat)=>[(2,.bool c),(3,.optr 3 g.1 0 0),(4,.optr 4 g.2.1 0 0),(9,.osl 9 g.2.2.1 0 m.length),(10,Av i),(11,.optr 11 g.2.2.2 0 0),(12,Av b.1),(13,.bool b.2)]) (O:=λ_ g=>[(3,dV g.1 3 36 (Pf d)),(4,dV g.2.1 1 40 (.agg [.sl (f.Out.map (eL Le))])),(9,dW g.2.2.1 1 41 (m.map (eL Le))),(11,dV g.2.2.2 5 63 (Ph a))]) (j:=λ_=>YM f i b c a m) ?_ ?_
    ·refine A 6 ?_;refine Pj r ?_ ?_
     ·refine A 8 ?_;refine cD r ?_ ?_
      ·refine A 2 ?_;exact Tc (s:=(a.Op,a.A,a.B,a.C,a.Imm,m)) (_,_,_) ((hX))
      ·refine A 1 ?_;exact xC (s:=()) (_,_,_,_) ((hX))
     ·refine A 10 ?_;exact xC (s:=()) (_,_,_,_) ((hX))
    ·rintro⟨⟩ ⟨ad,ae,af,ag⟩ nn
     try dsimp only
     unfold YM;refine A 6 ?_;refine lP (E:=λ(s:(List (List Int))×Int) (g:Nat×Nat×Nat×Nat)=>[(2,.bool c),(3,.optr 3 g.1 0 0),(4,.optr 4 g.2.1 0 0),(9,.osl 9 g.2.2.1 0 s.1.length),(10,Av i),(11,.optr 11 g.2.2.2 0 0),(12,Av b.1),(13,.bool b.2),(14,Av s.2)]) (O:=λs g=>[(3,dV g.1 3 36 (Pf d)),(4,dV g.2.1 1 40 (.agg [.sl (f.Out.map (eL Le))])),(9,dW g.2.2.1 1 41 (s.1.map (eL Le))),(11,dV g.2.2.2 5 63 (Ph a))]) (body:=λs=>YL f i b c a s.1 s.2) (s:=(m,0)) (_,_,_,_) ((hX))<|?_
     rintro⟨e,k⟩ ⟨ah,ai,aj,ak⟩ nn
     try dsimp only
     unfold YL;refine sC (E:=λ(_s:Unit) (g:Nat×Nat×Nat×Nat)=>[(2,.bool c),(3,.optr 3 g.1 0 0),(4,.optr 4 g.2.1 0 0),(9,.osl 9 g.2.2.1 0 e.length),(10,Av i),(11,.optr 11 g.2.2.2 0 0),(12,Av b.1),(13,.bool b.2),(14,Av k),(62,.bool b.2)]) (O:=λ_ g=>[(3,dV g.1 3 36 (Pf d)),(4,dV g.2.1 1 40 (.agg [.sl (f.Out.map (eL Le))])),(9,dW g.2.2.1 1 41 (e.map (eL Le))),(11,dV g.2.2.2 5 63 (Ph a))]) (j:=λ_=>AbI f i k b e c a) ?_ ?_
     ·refine A 6 ?_;refine bD λao ap=>?_
      refine A 5 ?_;refine Pj r ?_ ?_
      ·refine A 4 ?_;refine cD r ?_ ?_
       ·refine A 1 ?_;exact xC (s:=()) (_,_,_,_) ((hX))
       ·refine A 4 ?_;exact PS (s:=(a.Op,a.A,a.B,a.C,a.Imm,e)) (_,_,_) ((hX))
      ·refine A 9 ?_;exact PS (s:=(a.Op,a.A,a.B,a.C,a.Imm,e)) (_,_,_) ((hX))
     ·rintro⟨⟩ ⟨aq,ar,au,av⟩ nn
      try dsimp only
      unfold AbI;refine A 7 ?_;refine bD λaw ax=>?_
      refine A 3 ?_;refine bD λo ay=>?_
      refine A 5 ?_;refine sC (E:=λ(s:Bool×Bool×Bool×Bool) (g:Nat×Nat×Nat×Nat)=>[(2,.bool c),(3,.optr 3 g.1 0 0),(4,.optr 4 g.2.1 0 0),(9,.osl 9 g.2.2.1 0 e.length),(10,Av i),(11,.optr 11 g.2.2.2 0 0),(12,Av b.1),(13,.bool b.2),(14,Av k),(15,Av o),(62,.bool b.2),(78,.bool c),(79,.bool (!c)),(80,.bool s.1),(84,.bool s.2.1),(85,.bool s.2.2.1),(90,.bool s.2.2.2)]) (O:=λ_ g=>[(3,dV g.1 3 36 (Pf d)),(4,dV g.2.1 1 40 (.agg [.sl (f.Out.map (eL Le))])),(9,dW g.2.2.1 1 41 (e.map (eL Le))),(11,dV g.2.2.2 5 63 (Ph a))]) (j:=λs=>Tp b e o k s.1 s.2.1 s.2.2.1 s.2.2.2) ?_ ?_
      ·refine A 6 ?_;refine Pj r ?_ ?_
       ·refine A 26 ?_;exact xL (s:=(e,i64.wrap (k+1))) (_,_,_,_) ((hX))
       ·refine A 3 ?_;refine Pj r ?_ ?_
        ·refine A 5 ?_;refine Pj r ?_ ?_
         ·refine A 8 ?_;refine cD r ?_ ?_
          ·refine A 9 ?_;exact xL (s:=(e,i64.wrap (k+1))) (_,_,_,_) ((hX))
          ·refine A 1 ?_;exact xC (s:=(true,(a.Op==17),true,(a.B==o))) (_,_,_,_) ((hX))
         ·refine A 10 ?_;exact xC (s:=(true,(a.Op==17),false,false)) (_,_,_,_) ((hX))
        ·refine A 15 ?_;exact xC (s:=(false,false,false,false)) (_,_,_,_) ((hX))
      ·rintro⟨az,ba,bb,bc⟩ ⟨bd,bf,bg,bh⟩ nn
       try dsimp only
       unfold Tp;refine A 8 ?_;refine bD λbi bj=>?_
       refine A 2 ?_;refine bD λp bk=>?_
       refine A 4 ?_;refine bD λbl bm=>?_
       refine A 2 ?_;refine bD λq bn=>?_
       refine A 2 ?_;refine bD λbo t=>sE (l:=e) (en:=(eL Le)) (q':=p) r r r r r r r (by simp) t r r r (by simp[Qu,cells,setAt,eL]) r<|?_
       refine A 1 ?_;refine bD λbp u=>sE (l:=e.set b.1.toNat p) (en:=(eL Le)) (q':=q) r r r r r r r (by simp) u r r r (by simp[Qu,cells,setAt,eL]) r<|?_
       exact B
   ·rintro⟨x7,x8,x9,bt,bu,v⟩ ⟨bv,bw,bx⟩ nn
    try dsimp only
    unfold Un;refine A 5 ?_;exact xL (s:=(v,i64.wrap (i+1))) (_,_,_) ((hX))
  ·exact B

def AlC:Dw.Spec:=OY [] .val PQ PO (λa=>ZN a.1 a.2) QG noE
theorem ApL:OW Tryz.prog 48 AlC:=by
 refine fn2 2 (OZ (l:=[(86,Ahg)]) (by simp[Akk])) Tryz.func48<|?_
 intro a;unfold ZN;exact B

def AlD:Dw.Spec:=OY [] (.row 2 127) TJ TI (λa=>XU a) Ahv noE
theorem ApM:OW Tryz.prog 87 AlD:=by
 refine fn2 1 (Pp) Tryz.func87<|?_;intro d;unfold XU;refine A 18 ?_;refine lP (E:=λ(s:(List Po)×Int) (g:Nat×Nat)=>[(1,.optr 1 g.1 0 0),(3,.osl 3 g.2 0 s.1.length),(4,Av s.2)]) (O:=λs g=>[(1,dV g.1 3 36 (Pf d)),(3,dW g.2 2 127 (s.1.map PF))]) (body:=λs=>RJ d s.1 s.2) (s:=(([]:List Po),0)) (_,_) ((hX))<|?_
 rintro⟨b,c⟩ ⟨k,l⟩ nn
 try dsimp only
 unfold RJ;refine A 10 ?_;refine cD r ?_ ?_
 ·refine A 2 ?_;refine bC (E:=λ(s:(List Po)) (g:Nat×Nat)=>[(1,.optr 1 g.1 0 0),(3,.osl 3 g.2 0 s.length),(4,Av c)]) (O:=λs g=>[(1,dV g.1 3 36 (Pf d)),(3,dW g.2 2 127 (s.map PF))]) (j:=λs=>Um c s) ?_ ?_
  ·refine A 5 ?_;refine bD λa m=>?_
   refine A 17 ?_;refine sC (E:=λ(s:Bool) (g:Nat×Nat×Nat)=>[(1,.optr 1 g.1 0 0),(3,.osl 3 g.2.1 0 b.length),(4,Av c),(6,.optr 6 g.2.2 0 0),(7,.bool s)]) (O:=λ_ g=>[(1,dV g.1 3 36 (Pf d)),(3,dW g.2.1 2 127 (b.map PF)),(6,dV g.2.2 2 127 (.agg [Av a.A,Av a.B]))]) (j:=λs=>VE b a c s) ?_ ?_
   ·refine A 5 ?_;refine Pj r ?_ ?_
    ·refine A 8 ?_;exact xC (s:=true) (_,_,_) ((hX))
    ·refine A 8 ?_;exact xC (s:=(a.A==a.B)) (_,_,_) ((hX))
   ·rintro h ⟨o,p,q⟩ nn
    try dsimp only
    unfold VE;refine A 7 ?_;refine lP (E:=λ(s:Bool×Int) (g:Nat×Nat×Nat)=>[(1,.optr 1 g.1 0 0),(3,.osl 3 g.2.1 0 b.length),(4,Av c),(6,.optr 6 g.2.2 0 0),(7,.bool s.1),(8,Av s.2)]) (O:=λ_ g=>[(1,dV g.1 3 36 (Pf d)),(3,dW g.2.1 2 127 (b.map PF)),(6,dV g.2.2 2 127 (.agg [Av a.A,Av a.B]))]) (body:=λs=>Sx b a c s.1 s.2) (s:=(h,0)) (_,_,_) ((hX))<|?_
    rintro⟨t,e⟩ ⟨u,v,w⟩ nn
    try dsimp only
    unfold Sx;refine A 9 ?_;refine cD r ?_ ?_
    ·refine A 7 ?_;refine Pj r ?_ ?_
     ·refine A 16 ?_;exact xL (s:=(true,i64.wrap (e+1))) (_,_,_) ((hX))
     ·refine A 3 ?_;refine bD λf x=>?_
      refine A 13 ?_;exact xL (s:=(((f.a0==a.A)&&((f.a1==a.B)&&true)),i64.wrap (e+1))) (_,_,_) ((hX))
    ·refine A 11 ?_;refine cD r ?_ ?_
     ·refine A 3 ?_;refine bS ([(Po.mk a.A a.B)]:List Po) PF r r r (by simp) r r r<|?_
      refine A 3 ?_;exact PS (s:=b++([(Po.mk a.A a.B)]:List Po)) (_,_) ((hX))
     ·refine A 1 ?_;exact PS (s:=b) (_,_) ((hX))
  ·rintro i ⟨y,z⟩ nn
   try dsimp only
   unfold Um;refine A 5 ?_;exact xL (s:=(i,i64.wrap (c+1))) (_,_) ((hX))
 ·exact B

def AeS:Dw.Spec:=OY [] (.row 1 3) Qx Qw (λa=>WS a.1 a.2) PK noE
theorem AiD:OW Tryz.prog 39 AeS:=by
 refine fn2 2 (Pp) Tryz.func39<|?_;rintro⟨b,c⟩;unfold WS;refine A 17 ?_;refine lP (E:=λ(s:(List Int)×Int) (g:Nat)=>[(0,.sl (b.map Le)),(1,Av c),(5,.osl 5 g 0 s.1.length),(6,Av s.2)]) (O:=λs g=>[(5,dW g 1 3 (s.1.map Le))]) (body:=λs=>AdC b c s.1 s.2) (s:=(([]:List Int),0)) _ ((hX))<|?_
 rintro⟨d,a⟩ e nn
 try dsimp only
 unfold AdC;refine A 9 ?_;refine cD r ?_ ?_
 ·refine A 8 ?_;refine bD λf h=>?_
  refine A 6 ?_;refine cD r ?_ ?_
  ·refine A 14 ?_;exact xL (s:=(d++([a]:List Int),i64.wrap (a+1))) _ ((hX))
  ·refine A 8 ?_;exact xL (s:=(d,i64.wrap (a+1))) _ ((hX))
 ·exact B

def AeU (a:(List (List Int))×(List Int)×Int×Int):List D:=[.sl (a.1.map (eL Le)),.sl (a.2.1.map Le),Av a.2.2.1,Av a.2.2.2]
def AeT (ds:List D):(List (List Int))×(List Int)×Int×Int:=((uL (uL uI)) (ds.getD 0 .top),(uL uI) (ds.getD 1 .top),uI (ds.getD 2 .top),uI (ds.getD 3 .top))
instance:Py AeU AeT:=⟨λa=>by simp[AeT,AeU,uI,Qb (u:=(uL uI)) (en:=(eL Le)) (Qb (u:=uI) (en:=Le) (λ_=>rfl)),Qb (u:=uI) (en:=Le) (λ_=>rfl)]⟩
def AlF:Dw.Spec:=OY [] .ground AeU AeT (λa=>AcH a.1 a.2.1 a.2.2.1 a.2.2.2) Pe noE
theorem ApO:OW Tryz.prog 88 AlF:=by
 refine fn2 4 (OZ (l:=[(39,AeS),(92,ZM)]) (by simp[AiD,Abg])) Tryz.func88<|?_
 rintro⟨c,f,h,i⟩;unfold AcH;refine A 9 ?_;refine bD λa k=>?_
 refine A 3 ?_;refine bD λb m=>?_
 refine A 12 ?_;refine lP (E:=λ(s:Int) (g:Nat×Nat)=>[(0,.sl (c.map (eL Le))),(9,.osl 9 g.1 0 a.length),(10,.osl 10 g.2 0 b.length),(11,Av s)]) (O:=λ_ g=>[(9,dW g.1 1 3 (a.map Le)),(10,dW g.2 1 3 (b.map Le))]) (body:=λs=>AfW a b c s) (s:=0) (_,_) ((hX))<|?_
 rintro d ⟨o,p⟩ nn
 try dsimp only
 unfold AfW;refine A 9 ?_;refine cD r ?_ ?_
 ·refine A 2 ?_;refine bC (E:=λ(_s:Unit) (g:Nat×Nat)=>[(0,.sl (c.map (eL Le))),(9,.osl 9 g.1 0 a.length),(10,.osl 10 g.2 0 b.length),(11,Av d)]) (O:=λ_ g=>[(9,dW g.1 1 3 (a.map Le)),(10,dW g.2 1 3 (b.map Le))]) (j:=λ_=>YN d) ?_ ?_
  ·refine A 6 ?_;refine lP (E:=λ(s:Int) (g:Nat×Nat)=>[(0,.sl (c.map (eL Le))),(9,.osl 9 g.1 0 a.length),(10,.osl 10 g.2 0 b.length),(11,Av d),(12,Av s)]) (O:=λ_ g=>[(9,dW g.1 1 3 (a.map Le)),(10,dW g.2 1 3 (b.map Le))]) (body:=λs=>AfX b d a c s) (s:=0) (_,_) ((hX))<|?_
   rintro e ⟨q,t⟩ nn
   try dsimp only
   unfold AfX;refine A 9 ?_;refine cD r ?_ ?_
   ·refine A 10 ?_;refine bD λu v=>?_
    refine A 1 ?_;refine bD λw x=>?_
    refine A 5 ?_;refine bD λy z=>?_
    refine A 1 ?_;refine bD λaa ab=>?_
    refine A 3 ?_;refine cD r ?_ ?_
    ·exact B
    ·refine A 8 ?_;exact xL (s:=i64.wrap (e+1)) (_,_) ((hX))
   ·refine A 4 ?_;exact PS (s:=()) (_,_) ((hX))
  ·rintro⟨⟩ ⟨ac,ad⟩ nn
   try dsimp only
   unfold YN;refine A 5 ?_;exact xL (s:=i64.wrap (d+1)) (_,_) ((hX))
 ·exact B

end
end Go.Proofs.YtilmapojncgflaaGreatDoor
