/-
  Programs on typed data, and the proofs that the code does what they say; written by a program (dx.py).
-/
import Derived.Test.YtilmapojncgflaaGreatDoorProg
import Derived.Test.YtilmapojncgflaaGreatDoorDd
import Derived.KernelRfl
import Derived.Test.YtilmapojncgflaaGreatDoorDxP
import Derived.Test.YtilmapojncgflaaGreatDoorDxF1
import Derived.Test.YtilmapojncgflaaGreatDoorDxF2
import Derived.Test.YtilmapojncgflaaGreatDoorDxF3
import Derived.Test.YtilmapojncgflaaGreatDoorDxF4
import Derived.Test.YtilmapojncgflaaGreatDoorDxF5
import Derived.Test.YtilmapojncgflaaGreatDoorDxF7
namespace Go.Proofs.YtilmapojncgflaaGreatDoor
open Go Go.Dw Go.Proofs
open Go.IntKind (i64)
set_option maxRecDepth 100000
set_option maxHeartbeats 40000000
open Go.Dw renaming Ra -> bD,Qe -> cK,Abn -> bS,Akq -> aP,ZS -> cD,AbR -> xC,XW -> xL,AbS -> lP,XE -> sC,YV -> bC,rf -> r
noncomputable section
def Aje:Dw.Spec:=OY [] (.row 1 3) Vn Vm (λa=>Sp a.1 a.2) PK noE
theorem Aot:OW Tryz.prog 49 Aje:=by
 refine fn2 2 (OZ (l:=[(87,AlD),(88,AlF)]) (by simp[ApM,ApO])) Tryz.func49<|?_
 rintro⟨k,a⟩;unfold Sp;refine A 18 ?_;refine lP (E:=λ(s:(List Int)×Int) (g:Nat×Nat)=>[(1,.sl (a.map (eL Le))),(2,.optr 2 g.1 0 0),(5,.osl 5 g.2 0 s.1.length),(6,Av s.2)]) (O:=λs g=>[(2,dV g.1 3 36 (Pf k)),(5,dW g.2 1 3 (s.1.map Le))]) (body:=λs=>Zo k a s.1 s.2) (s:=(([]:List Int),0)) (_,_) ((hX))<|?_
 rintro⟨m,o⟩ ⟨w,x⟩ nn
 try dsimp only
 unfold Zo;refine A 10 ?_;refine cD r ?_ ?_
 ·refine A 18 ?_;exact xL (s:=(m++([o]:List Int),i64.wrap (o+1))) (_,_) ((hX))
 ·refine A 8 ?_;refine bD λb y=>?_
  refine A 11 ?_;refine lP (E:=λ(s:(List Int)×Int) (g:Nat×Nat)=>[(1,.sl (a.map (eL Le))),(5,.osl 5 g.1 0 s.1.length),(7,.osl 7 g.2 0 b.length),(8,Av s.2)]) (O:=λs g=>[(5,dW g.1 1 3 (s.1.map Le)),(7,dW g.2 2 127 (b.map PF))]) (body:=λs=>VW b a s.1 s.2) (s:=(m,0)) (_,_) ((hX))<|?_
  rintro⟨f,e⟩ ⟨z,aa⟩ nn
  try dsimp only
  unfold VW;refine A 9 ?_;refine cD r ?_ ?_
  ·refine A 2 ?_;refine bC (E:=λ(s:(List Int)) (g:Nat×Nat)=>[(1,.sl (a.map (eL Le))),(5,.osl 5 g.1 0 s.length),(7,.osl 7 g.2 0 b.length),(8,Av e)]) (O:=λs g=>[(5,dW g.1 1 3 (s.map Le)),(7,dW g.2 2 127 (b.map PF))]) (j:=λs=>QQ e s) ?_ ?_
   ·refine A 6 ?_;refine TT r r r (by decide)<|bD λab ac=>?_
    refine A 2 ?_;refine bD λd ad=>?_
    refine A 5 ?_;refine TT r r r (by decide)<|bD λae af=>?_
    refine A 2 ?_;refine bD λc ag=>?_
    refine A 5 ?_;refine sC (E:=λ(s:Bool×Bool) (g:Nat×Nat)=>[(1,.sl (a.map (eL Le))),(5,.osl 5 g.1 0 f.length),(7,.osl 7 g.2 0 b.length),(8,Av e),(9,Av d),(10,Av c),(51,.sl (a.map (eL Le))),(52,.osl 5 g.1 0 f.length),(53,Av d),(54,Av c),(55,.bool s.1),(56,.bool s.2)]) (O:=λ_ g=>[(5,dW g.1 1 3 (f.map Le)),(7,dW g.2 2 127 (b.map PF))]) (j:=λs=>VY d c e f s.1 s.2) ?_ ?_
    ·refine A 6 ?_;refine Pj r ?_ ?_
     ·refine A 12 ?_;exact Tc (s:=f) (_,_) ((hX))
     ·refine A 4 ?_;refine bD λp ah=>?_
      refine A 5 ?_;refine cD r ?_ ?_
      ·refine A 2 ?_;exact Tc (s:=f) (_,_) ((hX))
      ·refine A 1 ?_;exact xC (s:=(p,(!p))) (_,_) ((hX))
    ·rintro⟨q,t⟩ ⟨ai,aj⟩ nn
     try dsimp only
     unfold VY;refine A 6 ?_;refine lP (E:=λ(s:(List Int)×Int) (g:Nat×Nat)=>[(1,.sl (a.map (eL Le))),(5,.osl 5 g.1 0 s.1.length),(7,.osl 7 g.2 0 b.length),(8,Av e),(9,Av d),(10,Av c),(11,Av s.2),(51,.sl (a.map (eL Le))),(52,.osl 5 g.1 0 s.1.length),(53,Av d),(54,Av c),(55,.bool q),(56,.bool t)]) (O:=λs g=>[(5,dW g.1 1 3 (s.1.map Le)),(7,dW g.2 2 127 (b.map PF))]) (body:=λs=>VX d c e s.1 s.2) (s:=(f,0)) (_,_) ((hX))<|?_
     rintro⟨h,i⟩ ⟨ak,ao⟩ nn
     try dsimp only
     unfold VX;refine A 9 ?_;refine cD r ?_ ?_
     ·refine A 4 ?_;refine sC (E:=λ(s:Bool) (g:Nat×Nat)=>[(1,.sl (a.map (eL Le))),(5,.osl 5 g.1 0 h.length),(7,.osl 7 g.2 0 b.length),(8,Av e),(9,Av d),(10,Av c),(11,Av i),(51,.sl (a.map (eL Le))),(52,.osl 5 g.1 0 h.length),(53,Av d),(54,Av c),(55,.bool q),(56,.bool t),(77,.bool s)]) (O:=λ_ g=>[(5,dW g.1 1 3 (h.map Le)),(7,dW g.2 2 127 (b.map PF))]) (j:=λs=>Sj i h d c s) ?_ ?_
      ·refine A 4 ?_;refine bD λap aq=>?_
       refine A 4 ?_;refine Pj r ?_ ?_
       ·refine A 8 ?_;exact xC (s:=true) (_,_) ((hX))
       ·refine A 3 ?_;refine bD λu ar=>?_
        refine A 5 ?_;exact xC (s:=(u==c)) (_,_) ((hX))
      ·rintro au ⟨av,aw⟩ nn
       try dsimp only
       unfold Sj;refine cD r ?_ ?_
       ·exact B
       ·refine A 8 ?_;exact xL (s:=(h,i64.wrap (i+1))) (_,_) ((hX))
     ·refine A 4 ?_;exact PS (s:=h) (_,_) ((hX))
   ·rintro v ⟨ax,ay⟩ nn
    try dsimp only
    unfold QQ;refine A 5 ?_;exact xL (s:=(v,i64.wrap (e+1))) (_,_) ((hX))
  ·exact B

def AmJ:Dw.Spec:=OY [] .ground Ym Yl (λa=>AeV a.1 a.2.1 a.2.2) Pe noE
theorem AqB:OW Tryz.prog 89 AmJ:=by
 refine fn2 3 (OZ (l:=[(78,Xv),(92,ZM)]) (by simp[Zn,Abg])) Tryz.func89<|?_
 intro a;unfold AeV;exact B

def AmI:Dw.Spec:=OY [] (.row 1 4) Xc Xb (λa=>AbJ a.1 a.2.1 a.2.2) Aie noE
theorem AqA:OW Tryz.prog 50 AmI:=by
 refine fn2 3 (OZ (l:=[(89,AmJ)]) (by simp[AqB])) Tryz.func50<|?_
 rintro⟨c,d,e⟩;unfold AbJ;refine A 19 ?_;refine lP (E:=λ(s:(List Bool)×Int) (g:Nat×Nat×Nat)=>[(2,.sl (e.map Le)),(3,.optr 3 g.1 0 0),(4,.optr 4 g.2.1 0 0),(7,.osl 7 g.2.2 0 s.1.length),(8,Av s.2)]) (O:=λs g=>[(3,dV g.1 3 36 (Pf c)),(4,dV g.2.1 1 40 (.agg [.sl (d.Out.map (eL Le))])),(7,dW g.2.2 1 4 (s.1.map D.bool))]) (body:=λs=>Ahh c d e s.1 s.2) (s:=(([]:List Bool),0)) (_,_,_) ((hX))<|?_
 rintro⟨a,b⟩ ⟨i,j,k⟩ nn
 try dsimp only
 unfold Ahh;refine A 10 ?_;refine cD r ?_ ?_
 ·refine A 9 ?_;refine bD λm o=>?_
  refine A 11 ?_;refine bD λp q=>?_
  refine A 3 ?_;refine Pj r ?_ ?_
  ·refine A 4 ?_;refine Pj r ?_ ?_
   ·refine A 3 ?_;refine bD λf t=>?_
    refine A 5 ?_;refine bD λh u=>?_
    refine A 17 ?_;exact xL (s:=(a++([(!(f==h))]:List Bool),i64.wrap (b+1))) (_,_,_) ((hX))
   ·refine A 25 ?_;exact xL (s:=(a++([true]:List Bool),i64.wrap (b+1))) (_,_,_) ((hX))
  ·refine A 29 ?_;exact xL (s:=(a++([false]:List Bool),i64.wrap (b+1))) (_,_,_) ((hX))
 ·exact B

def AlE:Dw.Spec:=OY [] .ground WY WX (λa=>Ags a.1 a.2) Pe noE
theorem ApN:OW Tryz.prog 74 AlE:=by
 refine fn2 2 (Pp) Tryz.func74<|?_;rintro⟨a,b⟩;unfold Ags;refine A 17 ?_;refine cD r ?_ ?_
 ·exact B
 ·refine A 9 ?_;refine lP (E:=λ(s:Int) (g:Nat)=>[(1,.sl (b.map Le)),(2,.optr 2 g 0 0),(5,Av s)]) (O:=λ_ g=>[(2,dV g 3 36 (Pf a))]) (body:=λs=>AfU b a s) (s:=0) _ ((hX))<|?_
  rintro c e nn
  try dsimp only
  unfold AfU;refine A 9 ?_;refine cD r ?_ ?_
  ·refine A 8 ?_;refine bD λf h=>?_
   refine A 4 ?_;refine Pj r ?_ ?_
   ·exact B
   ·refine A 2 ?_;refine bD λi j=>?_
    refine A 8 ?_;refine cD r ?_ ?_
    ·exact B
    ·refine A 8 ?_;exact xL (s:=i64.wrap (c+1)) _ ((hX))
  ·refine A 12 ?_;refine lP (E:=λ(s:Int) (g:Nat)=>[(1,.sl (b.map Le)),(2,.optr 2 g 0 0),(6,Av s)]) (O:=λ_ g=>[(2,dV g 3 36 (Pf a))]) (body:=λs=>AfV b a s) (s:=0) _ ((hX))<|?_
   rintro d k nn
   try dsimp only
   unfold AfV;refine A 9 ?_;refine cD r ?_ ?_
   ·refine A 10 ?_;refine bD λl m=>?_
    refine A 2 ?_;refine bD λo p=>?_
    refine A 6 ?_;refine bD λq t=>?_
    refine A 5 ?_;refine Pj r ?_ ?_
    ·exact B
    ·refine A 3 ?_;refine bD λu v=>?_
     refine A 2 ?_;refine bD λw x=>?_
     refine A 4 ?_;refine bD λy z=>?_
     refine A 6 ?_;refine cD r ?_ ?_
     ·exact B
     ·refine A 8 ?_;exact xL (s:=i64.wrap (d+1)) _ ((hX))
   ·exact B

def AlH:Dw.Spec:=OY [] .ground RN RM (λa=>AcI a.1 a.2) Pb noE
theorem ApQ:OW Tryz.prog 37 AlH:=by
 refine fn2 2 (OZ (l:=[(74,AlE),(75,Aco)]) (by simp[ApN,AgM])) Tryz.func37<|?_
 rintro⟨b,a⟩;unfold AcI;refine A 7 ?_;refine sC (E:=λ(_s:Unit) (g:Nat×Nat)=>[(2,.optr 2 g.1 0 0),(3,.optr 3 g.2 0 0)]) (O:=λ_ g=>[(2,dV g.1 3 36 (Pf b)),(3,dV g.2 2 44 (.agg [.sl (a.To.map Le),.sl (a.Keep.map D.bool)]))]) (j:=λ_=>AbM b a) ?_ ?_
 ·refine A 5 ?_;refine bD λd e=>?_
  refine A 3 ?_;refine Pj r ?_ ?_
  ·exact B
  ·refine A 10 ?_;refine cD r ?_ ?_
   ·exact B
   ·refine A 1 ?_;exact xC (s:=()) (_,_) ((hX))
 ·rintro⟨⟩ ⟨f,h⟩ nn
  try dsimp only
  unfold AbM;refine A 7 ?_;refine lP (E:=λ(s:Int) (g:Nat×Nat)=>[(2,.optr 2 g.1 0 0),(3,.optr 3 g.2 0 0),(5,Av s)]) (O:=λ_ g=>[(2,dV g.1 3 36 (Pf b)),(3,dV g.2 2 44 (.agg [.sl (a.To.map Le),.sl (a.Keep.map D.bool)]))]) (body:=λs=>AbL b a s) (s:=0) (_,_) ((hX))<|?_
  rintro c ⟨i,k⟩ nn
  try dsimp only
  unfold AbL;refine A 10 ?_;refine cD r ?_ ?_
  ·refine A 9 ?_;refine bD λm o=>?_
   refine A 4 ?_;refine Pj r ?_ ?_
   ·refine A 3 ?_;refine bD λp q=>?_
    refine A 2 ?_;refine bD λt u=>?_
    refine A 5 ?_;refine cD r ?_ ?_
    ·exact B
    ·refine A 8 ?_;exact xL (s:=i64.wrap (c+1)) (_,_) ((hX))
   ·refine A 19 ?_;exact xL (s:=i64.wrap (c+1)) (_,_) ((hX))
  ·exact B

def Acq (a:Int×(List Int)):List D:=[Av a.1,.sl (a.2.map Le)]
def Acp (ds:List D):Int×(List Int):=(uI (ds.getD 0 .top),(uL uI) (ds.getD 1 .top))
instance:Py Acq Acp:=⟨λa=>by simp[Acp,Acq,uI,Qb (u:=uI) (en:=Le) (λ_=>rfl)]⟩
def Ajc:Dw.Spec:=OY [] .ground Acq Acp (λa=>TV a.1 a.2) Pb noE
theorem Aor:OW Tryz.prog 80 Ajc:=by
 refine fn2 2 (Pp) Tryz.func80<|?_;intro a;unfold TV;exact B

def AeO:Dw.Spec:=OY [] .ground WJ WI (λa=>WO a.1 a.2) Aij noE
theorem AiA:OW Tryz.prog 42 AeO:=by
 refine fn2 2 (OZ (l:=[(80,Ajc)]) (by simp[Aor])) Tryz.func42<|?_
 intro a;unfold WO;exact B

def AmK:Dw.Spec:=OY [] (.row 1 3) RN RM (λa=>AbN a.1 a.2) PK noE
theorem AqC:OW Tryz.prog 38 AmK:=by
 refine fn2 2 (OZ (l:=[(42,AeO),(77,AiB),(76,Zz),(78,Xv),(79,Agp)]) (by simp[AiA,Alw,AbD,Zn,Aix])) Tryz.func38<|?_
 rintro⟨c,a⟩;unfold AbN;refine A 19 ?_;refine lP (E:=λ(s:(List Int)×Int) (g:Nat×Nat×Nat)=>[(2,.optr 2 g.1 0 0),(3,.optr 3 g.2.1 0 0),(5,.osl 5 g.2.2 0 s.1.length),(6,Av s.2)]) (O:=λs g=>[(2,dV g.1 3 36 (Pf c)),(3,dV g.2.1 2 44 (.agg [.sl (a.To.map Le),.sl (a.Keep.map D.bool)])),(5,dW g.2.2 1 3 (s.1.map Le))]) (body:=λs=>Ade c a s.1 s.2) (s:=(([]:List Int),0)) (_,_,_) ((hX))<|?_
 rintro⟨d,b⟩ ⟨h,i,k⟩ nn
 try dsimp only
 unfold Ade;refine sC (E:=λ(_s:Unit) (g:Nat×Nat×Nat)=>[(2,.optr 2 g.1 0 0),(3,.optr 3 g.2.1 0 0),(5,.osl 5 g.2.2 0 d.length),(6,Av b),(16,Av b),(17,.optr 3 g.2.1 0 1),(18,.sl (a.Keep.map D.bool)),(19,Av (a.Keep.length:Int)),(20,.bool (decide (b<(a.Keep.length:Int))))]) (O:=λ_ g=>[(2,dV g.1 3 36 (Pf c)),(3,dV g.2.1 2 44 (.agg [.sl (a.To.map Le),.sl (a.Keep.map D.bool)])),(5,dW g.2.2 1 3 (d.map Le))]) (j:=λ_=>ZB a b d c) ?_ ?_
 ·refine A 8 ?_;refine Pj r ?_ ?_
  ·refine A 8 ?_;refine cD r ?_ ?_
   ·refine A 1 ?_;exact xC (s:=()) (_,_,_) ((hX))
   ·exact B
  ·exact B
 ·rintro⟨⟩ ⟨m,o,p⟩ nn
  try dsimp only
  unfold ZB;refine A 8 ?_;refine bD λq t=>?_
  refine A 5 ?_;refine cD r ?_ ?_
  ·refine A 9 ?_;exact xL (s:=(d,i64.wrap (b+1))) (_,_,_) ((hX))
  ·refine A 7 ?_;refine bD λu v=>?_
   refine A 4 ?_;refine bD λw x=>?_
   refine A 9 ?_;refine bD λy z=>?_
   refine A 1 ?_;refine bD λe aa=>?_
   refine A 7 ?_;refine bD λab ac=>?_
   refine A 13 ?_;refine cD r ?_ ?_
   ·refine A 3 ?_;refine bD λf ad=>?_
    refine A 10 ?_;exact xL (s:=(f,i64.wrap (b+1))) (_,_,_) ((hX))
   ·refine A 8 ?_;exact xL (s:=(e,i64.wrap (b+1))) (_,_,_) ((hX))

def Acs (a:Pl×(List Int)):List D:=[AhJ a.1,.sl (a.2.map Le)]
def Acr (ds:List D):Pl×(List Int):=(AhP (ds.getD 0 .top),(uL uI) (ds.getD 1 .top))
instance:Py Acs Acr:=⟨λa=>by simp[Acr,Acs,Qb (u:=uI) (en:=Le) (λ_=>rfl)]⟩
def Ajg:Dw.Spec:=OY [] (.row 1 3) Acs Acr (λa=>ZC a.1 a.2) PK noE
theorem Aov:OW Tryz.prog 40 Ajg:=by
 refine fn2 2 (Pp) Tryz.func40<|?_;rintro⟨a,b⟩;unfold ZC;refine A 18 ?_;refine lP (E:=λ(s:(List Int)×Int) (g:Nat×Nat)=>[(1,.sl (b.map Le)),(2,.optr 2 g.1 0 0),(5,.osl 5 g.2 0 s.1.length),(6,Av s.2)]) (O:=λs g=>[(2,dV g.1 2 44 (.agg [.sl (a.To.map Le),.sl (a.Keep.map D.bool)])),(5,dW g.2 1 3 (s.1.map Le))]) (body:=λs=>AdD a b s.1 s.2) (s:=(([]:List Int),0)) (_,_) ((hX))<|?_
 rintro⟨d,c⟩ ⟨i,k⟩ nn
 try dsimp only
 unfold AdD;refine A 10 ?_;refine cD r ?_ ?_
 ·refine A 2 ?_;refine bC (E:=λ(s:(List Int)) (g:Nat×Nat)=>[(1,.sl (b.map Le)),(2,.optr 2 g.1 0 0),(5,.osl 5 g.2 0 s.length),(6,Av c)]) (O:=λs g=>[(2,dV g.1 2 44 (.agg [.sl (a.To.map Le),.sl (a.Keep.map D.bool)])),(5,dW g.2 1 3 (s.map Le))]) (j:=λs=>Zp c s) ?_ ?_
  ·refine A 12 ?_;refine lP (E:=λ(s:Int×Int) (g:Nat×Nat)=>[(1,.sl (b.map Le)),(2,.optr 2 g.1 0 0),(5,.osl 5 g.2 0 d.length),(6,Av c),(7,Av s.1),(8,Av s.2)]) (O:=λ_ g=>[(2,dV g.1 2 44 (.agg [.sl (a.To.map Le),.sl (a.Keep.map D.bool)])),(5,dW g.2 1 3 (d.map Le))]) (body:=λs=>AdE b a c d s.1 s.2) (s:=(0,0)) (_,_) ((hX))<|?_
   rintro⟨f,e⟩ ⟨l,m⟩ nn
   try dsimp only
   unfold AdE;refine A 9 ?_;refine cD r ?_ ?_
   ·refine A 8 ?_;refine bD λo p=>?_
    refine A 5 ?_;refine bD λq t=>?_
    refine A 5 ?_;refine cD r ?_ ?_
    ·refine A 11 ?_;exact xL (s:=(e,i64.wrap (e+1))) (_,_) ((hX))
    ·refine A 8 ?_;exact xL (s:=(f,i64.wrap (e+1))) (_,_) ((hX))
   ·refine A 12 ?_;exact PS (s:=d++([f]:List Int)) (_,_) ((hX))
  ·rintro h ⟨u,v⟩ nn
   try dsimp only
   unfold Zp;refine A 5 ?_;exact xL (s:=(h,i64.wrap (c+1))) (_,_) ((hX))
 ·exact B

def Akl:Dw.Spec:=OY [] (.row 1 3) XA Xz (λa=>AeW a) PK noE
theorem Apd:OW Tryz.prog 41 Akl:=by
 refine fn2 1 (Pp) Tryz.func41<|?_;intro b;unfold AeW;refine A 23 ?_;refine lP (E:=λ(s:(List Int)×Int×Int) (g:Nat×Nat)=>[(1,.optr 1 g.1 0 0),(3,.osl 3 g.2 0 s.1.length),(4,Av s.2.1),(5,Av s.2.2)]) (O:=λs g=>[(1,dV g.1 2 44 (.agg [.sl (b.To.map Le),.sl (b.Keep.map D.bool)])),(3,dW g.2 1 3 (s.1.map Le))]) (body:=λs=>AeX b s.1 s.2.1 s.2.2) (s:=(([]:List Int),0,0)) (_,_) ((hX))<|?_
 rintro⟨c,a,d⟩ ⟨e,f⟩ nn
 try dsimp only
 unfold AeX;refine A 10 ?_;refine cD r ?_ ?_
 ·refine A 18 ?_;refine bD λh i=>?_
  refine A 4 ?_;refine cD r ?_ ?_
  ·refine A 12 ?_;exact xL (s:=(c++([a]:List Int),i64.wrap (a+1),i64.wrap (d+1))) (_,_) ((hX))
  ·refine A 8 ?_;exact xL (s:=(c++([a]:List Int),a,i64.wrap (d+1))) (_,_) ((hX))
 ·exact B

def AlG:Dw.Spec:=OY [] .val RN RM (λa=>TB a.1 a.2) Xy noE
theorem ApP:OW Tryz.prog 18 AlG:=by
 refine fn2 2 (OZ (l:=[(37,AlH),(38,AmK),(39,AeS),(40,Ajg),(41,Akl),(42,AeO)]) (by simp[ApQ,AqC,AiD,Aov,Apd,AiA])) Tryz.func18<|?_
 rintro⟨a,c⟩;unfold TB;refine A 13 ?_;refine bD λu ab=>?_
 refine A 10 ?_;refine cD r ?_ ?_
 ·refine A 10 ?_;refine Sq (b:=((Mk.mk 0 ([]) ([])),u)) r ?_ r r ?_ (by first|rfl|(simp only[Lo];rfl)|(simp only[OQ];rfl)|(simp only[Lo,OQ];rfl)|(simp[Xy,Pf];try rfl)) (by decide)
  all_goals first|(simp;done)|(simp;omega)|rfl|(simp[Qr,Qm];done)
 ·refine A 6 ?_;refine bD λe ac=>?_
  refine A 20 ?_;refine lP (E:=λ(s:(List Pa)×Int) (g:Nat×Nat×Nat×Nat×Nat)=>[(2,.optr 2 g.1 0 0),(3,.optr 3 g.2.1 0 0),(4,.optr 4 g.2.2.1 0 0),(7,.osl 7 g.2.2.2.1 0 e.length),(8,.optr 8 g.2.2.2.2 0 0),(9,Av s.2)]) (O:=λs g=>[(2,dV g.1 3 36 (Pf a)),(3,dV g.2.1 2 44 (.agg [.sl (c.To.map Le),.sl (c.Keep.map D.bool)])),(4,dV g.2.2.1 3 36 (.agg [Av 0,.nils,.nils])),(7,dW g.2.2.2.1 1 3 (e.map Le)),(8,dV g.2.2.2.2 3 36 (.agg [Av a.Params,.sl (s.1.map Pm),.nils]))]) (body:=λs=>AfY e a c s.1 s.2) (s:=([],0)) (_,_,_,_,_) ((Adz [] trivial ⟨(PL r),(PL r),(PL r),(PL r),(PL r),(PL r),trivial⟩ ⟨(.inl r),(.inl r),(.inl r),(.inl r),(.inr ⟨_,_,_,_,r,r,r,r,Adw r ⟨(Xa r),(AaM Pm r),(Xa r),trivial⟩⟩),trivial⟩))<|?_
  rintro⟨f,m⟩ ⟨ad,ae,af,ag,ah⟩ nn
  try dsimp only
  unfold AfY;refine A 9 ?_;refine cD r ?_ ?_
  ·refine A 2 ?_;refine bC (E:=λ(_s:(List Pa)) (g:Nat×Nat×Nat×Nat×Nat×Nat)=>[(2,.optr 2 g.1 0 0),(3,.optr 3 g.2.1 0 0),(4,.optr 4 g.2.2.1 0 0),(7,.osl 7 g.2.2.2.1 0 e.length),(8,.optr 8 g.2.2.2.2.1 0 0),(9,Av m)]) (O:=λs g=>[(2,dV g.1 3 36 (Pf a)),(3,dV g.2.1 2 44 (.agg [.sl (c.To.map Le),.sl (c.Keep.map D.bool)])),(4,dV g.2.2.1 3 36 (.agg [Av 0,.nils,.nils])),(7,dW g.2.2.2.1 1 3 (e.map Le)),(8,dV g.2.2.2.2.1 3 36 (.agg [Av a.Params,.osl 13 g.2.2.2.2.2 0 s.length,.nils])),(13,dW g.2.2.2.2.2 2 60 (s.map Pm))]) (j:=λs=>YP m s) ?_ ?_
   ·refine A 7 ?_;refine bD λai aj=>?_
    refine A 1 ?_;refine bD λh ak=>?_
    refine A 13 ?_;refine bD λao ap=>?_
    refine A 1 ?_;refine bD λo aq=>?_
    refine A 11 ?_;refine lP (E:=λ(s:Int×Int) (g:Nat×Nat×Nat×Nat×Nat×Nat×Nat)=>[(2,.optr 2 g.1 0 0),(3,.optr 3 g.2.1 0 0),(4,.optr 4 g.2.2.1 0 0),(7,.osl 7 g.2.2.2.1 0 e.length),(8,.optr 8 g.2.2.2.2.1 0 0),(9,Av m),(10,.optr 10 g.2.2.2.2.2.1 0 0),(11,.osl 11 g.2.2.2.2.2.2 0 o.length),(12,Av s.2)]) (O:=λs g=>[(2,dV g.1 3 36 (Pf a)),(3,dV g.2.1 2 44 (.agg [.sl (c.To.map Le),.sl (c.Keep.map D.bool)])),(4,dV g.2.2.1 3 36 (.agg [Av 0,.nils,.nils])),(7,dW g.2.2.2.1 1 3 (e.map Le)),(8,dV g.2.2.2.2.1 3 36 (.agg [Av a.Params,.sl (f.map Pm),.nils])),(10,dV g.2.2.2.2.2.1 2 60 (.agg [Av h.Size,Av s.1])),(11,dW g.2.2.2.2.2.2 1 3 (o.map Le))]) (body:=λs=>YO o a f h m s.1 s.2) (s:=(h.Align,0)) (_,_,_,_,_,_,_) ((hX))<|?_
    rintro⟨p,v⟩ ⟨ar,au,av,aw,ax,ay,az⟩ nn
    try dsimp only
    unfold YO;refine A 9 ?_;refine cD r ?_ ?_
    ·refine A 12 ?_;refine bD λba bb=>?_
     refine A 1 ?_;refine bD λw bc=>?_
     refine A 14 ?_;exact xL (s:=(PJ p w.Align,i64.wrap (v+1))) (_,_,_,_,_,_,_) ((hX))
    ·refine A 11 ?_;refine bS ([(Pa.mk h.Size p)]:List Pa) Pm r r r (by simp) r r r<|?_
     refine A 9 ?_;exact PS (s:=(([]:List Pa)++f)++([(Pa.mk h.Size p)]:List Pa)) (_,_,_,_,_,_) ((hX))
   ·rintro bd ⟨bf,bg,bh,bi,bj,bk⟩ nn
    try dsimp only
    unfold YP;refine A 5 ?_;exact wf [13] λ_=>B
  ·refine A 9 ?_;refine bD λi bl=>?_
   refine A 2 ?_;refine bD λk bm=>?_
   refine A 12 ?_;refine lP (E:=λ(s:(List OP)×Int) (g:Nat×Nat×Nat×Nat×Nat×Nat)=>[(2,.optr 2 g.1 0 0),(3,.optr 3 g.2.1 0 0),(4,.optr 4 g.2.2.1 0 0),(8,.optr 8 g.2.2.2.1 0 0),(14,.osl 14 g.2.2.2.2.1 0 i.length),(15,.osl 15 g.2.2.2.2.2 0 k.length),(16,Av s.2)]) (O:=λs g=>[(2,dV g.1 3 36 (Pf a)),(3,dV g.2.1 2 44 (.agg [.sl (c.To.map Le),.sl (c.Keep.map D.bool)])),(4,dV g.2.2.1 3 36 (.agg [Av 0,.nils,.nils])),(8,dV g.2.2.2.1 3 36 (.agg [Av a.Params,.sl (f.map Pm),.sl (s.1.map Ph)])),(14,dW g.2.2.2.2.1 1 3 (i.map Le)),(15,dW g.2.2.2.2.2 1 3 (k.map Le))]) (body:=λs=>AbK a c i k f s.1 s.2) (s:=([],0)) (_,_,_,_,_,_) ((Adz [] trivial ⟨(PL r),(PL r),(PL r),(PL r),(PL r),(PL r),(PL r),trivial⟩ ⟨(.inl r),(.inl r),(.inl r),(.inr ⟨_,_,_,_,r,r,r,r,Adw r ⟨(Xa r),(Xa r),(AaM Ph r),trivial⟩⟩),(.inl r),(.inl r),trivial⟩))<|?_
   rintro⟨q,t⟩ ⟨bn,bo,bp,bq,br,bs⟩ nn
   try dsimp only
   unfold AbK;refine A 10 ?_;refine cD r ?_ ?_
   ·refine A 10 ?_;refine bD λbt bu=>?_
    refine A 5 ?_;refine cD r ?_ ?_
    ·refine A 9 ?_;exact xL (s:=(q,i64.wrap (t+1))) (_,_,_,_,_,_) ((hX))
    ·refine A 7 ?_;refine bD λbv bw=>?_
     refine A 3 ?_;refine bD λd bx=>?_
     refine A 5 ?_;refine sC (E:=λ(_s:Int×Int) (g:Nat×Nat×Nat×Nat×Nat×Nat×Nat)=>[(2,.optr 2 g.1 0 0),(3,.optr 3 g.2.1 0 0),(4,.optr 4 g.2.2.1 0 0),(8,.optr 8 g.2.2.2.1 0 0),(14,.osl 14 g.2.2.2.2.1 0 i.length),(15,.osl 15 g.2.2.2.2.2.1 0 k.length),(16,Av t),(17,.optr 17 g.2.2.2.2.2.2 0 0)]) (O:=λs g=>[(2,dV g.1 3 36 (Pf a)),(3,dV g.2.1 2 44 (.agg [.sl (c.To.map Le),.sl (c.Keep.map D.bool)])),(4,dV g.2.2.1 3 36 (.agg [Av 0,.nils,.nils])),(8,dV g.2.2.2.1 3 36 (.agg [Av a.Params,.sl (f.map Pm),.sl (q.map Ph)])),(14,dW g.2.2.2.2.1 1 3 (i.map Le)),(15,dW g.2.2.2.2.2.1 1 3 (k.map Le)),(17,dV g.2.2.2.2.2.2 5 63 (.agg [Av d.Op,Av s.1,Av s.2,Av d.C,AkM d.Imm]))]) (j:=λs=>Uo q d t s.1 s.2) ?_ ?_
     ·refine A 13 ?_;refine cD r ?_ ?_
      ·refine A 5 ?_;refine bD λx bz=>?_
       refine A 5 ?_;exact xC (s:=(x,d.B)) (_,_,_,_,_,_,_) ((hX))
      ·refine A 6 ?_;refine cD r ?_ ?_
       ·refine A 5 ?_;refine bD λy ca=>?_
        refine A 5 ?_;exact xC (s:=(d.A,y)) (_,_,_,_,_,_,_) ((hX))
       ·refine A 2 ?_;exact xC (s:=(d.A,d.B)) (_,_,_,_,_,_,_) ((hX))
     ·rintro⟨z,aa⟩ ⟨cb,cc,cd,ce,cf,cg,ch⟩ nn
      try dsimp only
      unfold Uo;refine A 6 ?_;refine bS ([(OP.mk d.Op z aa d.C d.Imm)]:List OP) Ph r r r (by simp) r r r<|?_
      refine A 16 ?_;exact wf [18] λ_=>B
   ·exact B

def Akj:Dw.Spec:=OY [] .val PQ PO (λa=>Abi a.1 a.2) QG noE
theorem Apc:OW Tryz.prog 51 Akj:=by
 refine fn2 2 (OZ (l:=[(86,Ahg)]) (by simp[Akk])) Tryz.func51<|?_
 intro a;unfold Abi;exact B

def AiF:Dw.Spec:=OY [] .ground WN WM (λa=>Zq a.1 a.2) Pb noE
theorem AlJ:OW Tryz.prog 43 AiF:=by
 refine fn2 2 (Pp) Tryz.func43<|?_;rintro⟨c,h⟩;unfold Zq;refine A 16 ?_;refine bD λd i=>?_
 refine A 13 ?_;refine lP (E:=λ(s:Int×Int) (g:Nat)=>[(2,.optr 2 g 0 0),(5,Av s.1),(6,.sl (d.Code.map Ph)),(7,Av s.2)]) (O:=λ_ g=>[(2,dV g 1 28 (.agg [.sl (c.Funcs.map Pf)]))]) (body:=λs=>Ahi d c s.1 s.2) (s:=(0,0)) _ ((hX))<|?_
 rintro⟨a,b⟩ j nn
 try dsimp only
 unfold Ahi;refine A 9 ?_;refine cD r ?_ ?_
 ·refine A 8 ?_;refine bD λk l=>?_
  refine A 12 ?_;refine cD r ?_ ?_
  ·refine A 4 ?_;refine bD λe m=>?_
   refine A 15 ?_;exact xL (s:=(PJ a (i64.wrap (e.A+1)),i64.wrap (b+1))) _ ((hX))
  ·refine A 6 ?_;refine cD r ?_ ?_
   ·refine A 6 ?_;refine bD λo p=>?_
    refine A 3 ?_;refine bD λf q=>?_
    refine A 14 ?_;exact xL (s:=(PJ a f.Params,i64.wrap (b+1))) _ ((hX))
   ·refine A 9 ?_;exact xL (s:=(a,i64.wrap (b+1))) _ ((hX))
 ·exact B

def AmE:Dw.Spec:=OY [] .ground PU PT (λa=>TK a) Pe noE
theorem Aqw:OW Tryz.prog 129 AmE:=by
 refine fn2 1 (Pp) Tryz.func129<|?_;intro a;unfold TK;exact B

def AcX:Dw.Spec:=OY [] .ground PU PT (λa=>Rk a) Pe noE
theorem AfI:OW Tryz.prog 82 AcX:=by
 refine fn2 1 (Pp) Tryz.func82<|?_;intro a;unfold Rk;refine A 12 ?_;refine lP (E:=λ(s:Int) (_g:Unit)=>[(0,Av a),(3,Av s)]) (O:=λ_ _=>[]) (body:=λs=>RI a s) (s:=1) () ((hX))<|?_
 rintro b ⟨⟩ nn
 try dsimp only
 unfold RI;refine A 7 ?_;refine cD r ?_ ?_
 ·refine A 11 ?_;refine cD r ?_ ?_
  ·exact B
  ·refine A 8 ?_;exact xL (s:=i64.wrap (b*2)) () ((hX))
 ·exact B

def Ahd:Dw.Spec:=OY [] .ground Sd Sc (λa=>Uv a) Pb noE
theorem Akf:OW Tryz.prog 70 Ahd:=by
 refine fn2 1 (OZ (l:=[(129,AmE),(82,AcX)]) (by simp[Aqw,AfI])) Tryz.func70<|?_
 intro a;unfold Uv;refine A 13 ?_;refine cD r ?_ ?_
 ·exact B
 ·refine A 9 ?_;refine lP (E:=λ(s:Int) (_g:Unit)=>[(0,.sl (a.map Pm)),(3,Av s)]) (O:=λ_ _=>[]) (body:=λs=>AfK a s) (s:=0) () ((hX))<|?_
  rintro b ⟨⟩ nn
  try dsimp only
  unfold AfK;refine A 9 ?_;refine cD r ?_ ?_
  ·refine A 8 ?_;refine bD λc d=>?_
   refine A 3 ?_;refine bD λe f=>?_
   refine A 3 ?_;refine Pj r ?_ ?_
   ·exact B
   ·refine A 2 ?_;refine bD λg h=>?_
    refine A 3 ?_;refine bD λi j=>?_
    refine A 5 ?_;refine cD r ?_ ?_
    ·exact B
    ·refine A 8 ?_;exact xL (s:=i64.wrap (b+1)) () ((hX))
  ·exact B

def AlB:Dw.Spec:=OY [] .ground Wi Wh (λa=>AcF a.1 a.2) Pe noE
theorem ApK:OW Tryz.prog 90 AlB:=by
 refine fn2 2 (OZ (l:=[(72,Ahe),(92,ZM)]) (by simp[Akg,Abg])) Tryz.func90<|?_
 rintro⟨b,c⟩;unfold AcF;refine A 14 ?_;refine cD r ?_ ?_
 ·exact B
 ·refine A 9 ?_;refine lP (E:=λ(s:Int) (_g:Unit)=>[(0,.sl (b.map (eL Le))),(1,Av c),(5,Av s)]) (O:=λ_ _=>[]) (body:=λs=>Rt c b s) (s:=0) () ((hX))<|?_
  rintro a ⟨⟩ nn
  try dsimp only
  unfold Rt;refine A 8 ?_;refine cD r ?_ ?_
  ·refine A 2 ?_;refine bC (E:=λ(s:(List Int)×(List Int)×Bool) (_g:Unit)=>[(0,.sl (b.map (eL Le))),(1,Av c),(5,Av a),(24,.sl (b.map (eL Le))),(25,Av a),(26,.fptr (.sl (s.1.map Le)) 0),(27,.sl (s.2.1.map Le)),(28,Av a),(29,.bool s.2.2)]) (O:=λ_ _=>[]) (j:=λs=>AbH a s.1 s.2.1 s.2.2) ?_ ?_
   ·refine sC (E:=λ(s:(List Int)×(List Int)×Bool) (_g:Unit)=>[(0,.sl (b.map (eL Le))),(1,Av c),(5,Av a),(24,.sl (b.map (eL Le))),(25,Av a),(26,.fptr (.sl (s.1.map Le)) 0),(27,.sl (s.2.1.map Le)),(28,Av a),(29,.bool s.2.2)]) (O:=λ_ _=>[]) (j:=λs=>YK b a c s.1 s.2.1 s.2.2) ?_ ?_
    ·refine A 4 ?_;refine bD λk m=>?_
     refine A 2 ?_;refine bD λo p=>?_
     refine A 3 ?_;refine Pj r ?_ ?_
     ·exact B
     ·refine A 2 ?_;refine bD λg q=>?_
      refine A 3 ?_;refine bD λh t=>?_
      refine A 4 ?_;refine cD r ?_ ?_
      ·exact B
      ·refine A 1 ?_;exact xC (s:=(g,g,h)) () ((hX))
    ·rintro⟨d,e,f⟩ ⟨⟩ nn
     try dsimp only
     unfold YK;refine A 6 ?_;refine lP (E:=λ(s:Int) (_g:Unit)=>[(0,.sl (b.map (eL Le))),(1,Av c),(5,Av a),(6,Av s),(24,.sl (b.map (eL Le))),(25,Av a),(26,.fptr (.sl (d.map Le)) 0),(27,.sl (e.map Le)),(28,Av a),(29,.bool f)]) (O:=λ_ _=>[]) (body:=λs=>Ul b a c d e f s) (s:=0) () ((hX))<|?_
     rintro i ⟨⟩ nn
     try dsimp only
     unfold Ul;refine A 6 ?_;refine bD λu v=>?_
     refine A 6 ?_;refine cD r ?_ ?_
     ·refine A 8 ?_;refine bD λw x=>?_
      refine A 3 ?_;refine bD λy z=>?_
      refine A 11 ?_;refine Pj r ?_ ?_
      ·exact B
      ·refine A 2 ?_;refine bD λaa ab=>?_
       refine A 3 ?_;refine bD λac ad=>?_
       refine A 5 ?_;refine cD r ?_ ?_
       ·exact B
       ·refine A 8 ?_;exact xL (s:=i64.wrap (i+1)) () ((hX))
     ·refine A 4 ?_;exact PS (s:=(d,e,f)) () ((hX))
   ·rintro⟨x4,x5,x6⟩ ⟨⟩ nn
    try dsimp only
    unfold AbH;refine A 5 ?_;exact xL (s:=i64.wrap (a+1)) () ((hX))
  ·exact B

def Zw:Dw.Spec:=OY [] .ground PU PT (λa=>Tz a) Pe noE
theorem AbC:OW Tryz.prog 81 Zw:=by
 refine fn2 1 (Pp) Tryz.func81<|?_;intro a;unfold Tz;exact B

def AdG (a:Pa×Pa):List D:=[Pm a.1,Pm a.2]
def AdF (ds:List D):Pa×Pa:=(Uy (ds.getD 0 .top),Uy (ds.getD 1 .top))
instance:Py AdG AdF:=⟨λa=>by simp[AdF,AdG]⟩
def Akn:Dw.Spec:=OY [] .ground AdG AdF (λa=>YR a.1 a.2) Pe noE
theorem Apf:OW Tryz.prog 135 Akn:=by
 refine fn2 2 (Pp) Tryz.func135<|?_;intro a;unfold YR;exact B

def AlI:Dw.Spec:=OY [] (.row 1 3) Sd Sc (λa=>ZO a) PK noE
theorem ApR:OW Tryz.prog 91 AlI:=by
 refine fn2 1 (OZ (l:=[(135,Akn)]) (by simp[Apf])) Tryz.func91<|?_
 intro c;unfold ZO;refine A 17 ?_;refine lP (E:=λ(s:(List Int)×Int) (g:Nat)=>[(0,.sl (c.map Pm)),(3,.osl 3 g 0 s.1.length),(4,Av s.2)]) (O:=λs g=>[(3,dW g 1 3 (s.1.map Le))]) (body:=λs=>AfZ c s.1 s.2) (s:=(([]:List Int),0)) _ ((hX))<|?_
 rintro⟨a,b⟩ h nn
 try dsimp only
 unfold AfZ;refine A 9 ?_;refine cD r ?_ ?_
 ·refine A 2 ?_;refine bC (E:=λ(s:(List Int)) (g:Nat)=>[(0,.sl (c.map Pm)),(3,.osl 3 g 0 s.length),(4,Av b)]) (O:=λs g=>[(3,dW g 1 3 (s.map Le))]) (j:=λs=>YQ b s) ?_ ?_
  ·refine A 7 ?_;refine bC (E:=λ(s:Int) (g:Nat)=>[(0,.sl (c.map Pm)),(3,.osl 3 g 0 a.length),(4,Av b),(5,Av s)]) (O:=λ_ g=>[(3,dW g 1 3 (a.map Le))]) (j:=λs=>Tq a b s) ?_ ?_
   ·refine lP (E:=λ(s:Int) (g:Nat)=>[(0,.sl (c.map Pm)),(3,.osl 3 g 0 a.length),(4,Av b),(5,Av s)]) (O:=λ_ g=>[(3,dW g 1 3 (a.map Le))]) (body:=λs=>Aga c b a s) (s:=(a.length:Int)) _ ((hX))<|?_
    rintro e i nn
    try dsimp only
    unfold Aga;refine A 6 ?_;refine Pj r ?_ ?_
    ·refine A 2 ?_;refine bD λk m=>?_
     refine A 7 ?_;refine bD λo p=>?_
     refine A 1 ?_;refine bD λq t=>?_
     refine A 2 ?_;refine bD λu v=>?_
     refine A 4 ?_;refine cD r ?_ ?_
     ·refine A 9 ?_;exact xL (s:=i64.wrap (e-1)) _ ((hX))
     ·refine A 3 ?_;exact Tc (s:=e) _ ((hX))
    ·refine A 20 ?_;exact Tc (s:=e) _ ((hX))
   ·rintro d w nn
    try dsimp only
    unfold Tq;refine A 4 ?_;refine cK λhq=>AbQ (l:=a) r r r r r r hq<|cK λhq=>aP (([]:List Int)) (a.take d.toNat) Le r r r r r r r (by first|(simp;done)|(simp;omega)) (by simp[List.map_take]) r r (by simp) r (λ_=>r) r hq<|?_
    refine A 7 ?_;refine cK λhq=>aP (([]:List Int)++(a.take d.toNat)) (([b]:List Int)) Le r r r r r r r (by simp) (SP _ _ r) r r (by simp) (QO _ _ r) (λ_=>r) r hq<|?_
    refine A 2 ?_;refine cK λhq=>Agh (l:=a) r r r r r r hq<|cK λhq=>aP ((([]:List Int)++(a.take d.toNat))++([b]:List Int)) (a.drop d.toNat) Le r r r r r r r (by first|(simp;done)|(simp;omega)) (AiK _ _ _) r r (by simp) (QO _ _ r) (λ_=>r) r hq<|?_
    refine A 2 ?_;exact PS (s:=((([]:List Int)++(a.take d.toNat))++([b]:List Int))++(a.drop d.toNat)) _ ((hX))
  ·rintro f x nn
   try dsimp only
   unfold YQ;refine A 5 ?_;exact xL (s:=(f,i64.wrap (b+1))) _ ((hX))
 ·exact B

def AcY:Dw.Spec:=OY [] .ground VN VM (λa=>TA a) Pe noE
theorem AfJ:OW Tryz.prog 94 AcY:=by
 refine fn2 1 (OZ (l:=[(81,Zw)]) (by simp[AbC])) Tryz.func94<|?_
 intro a;unfold TA;exact B

def Alb:Dw.Spec:=OY [] .ground Sa RZ (λa=>AfL a.1 a.2) YB noE
theorem AnO:OW Tryz.prog 44 Alb:=by
 refine fn2 2 (OZ (l:=[(81,Zw),(82,AcX)]) (by simp[AbC,AfI])) Tryz.func44<|?_
 rintro⟨a,b⟩;unfold AfL;refine A 6 ?_;refine sC (E:=λ(_s:Unit) (_g:Unit)=>[(0,Av a),(1,Av b)]) (O:=λ_ _=>[]) (j:=λ_=>Ago b a) ?_ ?_
 ·refine A 3 ?_;refine bD λc d=>?_
  refine A 3 ?_;refine Pj r ?_ ?_
  ·exact B
  ·refine A 1 ?_;refine bD λe f=>?_
   refine A 5 ?_;refine cD r ?_ ?_
   ·exact B
   ·refine A 1 ?_;exact xC (s:=()) () ((hX))
 ·rintro⟨⟩ ⟨⟩ nn
  try dsimp only
  unfold Ago;refine A 6 ?_;refine sC (E:=λ(s:Int) (_g:Unit)=>[(6,Av s)]) (O:=λ_ _=>[]) (j:=λs=>AcA s) ?_ ?_
  ·refine A 8 ?_;refine cD r ?_ ?_
   ·refine A 10 ?_;exact xC (s:=i64.wrap ((i64.wrap (a-(a.tmod b)))+b)) () ((hX))
   ·refine A 1 ?_;exact xC (s:=a) () ((hX))
  ·rintro g ⟨⟩ nn
   try dsimp only
   unfold AcA;exact B

def Aja:Dw.Spec:=OY [] .ground VL VK (λa=>Zx a.1 a.2) Pe noE
theorem Aop:OW Tryz.prog 134 Aja:=by
 refine fn2 2 (OZ (l:=[(94,AcY)]) (by simp[AfJ])) Tryz.func134<|?_
 intro a;unfold Zx;exact B

def AfN (a:(List OU)×OU):List D:=[.sl (a.1.map Pv),Pv a.2]
def AfM (ds:List D):(List OU)×OU:=((uL SQ) (ds.getD 0 .top),SQ (ds.getD 1 .top))
instance:Py AfN AfM:=⟨λa=>by simp[AfM,AfN,Qb (u:=SQ) (en:=Pv) AcK]⟩
def AmF:Dw.Spec:=OY [] .ground AfN AfM (λa=>AeM a.1 a.2) Pe noE
theorem Aqx:OW Tryz.prog 136 AmF:=by
 refine fn2 2 (OZ (l:=[(134,Aja)]) (by simp[Aop])) Tryz.func136<|?_
 rintro⟨b,a⟩;unfold AeM;refine A 13 ?_;refine lP (E:=λ(s:Int) (g:Nat)=>[(0,.sl (b.map Pv)),(3,.optr 3 g 0 0),(5,Av s)]) (O:=λ_ g=>[(3,dV g 2 121 (.agg [Av a.Off,Av a.Size]))]) (body:=λs=>AcZ b a s) (s:=0) _ ((hX))<|?_
 rintro c d nn
 try dsimp only
 unfold AcZ;refine A 9 ?_;refine cD r ?_ ?_
 ·refine A 8 ?_;refine bD λe f=>?_
  refine A 3 ?_;refine bD λh i=>?_
  refine A 3 ?_;refine cD r ?_ ?_
  ·exact B
  ·refine A 8 ?_;exact xL (s:=i64.wrap (c+1)) _ ((hX))
 ·exact B

def AnN:Dw.Spec:=OY [] .ground Abw Abv (λa=>Xs a.1 a.2.1 a.2.2.1 a.2.2.2) YB noE
theorem ArV:OW Tryz.prog 93 AnN:=by
 refine fn2 4 (OZ (l:=[(81,Zw),(82,AcX),(94,AcY),(44,Alb),(136,AmF)]) (by simp[AbC,AfI,AfJ,AnO,Aqx])) Tryz.func93<|?_
 rintro⟨b,a,c,d⟩;unfold Xs;refine A 6 ?_;refine sC (E:=λ(_s:Unit) (_g:Unit)=>[(0,.sl (b.map Pv)),(1,Av a),(2,Av c),(3,Av d)]) (O:=λ_ _=>[]) (j:=λ_=>Aiw b d c a) ?_ ?_
 ·refine A 3 ?_;refine bD λo p=>?_
  refine A 3 ?_;refine Pj r ?_ ?_
  ·exact B
  ·refine A 1 ?_;refine bD λq t=>?_
   refine A 4 ?_;refine Pj r ?_ ?_
   ·exact B
   ·refine A 1 ?_;refine bD λu v=>?_
    refine A 5 ?_;refine cD r ?_ ?_
    ·exact B
    ·refine A 1 ?_;exact xC (s:=()) () ((hX))
 ·rintro⟨⟩ ⟨⟩ nn
  try dsimp only
  unfold Aiw;refine A 7 ?_;refine lP (E:=λ(s:Int) (_g:Unit)=>[(0,.sl (b.map Pv)),(1,Av a),(2,Av c),(3,Av d),(10,Av s)]) (O:=λ_ _=>[]) (body:=λs=>Aiu b d c a s) (s:=0) () ((hX))<|?_
  rintro i ⟨⟩ nn
  try dsimp only
  unfold Aiu;refine A 9 ?_;refine cD r ?_ ?_
  ·refine A 8 ?_;refine bD λw x=>?_
   refine A 2 ?_;refine bD λy z=>?_
   refine A 4 ?_;refine cD r ?_ ?_
   ·exact B
   ·refine A 8 ?_;exact xL (s:=i64.wrap (i+1)) () ((hX))
  ·refine A 18 ?_;refine lP (E:=λ(s:Int×Bool×Int) (_g:Unit)=>[(0,.sl (b.map Pv)),(1,Av a),(2,Av c),(3,Av d),(11,Av s.1),(12,.bool s.2.1),(13,Av s.2.2)]) (O:=λ_ _=>[]) (body:=λs=>Aiv b d c a s.1 s.2.1 s.2.2) (s:=(0,false,(-1))) () ((hX))<|?_
   rintro⟨f,g,e⟩ ⟨⟩ nn
   try dsimp only
   unfold Aiv;refine A 9 ?_;refine cD r ?_ ?_
   ·refine A 10 ?_;refine sC (E:=λ(s:Int) (_g:Unit)=>[(0,.sl (b.map Pv)),(1,Av a),(2,Av c),(3,Av d),(11,Av f),(12,.bool g),(13,Av e),(14,Av s)]) (O:=λ_ _=>[]) (j:=λs=>UM d c b g e f s) ?_ ?_
    ·refine A 6 ?_;refine cD r ?_ ?_
     ·refine A 4 ?_;refine bD λk aa=>?_
      refine DJ rfl rfl rfl (by assumption) rfl ?_;refine A 4 ?_;refine bD λm ab=>?_
      refine A 7 ?_;exact xC (s:=PJ a (i64.wrap (k.Off+m.Size))) () ((hX))
     ·refine A 1 ?_;exact xC (s:=a) () ((hX))
    ·rintro ac ⟨⟩ nn
     try dsimp only
     unfold UM;refine A 4 ?_;refine bD λh ad=>?_
     refine A 22 ?_;refine Pj r ?_ ?_
     ·refine A 1 ?_;refine bD λae af=>?_
      refine A 3 ?_;refine Pj r ?_ ?_
      ·refine A 2 ?_;refine bD λag ah=>?_
       refine A 3 ?_;refine Pj r ?_ ?_
       ·refine A 3 ?_;refine Pj r ?_ ?_
        ·refine A 20 ?_;exact xL (s:=(h.1,true,i64.wrap (e+1))) () ((hX))
        ·refine A 7 ?_;refine cD r ?_ ?_
         ·refine A 12 ?_;exact xL (s:=(h.1,true,i64.wrap (e+1))) () ((hX))
         ·refine A 8 ?_;exact xL (s:=(f,g,i64.wrap (e+1))) () ((hX))
       ·refine A 19 ?_;exact xL (s:=(f,g,i64.wrap (e+1))) () ((hX))
      ·refine A 24 ?_;exact xL (s:=(f,g,i64.wrap (e+1))) () ((hX))
     ·refine A 28 ?_;exact xL (s:=(f,g,i64.wrap (e+1))) () ((hX))
   ·exact B

end
end Go.Proofs.YtilmapojncgflaaGreatDoor
