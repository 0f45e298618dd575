/-
  Programs on typed data, and the proofs that the code does what they say; written by a program (dx.py).
-/
import Derived.Test.YtilmapojncgflaaGreatDoorProg
import Derived.Test.YtilmapojncgflaaGreatDoorDd
import Derived.KernelRfl
import Derived.Test.YtilmapojncgflaaGreatDoorDxP
import Derived.Test.YtilmapojncgflaaGreatDoorDxF1
import Derived.Test.YtilmapojncgflaaGreatDoorDxF2
import Derived.Test.YtilmapojncgflaaGreatDoorDxF4
import Derived.Test.YtilmapojncgflaaGreatDoorDxF5
import Derived.Test.YtilmapojncgflaaGreatDoorDxF6
namespace Go.Proofs.YtilmapojncgflaaGreatDoor
open Go Go.Dw Go.Proofs
open Go.IntKind (i64)
set_option maxRecDepth 100000
set_option maxHeartbeats 40000000
open Go.Dw renaming Rl -> bD,AdA -> bS,AbB -> cD,AdW -> xC,Zg -> xL,AdX -> lP,Zh -> sC,AbC -> bC,rf -> r
noncomputable section
def XA (a:OY×Int×Int):List D:=[QE a.1,Av a.2.1,Av a.2.2]
def Xz (ds:List D):OY×Int×Int:=(Vv (ds.getD 0 .top),uI (ds.getD 1 .top),uI (ds.getD 2 .top))
instance:PA XA Xz:=⟨λa=>by simp[Xz,XA,uI]⟩
def AkG (b:Ph×OY):D:=Uf b.1
def AkF (b:Ph×OY):List D:=[QE b.2]
def Aep:Dw.Spec:=Pd [(0,(2,69))] .val XA Xz (λa=>WS a.1 a.2.1 a.2.2) AkG AkF
theorem AjH:Pa Tryz.prog 9 Aep:=by
 refine fn2 3 (Pe (l:=[(10,Rs),(24,AdJ)]) (by simp[RA,Ajk])) Tryz.func9<|?_
 rintro⟨i,j,a⟩;unfold WS;refine A 16 ?_;refine bD λc k=>?_
 refine A 5 ?_;refine lP (E:=λ(s:(List Int)×Int×(List Int)×Int) (g:Nat×Nat)=>[(0,.optr 8192 0 0 0),(2,Av a),(6,.optr 6 g.1 0 0),(7,.osl 7 g.2 0 s.2.2.1.length),(8,Av s.2.2.2)]) (O:=λs g=>[(6,dV g.1 1 28 (.agg [.nils])),(7,dW g.2 1 3 (s.2.2.1.map Lo)),(8192,dV 0 2 69 (.agg [.sl (s.1.map eU8),Av s.2.1]))]) (body:=λs=>Ym a s.1 s.2.1 s.2.2.1 s.2.2.2) (s:=(c.2.list,c.2.at_,([0]:List Int),c.1)) (_,_) ((hX))<|?_
 rintro⟨c5,e,b,f⟩ ⟨m,o⟩ nn
 try dsimp only
 unfold Ym;refine A 7 ?_;refine cD r ?_ ?_
 ·refine A 7 ?_;refine bD λd p=>?_
  refine A 12 ?_;exact xL (s:=(d.2.list,d.2.at_,b++([d.1]:List Int),i64.wrap (f-1))) (_,_) ((hX))
 ·refine A 17 ?_;refine lP (E:=λ(s:(List Int)×Int×(List Le)×Int×(List Int)) (g:Nat×Nat)=>[(0,.optr 8192 0 0 0),(2,Av a),(6,.optr 6 g.1 0 0),(7,.sl (s.2.2.2.2.map Lo)),(9,.optr 9 g.2 0 0),(10,Av s.2.2.2.1)]) (O:=λs g=>[(6,dV g.1 1 28 (.agg [.nils])),(9,dV g.2 1 28 (.agg [.sl (s.2.2.1.map Pl)])),(8192,dV 0 2 69 (.agg [.sl (s.1.map eU8),Av s.2.1]))]) (body:=λs=>UU a s.1 s.2.1 s.2.2.1 s.2.2.2.1 s.2.2.2.2) (s:=(c5,e,[],0,b)) (_,_) ((Afy [(7,some (_,⟨true,false,1,3,b.map Lo⟩))] ⟨⟨_,_,r,r,r⟩,trivial⟩ ⟨(PS r),(PS r),(PS r),(Aar (Aaq (l:=b) (en:=Lo) r r r (by simp))),(PS r),(PS r),trivial⟩ ⟨(.inl r),(.inr ⟨_,_,_,_,r,r,r,r,Afn r ⟨(Aap Pl r),trivial⟩⟩),(.inl r),trivial⟩))<|?_
  rintro⟨q,t,u,v,w⟩ ⟨x,y⟩ nn
  try dsimp only
  unfold UU;refine A 9 ?_;refine cD r ?_ ?_
  ·refine A 13 ?_;refine bD λh z=>?_
   refine A 1 ?_;refine bS ([h.1]:List Le) Pl r r r (by simp) r r r<|?_
   refine A 16 ?_;exact wf [11] λ_=>B
  ·exact B

def Amy:Dw.Spec:=Pd [] .ground PU PT (λa=>TC a) Pm noE
theorem Aqo:Pa Tryz.prog 129 Amy:=by
 refine fn2 1 (Py) Tryz.func129<|?_;intro a;unfold TC;exact B

def AgZ:Dw.Spec:=Pd [] .ground PU PT (λa=>Rj a) Pm noE
theorem AjX:Pa Tryz.prog 82 AgZ:=by
 refine fn2 1 (Py) Tryz.func82<|?_;intro a;unfold Rj;refine A 12 ?_;refine lP (E:=λ(s:Int) (_g:Unit)=>[(0,Av a),(3,Av s)]) (O:=λ_ _=>[]) (body:=λs=>RO a s) (s:=1) () ((hX))<|?_
 rintro b ⟨⟩ nn
 try dsimp only
 unfold RO;refine A 7 ?_;refine cD r ?_ ?_
 ·refine A 11 ?_;refine cD r ?_ ?_
  ·exact B
  ·refine A 8 ?_;exact xL (s:=i64.wrap (b*2)) () ((hX))
 ·exact B

def Alk:Dw.Spec:=Pd [] .ground Tg Tf (λa=>Uv a) Pc noE
theorem Apu:Pa Tryz.prog 70 Alk:=by
 refine fn2 1 (Pe (l:=[(129,Amy),(82,AgZ)]) (by simp[Aqo,AjX])) Tryz.func70<|?_
 intro a;unfold Uv;refine A 13 ?_;refine cD r ?_ ?_
 ·exact B
 ·refine A 9 ?_;refine lP (E:=λ(s:Int) (_g:Unit)=>[(0,.sl (a.map Ps)),(3,Av s)]) (O:=λ_ _=>[]) (body:=λs=>AfE a s) (s:=0) () ((hX))<|?_
  rintro b ⟨⟩ nn
  try dsimp only
  unfold AfE;refine A 9 ?_;refine cD r ?_ ?_
  ·refine A 8 ?_;refine bD λc d=>?_
   refine A 3 ?_;refine bD λe f=>?_
   refine A 3 ?_;refine Px r ?_ ?_
   ·exact B
   ·refine A 2 ?_;refine bD λg h=>?_
    refine A 3 ?_;refine bD λi j=>?_
    refine A 5 ?_;refine cD r ?_ ?_
    ·exact B
    ·refine A 8 ?_;exact xL (s:=i64.wrap (b+1)) () ((hX))
  ·exact B

def Alj:Dw.Spec:=Pd [] .ground Tg Tf (λa=>Vu a) Pc noE
theorem Apt:Pa Tryz.prog 33 Alj:=by
 refine fn2 1 (Pe (l:=[(70,Alk)]) (by simp[Apu])) Tryz.func33<|?_
 intro a;unfold Vu;refine A 14 ?_;refine bD λe f=>?_
 refine A 4 ?_;refine cD r ?_ ?_
 ·exact B
 ·refine A 9 ?_;refine lP (E:=λ(s:Int×Int) (_g:Unit)=>[(0,.sl (a.map Ps)),(3,Av s.1),(4,Av s.2)]) (O:=λ_ _=>[]) (body:=λs=>Yv a s.1 s.2) (s:=(16,0)) () ((hX))<|?_
  rintro⟨b,c⟩ ⟨⟩ nn
  try dsimp only
  unfold Yv;refine A 9 ?_;refine cD r ?_ ?_
  ·refine A 8 ?_;refine bD λd g=>?_
   refine A 13 ?_;exact xL (s:=(PH b d.Align,i64.wrap (c+1))) () ((hX))
  ·exact B

def Alq:Dw.Spec:=Pd [] .ground AcS AcR (λa=>Ux a) Pc noE
theorem Apx:Pa Tryz.prog 15 Alq:=by
 refine fn2 1 (Pe (l:=[(33,Alj)]) (by simp[Apt])) Tryz.func15<|?_
 intro a;unfold Ux;refine A 18 ?_;refine lP (E:=λ(s:Int×Int) (g:Nat)=>[(1,.optr 1 g 0 0),(3,Av s.1),(4,Av s.2)]) (O:=λ_ g=>[(1,dV g 1 28 (.agg [.sl (a.Funcs.map Pl)]))]) (body:=λs=>Abn a s.1 s.2) (s:=(16,0)) _ ((hX))<|?_
 rintro⟨b,c⟩ e nn
 try dsimp only
 unfold Abn;refine A 10 ?_;refine cD r ?_ ?_
 ·refine A 9 ?_;refine bD λf h=>?_
  refine A 3 ?_;refine bD λd i=>?_
  refine A 11 ?_;exact xL (s:=(PH b d,i64.wrap (c+1))) _ ((hX))
 ·exact B

def Aio:Dw.Spec:=Pd [] .ground PU PT (λa=>Xi a) Pm noE
theorem Alp:Pa Tryz.prog 133 Aio:=by
 refine fn2 1 (Py) Tryz.func133<|?_;intro a;unfold Xi;exact B

def Aln:Dw.Spec:=Pd [] .ground SD SC (λa=>Aco a) Pm noE
theorem Apv:Pa Tryz.prog 72 Aln:=by
 refine fn2 1 (Pe (l:=[(133,Aio)]) (by simp[Alp])) Tryz.func72<|?_
 intro a;unfold Aco;refine A 12 ?_;refine lP (E:=λ(s:Int) (_g:Unit)=>[(0,.sl (a.map Lo)),(3,Av s)]) (O:=λ_ _=>[]) (body:=λs=>Tm a s) (s:=0) () ((hX))<|?_
 rintro b ⟨⟩ nn
 try dsimp only
 unfold Tm;refine A 9 ?_;refine cD r ?_ ?_
 ·refine A 8 ?_;refine bD λc d=>?_
  refine A 2 ?_;refine bD λe f=>?_
  refine A 3 ?_;refine Px r ?_ ?_
  ·exact B
  ·refine A 3 ?_;refine Px r ?_ ?_
   ·refine A 2 ?_;refine bD λg h=>?_
    refine A 5 ?_;refine bD λi j=>?_
    refine A 7 ?_;refine cD r ?_ ?_
    ·exact B
    ·refine A 8 ?_;exact xL (s:=i64.wrap (b+1)) () ((hX))
   ·refine A 23 ?_;exact xL (s:=i64.wrap (b+1)) () ((hX))
 ·exact B

def Ahc:Dw.Spec:=Pd [] .ground Ql Qk (λa=>Acq a.1 a.2) Pm noE
theorem Akb:Pa Tryz.prog 35 Ahc:=by
 refine fn2 2 (Pe (l:=[(72,Aln)]) (by simp[Apv])) Tryz.func35<|?_
 rintro⟨a,b⟩;unfold Acq;refine A 19 ?_;refine cD r ?_ ?_
 ·exact B
 ·refine A 9 ?_;refine lP (E:=λ(s:Int) (g:Nat×Nat)=>[(2,.optr 2 g.1 0 0),(3,.optr 3 g.2 0 0),(5,Av s)]) (O:=λ_ g=>[(2,dV g.1 3 36 (Pl a)),(3,dV g.2 1 40 (.agg [.sl (b.Out.map (eL Lo))]))]) (body:=λs=>AfI b a s) (s:=0) (_,_) ((hX))<|?_
  rintro c ⟨d,e⟩ nn
  try dsimp only
  unfold AfI;refine A 10 ?_;refine cD r ?_ ?_
  ·refine A 10 ?_;refine bD λf h=>?_
   refine A 2 ?_;refine bD λi j=>?_
   refine A 4 ?_;refine cD r ?_ ?_
   ·exact B
   ·refine A 7 ?_;refine bD λk m=>?_
    refine A 11 ?_;refine Px r ?_ ?_
    ·refine A 3 ?_;refine bD λo p=>?_
     refine A 4 ?_;refine bD λq t=>?_
     refine A 9 ?_;refine cD r ?_ ?_
     ·exact B
     ·refine A 8 ?_;exact xL (s:=i64.wrap (c+1)) (_,_) ((hX))
    ·refine A 25 ?_;exact xL (s:=i64.wrap (c+1)) (_,_) ((hX))
  ·exact B

def AmB:Dw.Spec:=Pd [] (.row 1 3) AcG AcF (λa=>Abo a.1 a.2) PL noE
theorem Aqp:Pa Tryz.prog 130 AmB:=by
 refine fn2 2 (Py) Tryz.func130<|?_;rintro⟨c,b⟩;unfold Abo;refine A 6 ?_;refine sC (E:=λ(_s:Unit) (g:Nat)=>[(1,Av b),(2,.optr 2 g 0 0)]) (O:=λ_ g=>[(2,dV g 3 36 (Pl c))]) (j:=λ_=>AcK c b) ?_ ?_
 ·refine A 5 ?_;refine Px r ?_ ?_
  ·exact B
  ·refine A 8 ?_;refine cD r ?_ ?_
   ·exact B
   ·refine A 1 ?_;exact xC (s:=()) _ ((hX))
 ·rintro⟨⟩ d nn
  try dsimp only
  unfold AcK;refine A 5 ?_;refine bD λa e=>?_
  refine A 20 ?_;refine cD r ?_ ?_
  ·exact B
  ·refine sC (E:=λ(s:Bool) (g:Nat)=>[(1,Av b),(5,.optr 5 g 0 0),(21,Av a.Op),(27,.bool s)]) (O:=λ_ g=>[(5,dV g 5 63 (Pp a))]) (j:=λs=>Sl a b s) ?_ ?_
   ·refine A 6 ?_;refine cD r ?_ ?_
    ·refine A 1 ?_;exact xC (s:=(a.Op==23)) _ ((hX))
    ·refine A 4 ?_;exact xC (s:=(a.Op==24)) _ ((hX))
   ·rintro f h nn
    try dsimp only
    unfold Sl;refine cD r ?_ ?_
    ·exact B
    ·refine A 6 ?_;refine cD r ?_ ?_
     ·refine A 11 ?_;refine cD r ?_ ?_
      ·refine A 6 ?_;refine bS ([a.B,i64.wrap (b+1)]:List Int) Lo r r r (by simp) r r r<|?_
       exact B
      ·refine A 10 ?_;refine cD r ?_ ?_
       ·refine A 6 ?_;refine bS ([i64.wrap (b+1),a.B]:List Int) Lo r r r (by simp) r r r<|?_
        exact B
       ·exact B
     ·exact B

def AbW:Dw.Spec:=Pd [] .ground RC RB (λa=>SM a) Pm noE
theorem AgF:Pa Tryz.prog 75 AbW:=by
 refine fn2 1 (Py) Tryz.func75<|?_;intro a;unfold SM;exact B

def Xj:Dw.Spec:=Pd [] .ground RC RB (λa=>RJ a) VH noE
theorem Zc:Pa Tryz.prog 78 Xj:=by
 refine fn2 1 (Pe (l:=[(75,AbW)]) (by simp[AgF])) Tryz.func78<|?_
 intro a;unfold RJ;exact B

def AjZ:Dw.Spec:=Pd [] (.row 1 3) Qw Qv (λa=>AaT a.1 a.2) PL noE
theorem AoV:Pa Tryz.prog 177 AjZ:=by
 refine fn2 2 (Py) Tryz.func177<|?_;rintro⟨a,b⟩;unfold AaT;refine A 17 ?_;refine lP (E:=λ(s:(List Int)×Int) (g:Nat)=>[(0,.sl (a.map Lo)),(1,Av b),(5,.osl 5 g 0 s.1.length),(6,Av s.2)]) (O:=λs g=>[(5,dW g 1 3 (s.1.map Lo))]) (body:=λs=>TE a b s.1 s.2) (s:=(([]:List Int),0)) _ ((hX))<|?_
 rintro⟨c,d⟩ f nn
 try dsimp only
 unfold TE;refine A 9 ?_;refine cD r ?_ ?_
 ·refine A 8 ?_;refine bD λh i=>?_
  refine A 6 ?_;refine cD r ?_ ?_
  ·refine A 4 ?_;refine bD λe j=>?_
   refine A 13 ?_;exact xL (s:=(c++([e]:List Int),i64.wrap (d+1))) _ ((hX))
  ·refine A 8 ?_;exact xL (s:=(c,i64.wrap (d+1))) _ ((hX))
 ·exact B

def Aiq:Dw.Spec:=Pd [] (.row 1 3) RC RB (λa=>Vq a) PL noE
theorem Alr:Pa Tryz.prog 77 Aiq:=by
 refine fn2 1 (Py) Tryz.func77<|?_;intro a;unfold Vq;exact B

def Ajr:Dw.Spec:=Pd [] (.row 1 3) Qw Qv (λa=>Xh a.1 a.2) PL noE
theorem Amz:Pa Tryz.prog 79 Ajr:=by
 refine fn2 2 (Pe (l:=[(133,Aio)]) (by simp[Alp])) Tryz.func79<|?_
 rintro⟨b,a⟩;unfold Xh;refine A 13 ?_;refine bD λf o=>?_
 refine A 12 ?_;refine lP (E:=λ(s:(List Int)×Bool×Int) (g:Nat)=>[(0,.sl (b.map Lo)),(1,Av a),(5,.osl 5 g 0 s.1.length),(6,.bool s.2.1),(7,Av s.2.2)]) (O:=λs g=>[(5,dW g 1 3 (s.1.map Lo))]) (body:=λs=>Sh b a s.1 s.2.1 s.2.2) (s:=(([]:List Int),(!f),0)) _ ((hX))<|?_
 rintro⟨c,e,d⟩ p nn
 try dsimp only
 unfold Sh;refine A 9 ?_;refine cD r ?_ ?_
 ·refine A 4 ?_;refine sC (E:=λ(s:(List Int)×Bool) (g:Nat)=>[(0,.sl (b.map Lo)),(1,Av a),(5,.osl 5 g 0 s.1.length),(6,.bool s.2),(7,Av d)]) (O:=λs g=>[(5,dW g 1 3 (s.1.map Lo))]) (j:=λs=>TD b d s.1 s.2) ?_ ?_
  ·refine sC (E:=λ(s:Bool) (g:Nat)=>[(0,.sl (b.map Lo)),(1,Av a),(5,.osl 5 g 0 c.length),(6,.bool e),(7,Av d),(26,.bool s)]) (O:=λ_ g=>[(5,dW g 1 3 (c.map Lo))]) (j:=λs=>UM b d a c e s) ?_ ?_
   ·refine A 4 ?_;refine Px r ?_ ?_
    ·refine A 2 ?_;refine bD λh q=>?_
     refine A 6 ?_;exact xC (s:=(decide (h>=a))) _ ((hX))
    ·refine A 8 ?_;exact xC (s:=false) _ ((hX))
   ·rintro t u nn
    try dsimp only
    unfold UM;refine cD r ?_ ?_
    ·refine A 5 ?_;refine bD λv w=>?_
     refine A 6 ?_;refine cD r ?_ ?_
     ·refine A 11 ?_;exact xC (s:=(c++([a]:List Int),true)) _ ((hX))
     ·refine A 5 ?_;exact xC (s:=(c,true)) _ ((hX))
    ·refine A 1 ?_;exact xC (s:=(c,e)) _ ((hX))
  ·rintro⟨i,k⟩ x nn
   try dsimp only
   unfold TD;refine A 4 ?_;refine bD λm y=>?_
   refine A 13 ?_;exact xL (s:=(i++([m]:List Int),k,i64.wrap (d+1))) _ ((hX))
 ·exact B

def AcJ:Dw.Spec:=Pd [] (.row 1 3) Td Tc (λa=>Uw a.1 a.2) PL noE
theorem AfF:Pa Tryz.prog 76 AcJ:=by
 refine fn2 2 (Pe (l:=[(79,Ajr)]) (by simp[Amz])) Tryz.func76<|?_
 rintro⟨b,a⟩;unfold Uw;refine A 19 ?_;refine lP (E:=λ(s:(List Int)×Int) (g:Nat)=>[(1,.sl (a.map Lo)),(5,.osl 5 g 0 s.1.length),(6,Av s.2)]) (O:=λs g=>[(5,dW g 1 3 (s.1.map Lo))]) (body:=λs=>Vz a s.1 s.2) (s:=(([]:List Int)++b,0)) _ ((hX))<|?_
 rintro⟨e,c⟩ f nn
 try dsimp only
 unfold Vz;refine A 9 ?_;refine cD r ?_ ?_
 ·refine A 8 ?_;refine bD λh i=>?_
  refine A 2 ?_;refine bD λd j=>?_
  refine A 10 ?_;exact xL (s:=(d,i64.wrap (c+1))) _ ((hX))
 ·exact B

def AoW:Dw.Spec:=Pd [] (.row 1 3) WA Wz (λa=>AfG a.1 a.2) PL noE
theorem AsR:Pa Tryz.prog 132 AoW:=by
 refine fn2 2 (Pe (l:=[(78,Xj),(177,AjZ),(77,Aiq),(76,AcJ)]) (by simp[Zc,AoV,Alr,AfF])) Tryz.func132<|?_
 intro a;unfold AfG;exact B

def Ajs:Dw.Spec:=Pd [] .ground Qw Qv (λa=>TO a.1 a.2) Pm noE
theorem AmA:Pa Tryz.prog 92 Ajs:=by
 refine fn2 2 (Py) Tryz.func92<|?_;rintro⟨a,b⟩;unfold TO;refine A 12 ?_;refine lP (E:=λ(s:Int) (_g:Unit)=>[(0,.sl (a.map Lo)),(1,Av b),(5,Av s)]) (O:=λ_ _=>[]) (body:=λs=>Yx a b s) (s:=0) () ((hX))<|?_
 rintro c ⟨⟩ nn
 try dsimp only
 unfold Yx;refine A 9 ?_;refine cD r ?_ ?_
 ·refine A 8 ?_;refine bD λd e=>?_
  refine A 6 ?_;refine cD r ?_ ?_
  ·exact B
  ·refine A 8 ?_;exact xL (s:=i64.wrap (c+1)) () ((hX))
 ·exact B

def Alo:Dw.Spec:=Pd [] (.row 1 3) Td Tc (λa=>Acp a.1 a.2) PL noE
theorem Apw:Pa Tryz.prog 131 Alo:=by
 refine fn2 2 (Pe (l:=[(92,Ajs)]) (by simp[AmA])) Tryz.func131<|?_
 rintro⟨a,b⟩;unfold Acp;refine A 17 ?_;refine lP (E:=λ(s:(List Int)×Int) (g:Nat)=>[(0,.sl (a.map Lo)),(1,.sl (b.map Lo)),(5,.osl 5 g 0 s.1.length),(6,Av s.2)]) (O:=λs g=>[(5,dW g 1 3 (s.1.map Lo))]) (body:=λs=>Uk a b s.1 s.2) (s:=(([]:List Int),0)) _ ((hX))<|?_
 rintro⟨c,d⟩ f nn
 try dsimp only
 unfold Uk;refine A 9 ?_;refine cD r ?_ ?_
 ·refine A 9 ?_;refine bD λh i=>?_
  refine A 2 ?_;refine bD λj k=>?_
  refine A 4 ?_;refine cD r ?_ ?_
  ·refine A 4 ?_;refine bD λe m=>?_
   refine A 13 ?_;exact xL (s:=(c++([e]:List Int),i64.wrap (d+1))) _ ((hX))
  ·refine A 8 ?_;exact xL (s:=(c,i64.wrap (d+1))) _ ((hX))
 ·exact B

def Aca (a:Le×Pj×Int):List D:=[Pl a.1,Uu a.2.1,Av a.2.2]
def AbZ (ds:List D):Le×Pj×Int:=(Sz (ds.getD 0 .top),XY (ds.getD 1 .top),uI (ds.getD 2 .top))
instance:PA Aca AbZ:=⟨λa=>by simp[AbZ,Aca,uI]⟩
def AiO:Dw.Spec:=Pd [] (.row 1 3) Aca AbZ (λa=>Zp a.1 a.2.1 a.2.2) PL noE
theorem Aoj:Pa Tryz.prog 71 AiO:=by
 refine fn2 3 (Pe (l:=[(130,AmB),(132,AoW),(131,Alo),(76,AcJ)]) (by simp[Aqp,AsR,Apw,AfF])) Tryz.func71<|?_
 rintro⟨b,c,d⟩;unfold Zp;refine A 16 ?_;refine bD λa h=>?_
 refine A 11 ?_;refine lP (E:=λ(s:(List Int)×Int) (g:Nat×Nat×Nat×Nat)=>[(2,Av d),(3,.optr 3 g.1 0 0),(4,.optr 4 g.2.1 0 0),(7,.osl 7 g.2.2.1 0 s.1.length),(8,.osl 8 g.2.2.2 0 a.length),(9,Av s.2)]) (O:=λs g=>[(3,dV g.1 3 36 (Pl b)),(4,dV g.2.1 1 40 (.agg [.sl (c.Out.map (eL Lo))])),(7,dW g.2.2.1 1 3 (s.1.map Lo)),(8,dW g.2.2.2 1 3 (a.map Lo))]) (body:=λs=>Ul a b c d s.1 s.2) (s:=(([]:List Int),0)) (_,_,_,_) ((hX))<|?_
 rintro⟨i,e⟩ ⟨j,k,m,o⟩ nn
 try dsimp only
 unfold Ul;refine A 9 ?_;refine cD r ?_ ?_
 ·refine A 9 ?_;refine bD λp q=>?_
  refine A 9 ?_;refine bD λt u=>?_
  refine A 5 ?_;refine bD λv w=>?_
  refine A 2 ?_;refine bD λx y=>?_
  refine A 4 ?_;refine bD λz aa=>?_
  refine A 2 ?_;refine bD λab ac=>?_
  refine A 1 ?_;refine bD λf ad=>?_
  refine A 10 ?_;exact xL (s:=(f,i64.wrap (e+1))) (_,_,_,_) ((hX))
 ·exact B

def Alu:Dw.Spec:=Pd [] .ground Ql Qk (λa=>Agd a.1 a.2) XU noE
theorem Apy:Pa Tryz.prog 34 Alu:=by
 refine fn2 2 (Pe (l:=[(35,Ahc),(71,AiO)]) (by simp[Akb,Aoj])) Tryz.func34<|?_
 rintro⟨a,b⟩;unfold Agd;refine A 14 ?_;refine bD λd e=>?_
 refine A 4 ?_;refine cD r ?_ ?_
 ·exact B
 ·refine A 9 ?_;refine lP (E:=λ(s:Int) (g:Nat×Nat)=>[(2,.optr 2 g.1 0 0),(3,.optr 3 g.2 0 0),(7,Av s)]) (O:=λ_ g=>[(2,dV g.1 3 36 (Pl a)),(3,dV g.2 1 40 (.agg [.sl (b.Out.map (eL Lo))]))]) (body:=λs=>AfH a b s) (s:=0) (_,_) ((hX))<|?_
  rintro c ⟨f,h⟩ nn
  try dsimp only
  unfold AfH;refine A 10 ?_;refine cD r ?_ ?_
  ·refine A 9 ?_;refine bD λi j=>?_
   refine A 11 ?_;refine cD r ?_ ?_
   ·exact B
   ·refine A 8 ?_;exact xL (s:=i64.wrap (c+1)) (_,_) ((hX))
  ·exact B

def WE:Dw.Spec:=Pd [] .ground Ql Qk (λa=>Tx a.1 a.2) Pc noE
theorem Yy:Pa Tryz.prog 16 WE:=by
 refine fn2 2 (Pe (l:=[(34,Alu),(35,Ahc)]) (by simp[Apy,Akb])) Tryz.func16<|?_
 intro a;unfold Tx;exact B

def Alv:Dw.Spec:=Pd [] .ground WN WM (λa=>Agf a.1 a.2) Pm noE
theorem ApA:Pa Tryz.prog 74 Alv:=by
 refine fn2 2 (Py) Tryz.func74<|?_;rintro⟨a,b⟩;unfold Agf;refine A 17 ?_;refine cD r ?_ ?_
 ·exact B
 ·refine A 9 ?_;refine lP (E:=λ(s:Int) (g:Nat)=>[(1,.sl (b.map Lo)),(2,.optr 2 g 0 0),(5,Av s)]) (O:=λ_ g=>[(2,dV g 3 36 (Pl a))]) (body:=λs=>AfM b a s) (s:=0) _ ((hX))<|?_
  rintro c e nn
  try dsimp only
  unfold AfM;refine A 9 ?_;refine cD r ?_ ?_
  ·refine A 8 ?_;refine bD λf h=>?_
   refine A 4 ?_;refine Px r ?_ ?_
   ·exact B
   ·refine A 2 ?_;refine bD λi j=>?_
    refine A 8 ?_;refine cD r ?_ ?_
    ·exact B
    ·refine A 8 ?_;exact xL (s:=i64.wrap (c+1)) _ ((hX))
  ·refine A 12 ?_;refine lP (E:=λ(s:Int) (g:Nat)=>[(1,.sl (b.map Lo)),(2,.optr 2 g 0 0),(6,Av s)]) (O:=λ_ g=>[(2,dV g 3 36 (Pl a))]) (body:=λs=>AfN b a s) (s:=0) _ ((hX))<|?_
   rintro d k nn
   try dsimp only
   unfold AfN;refine A 9 ?_;refine cD r ?_ ?_
   ·refine A 10 ?_;refine bD λl m=>?_
    refine A 2 ?_;refine bD λo p=>?_
    refine A 6 ?_;refine bD λq t=>?_
    refine A 5 ?_;refine Px r ?_ ?_
    ·exact B
    ·refine A 3 ?_;refine bD λu v=>?_
     refine A 2 ?_;refine bD λw x=>?_
     refine A 4 ?_;refine bD λy z=>?_
     refine A 6 ?_;refine cD r ?_ ?_
     ·exact B
     ·refine A 8 ?_;exact xL (s:=i64.wrap (d+1)) _ ((hX))
   ·exact B

def AcN:Dw.Spec:=Pd [] .ground RR RQ (λa=>XG a.1 a.2) Pc noE
theorem AfQ:Pa Tryz.prog 37 AcN:=by
 refine fn2 2 (Pe (l:=[(74,Alv),(75,AbW)]) (by simp[ApA,AgF])) Tryz.func37<|?_
 rintro⟨b,a⟩;unfold XG;refine A 7 ?_;refine sC (E:=λ(_s:Unit) (g:Nat×Nat)=>[(2,.optr 2 g.1 0 0),(3,.optr 3 g.2 0 0)]) (O:=λ_ g=>[(2,dV g.1 3 36 (Pl b)),(3,dV g.2 2 44 (.agg [.sl (a.To.map Lo),.sl (a.Keep.map D.bool)]))]) (j:=λ_=>Abs b a) ?_ ?_
 ·refine A 5 ?_;refine bD λd e=>?_
  refine A 3 ?_;refine Px r ?_ ?_
  ·exact B
  ·refine A 10 ?_;refine cD r ?_ ?_
   ·exact B
   ·refine A 1 ?_;exact xC (s:=()) (_,_) ((hX))
 ·rintro⟨⟩ ⟨f,h⟩ nn
  try dsimp only
  unfold Abs;refine A 7 ?_;refine lP (E:=λ(s:Int) (g:Nat×Nat)=>[(2,.optr 2 g.1 0 0),(3,.optr 3 g.2 0 0),(5,Av s)]) (O:=λ_ g=>[(2,dV g.1 3 36 (Pl b)),(3,dV g.2 2 44 (.agg [.sl (a.To.map Lo),.sl (a.Keep.map D.bool)]))]) (body:=λs=>Abr b a s) (s:=0) (_,_) ((hX))<|?_
  rintro c ⟨i,k⟩ nn
  try dsimp only
  unfold Abr;refine A 10 ?_;refine cD r ?_ ?_
  ·refine A 9 ?_;refine bD λm o=>?_
   refine A 4 ?_;refine Px r ?_ ?_
   ·refine A 3 ?_;refine bD λp q=>?_
    refine A 2 ?_;refine bD λt u=>?_
    refine A 5 ?_;refine cD r ?_ ?_
    ·exact B
    ·refine A 8 ?_;exact xL (s:=i64.wrap (c+1)) (_,_) ((hX))
   ·refine A 19 ?_;exact xL (s:=i64.wrap (c+1)) (_,_) ((hX))
  ·exact B

def AaV (a:Le×Pj×Pk×Int):List D:=[Pl a.1,Uu a.2.1,AdL a.2.2.1,Av a.2.2.2]
def AaU (ds:List D):Le×Pj×Pk×Int:=(Sz (ds.getD 0 .top),XY (ds.getD 1 .top),AdY (ds.getD 2 .top),uI (ds.getD 3 .top))
instance:PA AaV AaU:=⟨λa=>by simp[AaU,AaV,uI]⟩
def Aiu:Dw.Spec:=Pd [] .ground AaV AaU (λa=>YE a.1 a.2.1 a.2.2.1 a.2.2.2) VH noE
theorem Anx:Pa Tryz.prog 73 Aiu:=by
 refine fn2 4 (Pe (l:=[(78,Xj),(92,Ajs)]) (by simp[Zc,AmA])) Tryz.func73<|?_
 rintro⟨f,b,a,c⟩;unfold YE;refine A 14 ?_;refine bD λh i=>?_
 refine A 9 ?_;refine bD λd k=>?_
 refine A 8 ?_;refine sC (E:=λ(_s:Unit) (g:Nat×Nat)=>[(3,Av c),(5,.optr 5 g.1 0 0),(6,.optr 6 g.2 0 0),(11,Av d.1)]) (O:=λ_ g=>[(5,dV g.1 1 40 (.agg [.sl (b.Out.map (eL Lo))])),(6,dV g.2 2 44 (.agg [.sl (a.To.map Lo),.sl (a.Keep.map D.bool)]))]) (j:=λ_=>TM a c b d) ?_ ?_
 ·refine A 5 ?_;refine Px r ?_ ?_
  ·exact B
  ·refine A 4 ?_;refine Px r ?_ ?_
   ·refine A 4 ?_;refine bD λm o=>?_
    refine A 6 ?_;refine bD λp q=>?_
    refine A 7 ?_;refine cD r ?_ ?_
    ·exact B
    ·refine A 1 ?_;exact xC (s:=()) (_,_) ((hX))
   ·refine A 19 ?_;exact xC (s:=()) (_,_) ((hX))
 ·rintro⟨⟩ ⟨t,u⟩ nn
  try dsimp only
  unfold TM;refine A 6 ?_;refine bD λv w=>?_
  refine A 5 ?_;refine cD r ?_ ?_
  ·exact B
  ·refine A 9 ?_;refine lP (E:=λ(s:Int) (g:Nat×Nat)=>[(3,Av c),(5,.optr 5 g.1 0 0),(6,.optr 6 g.2 0 0),(11,Av d.1),(13,Av s)]) (O:=λ_ g=>[(5,dV g.1 1 40 (.agg [.sl (b.Out.map (eL Lo))])),(6,dV g.2 2 44 (.agg [.sl (a.To.map Lo),.sl (a.Keep.map D.bool)]))]) (body:=λs=>XX b c d a s) (s:=0) (_,_) ((hX))<|?_
   rintro e ⟨x,y⟩ nn
   try dsimp only
   unfold XX;refine A 7 ?_;refine bD λz aa=>?_
   refine A 6 ?_;refine cD r ?_ ?_
   ·refine A 9 ?_;refine bD λab ac=>?_
    refine A 3 ?_;refine bD λad ae=>?_
    refine A 11 ?_;refine Px r ?_ ?_
    ·refine A 3 ?_;refine bD λaf ag=>?_
     refine A 5 ?_;refine bD λah ai=>?_
     refine A 6 ?_;refine cD r ?_ ?_
     ·exact B
     ·refine A 8 ?_;exact xL (s:=i64.wrap (e+1)) (_,_) ((hX))
    ·refine A 23 ?_;exact xL (s:=i64.wrap (e+1)) (_,_) ((hX))
   ·exact B

def Xl (a:Le×Pj×Pk):List D:=[Pl a.1,Uu a.2.1,AdL a.2.2]
def Xk (ds:List D):Le×Pj×Pk:=(Sz (ds.getD 0 .top),XY (ds.getD 1 .top),AdY (ds.getD 2 .top))
instance:PA Xl Xk:=⟨λa=>by simp[Xk,Xl]⟩
def Ait:Dw.Spec:=Pd [] .ground Xl Xk (λa=>Abu a.1 a.2.1 a.2.2) XU noE
theorem Anw:Pa Tryz.prog 36 Ait:=by
 refine fn2 3 (Pe (l:=[(16,WE),(37,AcN),(73,Aiu)]) (by simp[Yy,AfQ,Anx])) Tryz.func36<|?_
 rintro⟨b,c,a⟩;unfold Abu;refine A 10 ?_;refine sC (E:=λ(_s:Unit) (g:Nat×Nat×Nat)=>[(3,.optr 3 g.1 0 0),(4,.optr 4 g.2.1 0 0),(5,.optr 5 g.2.2 0 0)]) (O:=λ_ g=>[(3,dV g.1 3 36 (Pl b)),(4,dV g.2.1 1 40 (.agg [.sl (c.Out.map (eL Lo))])),(5,dV g.2.2 2 44 (.agg [.sl (a.To.map Lo),.sl (a.Keep.map D.bool)]))]) (j:=λ_=>Acf b c a) ?_ ?_
 ·refine A 4 ?_;refine bD λe f=>?_
  refine A 3 ?_;refine Px r ?_ ?_
  ·exact B
  ·refine A 2 ?_;refine bD λh i=>?_
   refine A 5 ?_;refine cD r ?_ ?_
   ·exact B
   ·refine A 1 ?_;exact xC (s:=()) (_,_,_) ((hX))
 ·rintro⟨⟩ ⟨k,m,o⟩ nn
  try dsimp only
  unfold Acf;refine A 7 ?_;refine lP (E:=λ(s:Int) (g:Nat×Nat×Nat)=>[(3,.optr 3 g.1 0 0),(4,.optr 4 g.2.1 0 0),(5,.optr 5 g.2.2 0 0),(9,Av s)]) (O:=λ_ g=>[(3,dV g.1 3 36 (Pl b)),(4,dV g.2.1 1 40 (.agg [.sl (c.Out.map (eL Lo))])),(5,dV g.2.2 2 44 (.agg [.sl (a.To.map Lo),.sl (a.Keep.map D.bool)]))]) (body:=λs=>Ace b c a s) (s:=0) (_,_,_) ((hX))<|?_
  rintro d ⟨p,q,t⟩ nn
  try dsimp only
  unfold Ace;refine A 10 ?_;refine cD r ?_ ?_
  ·refine A 10 ?_;refine bD λu v=>?_
   refine A 13 ?_;refine cD r ?_ ?_
   ·exact B
   ·refine A 8 ?_;exact xL (s:=i64.wrap (d+1)) (_,_,_) ((hX))
  ·exact B

def Alx:Dw.Spec:=Pd [] .ground Xl Xk (λa=>Agg a.1 a.2.1 a.2.2) Pc noE
theorem ApE:Pa Tryz.prog 17 Alx:=by
 refine fn2 3 (Pe (l:=[(16,WE),(36,Ait),(37,AcN)]) (by simp[Yy,Anw,AfQ])) Tryz.func17<|?_
 intro a;unfold Agg;exact B

def AbY (a:Int×(List Int)):List D:=[Av a.1,.sl (a.2.map Lo)]
def AbX (ds:List D):Int×(List Int):=(uI (ds.getD 0 .top),(uL uI) (ds.getD 1 .top))
instance:PA AbY AbX:=⟨λa=>by simp[AbX,AbY,uI,Qh (u:=uI) (en:=Lo) (λ_=>rfl)]⟩
def AiN:Dw.Spec:=Pd [] .ground AbY AbX (λa=>TP a.1 a.2) Pc noE
theorem Aoi:Pa Tryz.prog 80 AiN:=by
 refine fn2 2 (Py) Tryz.func80<|?_;intro a;unfold TP;exact B

def AeF:Dw.Spec:=Pd [] .ground WA Wz (λa=>WD a.1 a.2) Aib noE
theorem Aip:Pa Tryz.prog 42 AeF:=by
 refine fn2 2 (Pe (l:=[(80,AiN)]) (by simp[Aoi])) Tryz.func42<|?_
 intro a;unfold WD;exact B

def AmC:Dw.Spec:=Pd [] (.row 1 3) RR RQ (λa=>Abt a.1 a.2) PL noE
theorem Aqr:Pa Tryz.prog 38 AmC:=by
 refine fn2 2 (Pe (l:=[(42,AeF),(77,Aiq),(76,AcJ),(78,Xj),(79,Ajr)]) (by simp[Aip,Alr,AfF,Zc,Amz])) Tryz.func38<|?_
 rintro⟨c,a⟩;unfold Abt;refine A 19 ?_;refine lP (E:=λ(s:(List Int)×Int) (g:Nat×Nat×Nat)=>[(2,.optr 2 g.1 0 0),(3,.optr 3 g.2.1 0 0),(5,.osl 5 g.2.2 0 s.1.length),(6,Av s.2)]) (O:=λs g=>[(2,dV g.1 3 36 (Pl c)),(3,dV g.2.1 2 44 (.agg [.sl (a.To.map Lo),.sl (a.Keep.map D.bool)])),(5,dW g.2.2 1 3 (s.1.map Lo))]) (body:=λs=>AcP c a s.1 s.2) (s:=(([]:List Int),0)) (_,_,_) ((hX))<|?_
 rintro⟨d,b⟩ ⟨h,i,k⟩ nn
 try dsimp only
 unfold AcP;refine sC (E:=λ(_s:Unit) (g:Nat×Nat×Nat)=>[(2,.optr 2 g.1 0 0),(3,.optr 3 g.2.1 0 0),(5,.osl 5 g.2.2 0 d.length),(6,Av b),(16,Av b),(17,.optr 3 g.2.1 0 1),(18,.sl (a.Keep.map D.bool)),(19,Av (a.Keep.length:Int)),(20,.bool (decide (b<(a.Keep.length:Int))))]) (O:=λ_ g=>[(2,dV g.1 3 36 (Pl c)),(3,dV g.2.1 2 44 (.agg [.sl (a.To.map Lo),.sl (a.Keep.map D.bool)])),(5,dW g.2.2 1 3 (d.map Lo))]) (j:=λ_=>Zq a b d c) ?_ ?_
 ·refine A 8 ?_;refine Px r ?_ ?_
  ·refine A 8 ?_;refine cD r ?_ ?_
   ·refine A 1 ?_;exact xC (s:=()) (_,_,_) ((hX))
   ·exact B
  ·exact B
 ·rintro⟨⟩ ⟨m,o,p⟩ nn
  try dsimp only
  unfold Zq;refine A 8 ?_;refine bD λq t=>?_
  refine A 5 ?_;refine cD r ?_ ?_
  ·refine A 9 ?_;exact xL (s:=(d,i64.wrap (b+1))) (_,_,_) ((hX))
  ·refine A 7 ?_;refine bD λu v=>?_
   refine A 4 ?_;refine bD λw x=>?_
   refine A 9 ?_;refine bD λy z=>?_
   refine A 1 ?_;refine bD λe aa=>?_
   refine A 7 ?_;refine bD λab ac=>?_
   refine A 13 ?_;refine cD r ?_ ?_
   ·refine A 3 ?_;refine bD λf ad=>?_
    refine A 10 ?_;exact xL (s:=(f,i64.wrap (b+1))) (_,_,_) ((hX))
   ·refine A 8 ?_;exact xL (s:=(e,i64.wrap (b+1))) (_,_,_) ((hX))

def AiP:Dw.Spec:=Pd [] (.row 1 3) Qw Qv (λa=>WG a.1 a.2) PL noE
theorem Aok:Pa Tryz.prog 39 AiP:=by
 refine fn2 2 (Py) Tryz.func39<|?_;rintro⟨b,c⟩;unfold WG;refine A 17 ?_;refine lP (E:=λ(s:(List Int)×Int) (g:Nat)=>[(0,.sl (b.map Lo)),(1,Av c),(5,.osl 5 g 0 s.1.length),(6,Av s.2)]) (O:=λs g=>[(5,dW g 1 3 (s.1.map Lo))]) (body:=λs=>Adp b c s.1 s.2) (s:=(([]:List Int),0)) _ ((hX))<|?_
 rintro⟨d,a⟩ e nn
 try dsimp only
 unfold Adp;refine A 9 ?_;refine cD r ?_ ?_
 ·refine A 8 ?_;refine bD λf h=>?_
  refine A 6 ?_;refine cD r ?_ ?_
  ·refine A 14 ?_;exact xL (s:=(d++([a]:List Int),i64.wrap (a+1))) _ ((hX))
  ·refine A 8 ?_;exact xL (s:=(d,i64.wrap (a+1))) _ ((hX))
 ·exact B

def Acd (a:Pk×(List Int)):List D:=[AdL a.1,.sl (a.2.map Lo)]
def Acb (ds:List D):Pk×(List Int):=(AdY (ds.getD 0 .top),(uL uI) (ds.getD 1 .top))
instance:PA Acd Acb:=⟨λa=>by simp[Acb,Acd,Qh (u:=uI) (en:=Lo) (λ_=>rfl)]⟩
def AiR:Dw.Spec:=Pd [] (.row 1 3) Acd Acb (λa=>Zr a.1 a.2) PL noE
theorem Aom:Pa Tryz.prog 40 AiR:=by
 refine fn2 2 (Py) Tryz.func40<|?_;rintro⟨a,b⟩;unfold Zr;refine A 18 ?_;refine lP (E:=λ(s:(List Int)×Int) (g:Nat×Nat)=>[(1,.sl (b.map Lo)),(2,.optr 2 g.1 0 0),(5,.osl 5 g.2 0 s.1.length),(6,Av s.2)]) (O:=λs g=>[(2,dV g.1 2 44 (.agg [.sl (a.To.map Lo),.sl (a.Keep.map D.bool)])),(5,dW g.2 1 3 (s.1.map Lo))]) (body:=λs=>Adq a b s.1 s.2) (s:=(([]:List Int),0)) (_,_) ((hX))<|?_
 rintro⟨d,c⟩ ⟨i,k⟩ nn
 try dsimp only
 unfold Adq;refine A 10 ?_;refine cD r ?_ ?_
 ·refine A 2 ?_;refine bC (E:=λ(s:(List Int)) (g:Nat×Nat)=>[(1,.sl (b.map Lo)),(2,.optr 2 g.1 0 0),(5,.osl 5 g.2 0 s.length),(6,Av c)]) (O:=λs g=>[(2,dV g.1 2 44 (.agg [.sl (a.To.map Lo),.sl (a.Keep.map D.bool)])),(5,dW g.2 1 3 (s.map Lo))]) (j:=λs=>Zd c s) ?_ ?_
  ·refine A 12 ?_;refine lP (E:=λ(s:Int×Int) (g:Nat×Nat)=>[(1,.sl (b.map Lo)),(2,.optr 2 g.1 0 0),(5,.osl 5 g.2 0 d.length),(6,Av c),(7,Av s.1),(8,Av s.2)]) (O:=λ_ g=>[(2,dV g.1 2 44 (.agg [.sl (a.To.map Lo),.sl (a.Keep.map D.bool)])),(5,dW g.2 1 3 (d.map Lo))]) (body:=λs=>Adr b a c d s.1 s.2) (s:=(0,0)) (_,_) ((hX))<|?_
   rintro⟨f,e⟩ ⟨l,m⟩ nn
   try dsimp only
   unfold Adr;refine A 9 ?_;refine cD r ?_ ?_
   ·refine A 8 ?_;refine bD λo p=>?_
    refine A 5 ?_;refine bD λq t=>?_
    refine A 5 ?_;refine cD r ?_ ?_
    ·refine A 11 ?_;exact xL (s:=(e,i64.wrap (e+1))) (_,_) ((hX))
    ·refine A 8 ?_;exact xL (s:=(f,i64.wrap (e+1))) (_,_) ((hX))
   ·refine A 12 ?_;exact Rz (s:=d++([f]:List Int)) (_,_) ((hX))
  ·rintro h ⟨u,v⟩ nn
   try dsimp only
   unfold Zd;refine A 5 ?_;exact xL (s:=(h,i64.wrap (c+1))) (_,_) ((hX))
 ·exact B

def Ake:Dw.Spec:=Pd [] (.row 1 3) Xo Xn (λa=>AeG a) PL noE
theorem AoX:Pa Tryz.prog 41 Ake:=by
 refine fn2 1 (Py) Tryz.func41<|?_;intro b;unfold AeG;refine A 23 ?_;refine lP (E:=λ(s:(List Int)×Int×Int) (g:Nat×Nat)=>[(1,.optr 1 g.1 0 0),(3,.osl 3 g.2 0 s.1.length),(4,Av s.2.1),(5,Av s.2.2)]) (O:=λs g=>[(1,dV g.1 2 44 (.agg [.sl (b.To.map Lo),.sl (b.Keep.map D.bool)])),(3,dW g.2 1 3 (s.1.map Lo))]) (body:=λs=>AeH b s.1 s.2.1 s.2.2) (s:=(([]:List Int),0,0)) (_,_) ((hX))<|?_
 rintro⟨c,a,d⟩ ⟨e,f⟩ nn
 try dsimp only
 unfold AeH;refine A 10 ?_;refine cD r ?_ ?_
 ·refine A 18 ?_;refine bD λh i=>?_
  refine A 4 ?_;refine cD r ?_ ?_
  ·refine A 12 ?_;exact xL (s:=(c++([a]:List Int),i64.wrap (a+1),i64.wrap (d+1))) (_,_) ((hX))
  ·refine A 8 ?_;exact xL (s:=(c++([a]:List Int),a,i64.wrap (d+1))) (_,_) ((hX))
 ·exact B

end
end Go.Proofs.YtilmapojncgflaaGreatDoor
