/-
  Programs on typed data, and the proofs that the code does what they say; written by a program (dx.py).
-/
import Derived.Test.YtilmapojncgflaaGreatDoorProg
import Derived.Test.YtilmapojncgflaaGreatDoorDd
import Derived.KernelRfl
import Derived.Test.YtilmapojncgflaaGreatDoorDxP
import Derived.Test.YtilmapojncgflaaGreatDoorDxF1
import Derived.Test.YtilmapojncgflaaGreatDoorDxF2
import Derived.Test.YtilmapojncgflaaGreatDoorDxF4
import Derived.Test.YtilmapojncgflaaGreatDoorDxF5
import Derived.Test.YtilmapojncgflaaGreatDoorDxF6
import Derived.Test.YtilmapojncgflaaGreatDoorDxF7
namespace Go.Proofs.YtilmapojncgflaaGreatDoor
open Go Go.Dw Go.Proofs
open Go.IntKind (i64)
set_option maxRecDepth 100000
set_option maxHeartbeats 40000000
open Go.Dw renaming Rl -> bD,Qf -> cK,AdA -> bS,AmW -> aP,Uz -> sE,Zy -> iO,AbB -> cD,AdW -> xC,Zg -> xL,AdX -> lP,Zh -> sC,AbC -> bC,rf -> r
noncomputable section
def Alw:Dw.Spec:=Pd [] .val RR RQ (λa=>SX a.1 a.2) Xm noE
theorem ApD:Pa Tryz.prog 18 Alw:=by
 refine fn2 2 (Pe (l:=[(37,AcN),(38,AmC),(39,AiP),(40,AiR),(41,Ake),(42,AeF)]) (by simp[AfQ,Aqr,Aok,Aom,AoX,Aip])) Tryz.func18<|?_
 rintro⟨a,c⟩;unfold SX;refine A 13 ?_;refine bD λu ab=>?_
 refine A 10 ?_;refine cD r ?_ ?_
 ·refine A 10 ?_;refine Sm (b:=((Le.mk 0 ([]) ([])),u)) r ?_ r r ?_ (by first|rfl|(simp only[Mk];rfl)|(simp only[OV];rfl)|(simp only[Mk,OV];rfl)|(simp[Xm,Pl];try rfl)) (by decide)
  all_goals first|(simp;done)|(simp;omega)|rfl|(simp[QA,Qu];done)
 ·refine A 6 ?_;refine bD λe ac=>?_
  refine A 20 ?_;refine lP (E:=λ(s:(List Pb)×Int) (g:Nat×Nat×Nat×Nat×Nat)=>[(2,.optr 2 g.1 0 0),(3,.optr 3 g.2.1 0 0),(4,.optr 4 g.2.2.1 0 0),(7,.osl 7 g.2.2.2.1 0 e.length),(8,.optr 8 g.2.2.2.2 0 0),(9,Av s.2)]) (O:=λs g=>[(2,dV g.1 3 36 (Pl a)),(3,dV g.2.1 2 44 (.agg [.sl (c.To.map Lo),.sl (c.Keep.map D.bool)])),(4,dV g.2.2.1 3 36 (.agg [Av 0,.nils,.nils])),(7,dW g.2.2.2.1 1 3 (e.map Lo)),(8,dV g.2.2.2.2 3 36 (.agg [Av a.Params,.sl (s.1.map Ps),.nils]))]) (body:=λs=>AfP e a c s.1 s.2) (s:=([],0)) (_,_,_,_,_) ((Afy [] trivial ⟨(PS r),(PS r),(PS r),(PS r),(PS r),(PS r),trivial⟩ ⟨(.inl r),(.inl r),(.inl r),(.inl r),(.inr ⟨_,_,_,_,r,r,r,r,Afn r ⟨(WQ r),(Aap Ps r),(WQ r),trivial⟩⟩),trivial⟩))<|?_
  rintro⟨f,m⟩ ⟨ad,ae,af,ag,ah⟩ nn
  try dsimp only
  unfold AfP;refine A 9 ?_;refine cD r ?_ ?_
  ·refine A 2 ?_;refine bC (E:=λ(_s:(List Pb)) (g:Nat×Nat×Nat×Nat×Nat×Nat)=>[(2,.optr 2 g.1 0 0),(3,.optr 3 g.2.1 0 0),(4,.optr 4 g.2.2.1 0 0),(7,.osl 7 g.2.2.2.1 0 e.length),(8,.optr 8 g.2.2.2.2.1 0 0),(9,Av m)]) (O:=λs g=>[(2,dV g.1 3 36 (Pl a)),(3,dV g.2.1 2 44 (.agg [.sl (c.To.map Lo),.sl (c.Keep.map D.bool)])),(4,dV g.2.2.1 3 36 (.agg [Av 0,.nils,.nils])),(7,dW g.2.2.2.1 1 3 (e.map Lo)),(8,dV g.2.2.2.2.1 3 36 (.agg [Av a.Params,.osl 13 g.2.2.2.2.2 0 s.length,.nils])),(13,dW g.2.2.2.2.2 2 60 (s.map Ps))]) (j:=λs=>YD m s) ?_ ?_
   ·refine A 7 ?_;refine bD λai aj=>?_
    refine A 1 ?_;refine bD λh ak=>?_
    refine A 13 ?_;refine bD λao ap=>?_
    refine A 1 ?_;refine bD λo aq=>?_
    refine A 11 ?_;refine lP (E:=λ(s:Int×Int) (g:Nat×Nat×Nat×Nat×Nat×Nat×Nat)=>[(2,.optr 2 g.1 0 0),(3,.optr 3 g.2.1 0 0),(4,.optr 4 g.2.2.1 0 0),(7,.osl 7 g.2.2.2.1 0 e.length),(8,.optr 8 g.2.2.2.2.1 0 0),(9,Av m),(10,.optr 10 g.2.2.2.2.2.1 0 0),(11,.osl 11 g.2.2.2.2.2.2 0 o.length),(12,Av s.2)]) (O:=λs g=>[(2,dV g.1 3 36 (Pl a)),(3,dV g.2.1 2 44 (.agg [.sl (c.To.map Lo),.sl (c.Keep.map D.bool)])),(4,dV g.2.2.1 3 36 (.agg [Av 0,.nils,.nils])),(7,dW g.2.2.2.1 1 3 (e.map Lo)),(8,dV g.2.2.2.2.1 3 36 (.agg [Av a.Params,.sl (f.map Ps),.nils])),(10,dV g.2.2.2.2.2.1 2 60 (.agg [Av h.Size,Av s.1])),(11,dW g.2.2.2.2.2.2 1 3 (o.map Lo))]) (body:=λs=>YC o a f h m s.1 s.2) (s:=(h.Align,0)) (_,_,_,_,_,_,_) ((hX))<|?_
    rintro⟨p,v⟩ ⟨ar,au,av,aw,ax,ay,az⟩ nn
    try dsimp only
    unfold YC;refine A 9 ?_;refine cD r ?_ ?_
    ·refine A 12 ?_;refine bD λba bb=>?_
     refine A 1 ?_;refine bD λw bc=>?_
     refine A 14 ?_;exact xL (s:=(PH p w.Align,i64.wrap (v+1))) (_,_,_,_,_,_,_) ((hX))
    ·refine A 11 ?_;refine bS ([(Pb.mk h.Size p)]:List Pb) Ps r r r (by simp) r r r<|?_
     refine A 9 ?_;exact Rz (s:=(([]:List Pb)++f)++([(Pb.mk h.Size p)]:List Pb)) (_,_,_,_,_,_) ((hX))
   ·rintro bd ⟨bf,bg,bh,bi,bj,bk⟩ nn
    try dsimp only
    unfold YD;refine A 5 ?_;exact wf [13] λ_=>B
  ·refine A 9 ?_;refine bD λi bl=>?_
   refine A 2 ?_;refine bD λk bm=>?_
   refine A 12 ?_;refine lP (E:=λ(s:(List OT)×Int) (g:Nat×Nat×Nat×Nat×Nat×Nat)=>[(2,.optr 2 g.1 0 0),(3,.optr 3 g.2.1 0 0),(4,.optr 4 g.2.2.1 0 0),(8,.optr 8 g.2.2.2.1 0 0),(14,.osl 14 g.2.2.2.2.1 0 i.length),(15,.osl 15 g.2.2.2.2.2 0 k.length),(16,Av s.2)]) (O:=λs g=>[(2,dV g.1 3 36 (Pl a)),(3,dV g.2.1 2 44 (.agg [.sl (c.To.map Lo),.sl (c.Keep.map D.bool)])),(4,dV g.2.2.1 3 36 (.agg [Av 0,.nils,.nils])),(8,dV g.2.2.2.1 3 36 (.agg [Av a.Params,.sl (f.map Ps),.sl (s.1.map Pp)])),(14,dW g.2.2.2.2.1 1 3 (i.map Lo)),(15,dW g.2.2.2.2.2 1 3 (k.map Lo))]) (body:=λs=>Abq a c i k f s.1 s.2) (s:=([],0)) (_,_,_,_,_,_) ((Afy [] trivial ⟨(PS r),(PS r),(PS r),(PS r),(PS r),(PS r),(PS r),trivial⟩ ⟨(.inl r),(.inl r),(.inl r),(.inr ⟨_,_,_,_,r,r,r,r,Afn r ⟨(WQ r),(WQ r),(Aap Pp r),trivial⟩⟩),(.inl r),(.inl r),trivial⟩))<|?_
   rintro⟨q,t⟩ ⟨bn,bo,bp,bq,br,bs⟩ nn
   try dsimp only
   unfold Abq;refine A 10 ?_;refine cD r ?_ ?_
   ·refine A 10 ?_;refine bD λbt bu=>?_
    refine A 5 ?_;refine cD r ?_ ?_
    ·refine A 9 ?_;exact xL (s:=(q,i64.wrap (t+1))) (_,_,_,_,_,_) ((hX))
    ·refine A 7 ?_;refine bD λbv bw=>?_
     refine A 3 ?_;refine bD λd bx=>?_
     refine A 5 ?_;refine sC (E:=λ(_s:Int×Int) (g:Nat×Nat×Nat×Nat×Nat×Nat×Nat)=>[(2,.optr 2 g.1 0 0),(3,.optr 3 g.2.1 0 0),(4,.optr 4 g.2.2.1 0 0),(8,.optr 8 g.2.2.2.1 0 0),(14,.osl 14 g.2.2.2.2.1 0 i.length),(15,.osl 15 g.2.2.2.2.2.1 0 k.length),(16,Av t),(17,.optr 17 g.2.2.2.2.2.2 0 0)]) (O:=λs g=>[(2,dV g.1 3 36 (Pl a)),(3,dV g.2.1 2 44 (.agg [.sl (c.To.map Lo),.sl (c.Keep.map D.bool)])),(4,dV g.2.2.1 3 36 (.agg [Av 0,.nils,.nils])),(8,dV g.2.2.2.1 3 36 (.agg [Av a.Params,.sl (f.map Ps),.sl (q.map Pp)])),(14,dW g.2.2.2.2.1 1 3 (i.map Lo)),(15,dW g.2.2.2.2.2.1 1 3 (k.map Lo)),(17,dV g.2.2.2.2.2.2 5 63 (.agg [Av d.Op,Av s.1,Av s.2,Av d.C,AkE d.Imm]))]) (j:=λs=>Uo q d t s.1 s.2) ?_ ?_
     ·refine A 13 ?_;refine cD r ?_ ?_
      ·refine A 5 ?_;refine bD λx bz=>?_
       refine A 5 ?_;exact xC (s:=(x,d.B)) (_,_,_,_,_,_,_) ((hX))
      ·refine A 6 ?_;refine cD r ?_ ?_
       ·refine A 5 ?_;refine bD λy ca=>?_
        refine A 5 ?_;exact xC (s:=(d.A,y)) (_,_,_,_,_,_,_) ((hX))
       ·refine A 2 ?_;exact xC (s:=(d.A,d.B)) (_,_,_,_,_,_,_) ((hX))
     ·rintro⟨z,aa⟩ ⟨cb,cc,cd,ce,cf,cg,ch⟩ nn
      try dsimp only
      unfold Uo;refine A 6 ?_;refine bS ([(OT.mk d.Op z aa d.C d.Imm)]:List OT) Pp r r r (by simp) r r r<|?_
      refine A 16 ?_;exact wf [18] λ_=>B
   ·exact B

def AiQ:Dw.Spec:=Pd [] .val Vh Vg (λa=>AcO a.1 a.2.1 a.2.2) Xe noE
theorem Aol:Pa Tryz.prog 28 AiQ:=by
 refine fn2 3 (Py) Tryz.func28<|?_;rintro⟨a,d,c⟩;unfold AcO;refine A 11 ?_;refine cK λhq=>aP (([]:List Le)) (a.Funcs) Pl r r r r r r r (by simp) r r r (by simp) r (λ_=>r) r hq<|?_
 refine A 8 ?_;refine cK λhq=>iO (l:=([]:List Le)++a.Funcs) (en:=Pl) r r r r r hq<|bD λf e=>sE (l:=([]:List Le)++a.Funcs) (en:=Pl) (q':=c) r r r r r r r (by simp) e r r r r r<|?_
 refine A 10 ?_;refine Akg (b:=(Ph.mk ((([]:List Le)++a.Funcs).set d.toNat c))) r ?_ r r ?_ (by first|rfl|(simp only[Mk];rfl)|(simp only[OV];rfl)|(simp only[Mk,OV];rfl)|(simp[Xe,Uf];try rfl))
 all_goals first|(simp;done)|(simp;omega)|rfl|(simp[QA,Qu];done)

def AmE:Dw.Spec:=Pd [] .val Vh Vg (λa=>Aby a.1 a.2.1 a.2.2) Xe noE
theorem Aqs:Pa Tryz.prog 13 AmE:=by
 refine fn2 3 (Pe (l:=[(28,AiQ)]) (by simp[Aol])) Tryz.func13<|?_
 intro a;unfold Aby;exact B

def Aiw:Dw.Spec:=Pd [] .ground Zn Zm (λa=>Vr a.1 a.2) Pc noE
theorem Aly:Pa Tryz.prog 43 Aiw:=by
 refine fn2 2 (Py) Tryz.func43<|?_;rintro⟨c,h⟩;unfold Vr;refine A 16 ?_;refine bD λd i=>?_
 refine A 13 ?_;refine lP (E:=λ(s:Int×Int) (g:Nat)=>[(2,.optr 2 g 0 0),(5,Av s.1),(6,.sl (d.Code.map Pp)),(7,Av s.2)]) (O:=λ_ g=>[(2,dV g 1 28 (.agg [.sl (c.Funcs.map Pl)]))]) (body:=λs=>Ahd d c s.1 s.2) (s:=(0,0)) _ ((hX))<|?_
 rintro⟨a,b⟩ j nn
 try dsimp only
 unfold Ahd;refine A 9 ?_;refine cD r ?_ ?_
 ·refine A 8 ?_;refine bD λk l=>?_
  refine A 12 ?_;refine cD r ?_ ?_
  ·refine A 4 ?_;refine bD λe m=>?_
   refine A 15 ?_;exact xL (s:=(PH a (i64.wrap (e.A+1)),i64.wrap (b+1))) _ ((hX))
  ·refine A 6 ?_;refine cD r ?_ ?_
   ·refine A 6 ?_;refine bD λo p=>?_
    refine A 3 ?_;refine bD λf q=>?_
    refine A 14 ?_;exact xL (s:=(PH a f.Params,i64.wrap (b+1))) _ ((hX))
   ·refine A 9 ?_;exact xL (s:=(a,i64.wrap (b+1))) _ ((hX))
 ·exact B

def AgY:Dw.Spec:=Pd [] .ground PU PT (λa=>Tw a) Pm noE
theorem AjV:Pa Tryz.prog 81 AgY:=by
 refine fn2 1 (Py) Tryz.func81<|?_;intro a;unfold Tw;exact B

def AoU:Dw.Spec:=Pd [] .ground Sb Sa (λa=>AaS a.1 a.2) Aax noE
theorem AsQ:Pa Tryz.prog 44 AoU:=by
 refine fn2 2 (Pe (l:=[(81,AgY),(82,AgZ)]) (by simp[AjV,AjX])) Tryz.func44<|?_
 rintro⟨a,b⟩;unfold AaS;refine A 6 ?_;refine sC (E:=λ(_s:Unit) (_g:Unit)=>[(0,Av a),(1,Av b)]) (O:=λ_ _=>[]) (j:=λ_=>Agc b a) ?_ ?_
 ·refine A 3 ?_;refine bD λc d=>?_
  refine A 3 ?_;refine Px r ?_ ?_
  ·exact B
  ·refine A 1 ?_;refine bD λe f=>?_
   refine A 5 ?_;refine cD r ?_ ?_
   ·exact B
   ·refine A 1 ?_;exact xC (s:=()) () ((hX))
 ·rintro⟨⟩ ⟨⟩ nn
  try dsimp only
  unfold Agc;refine A 6 ?_;refine sC (E:=λ(s:Int) (_g:Unit)=>[(6,Av s)]) (O:=λ_ _=>[]) (j:=λs=>Acn s) ?_ ?_
  ·refine A 8 ?_;refine cD r ?_ ?_
   ·refine A 10 ?_;exact xC (s:=i64.wrap ((i64.wrap (a-(a.tmod b)))+b)) () ((hX))
   ·refine A 1 ?_;exact xC (s:=a) () ((hX))
  ·rintro g ⟨⟩ nn
   try dsimp only
   unfold Acn;exact B

def AaX (a:Ph×Int×Int):List D:=[Uf a.1,Av a.2.1,Av a.2.2]
def AaW (ds:List D):Ph×Int×Int:=(Zi (ds.getD 0 .top),uI (ds.getD 1 .top),uI (ds.getD 2 .top))
instance:PA AaX AaW:=⟨λa=>by simp[AaW,AaX,uI]⟩
def Ads:Dw.Spec:=Pd [] .val AaX AaW (λa=>Uq a.1 a.2.1 a.2.2) Sg noE
theorem Aht:Pa Tryz.prog 19 Ads:=by
 refine fn2 3 (Pe (l:=[(43,Aiw),(44,AoU)]) (by simp[Aly,AsQ])) Tryz.func19<|?_
 rintro⟨o,p,i⟩;unfold Uq;refine A 11 ?_;refine bD λd q=>?_
 refine A 18 ?_;refine bD λe t=>?_
 refine A 13 ?_;refine lP (E:=λ(s:(List Int)×Int×Int) (g:Nat×Nat×Nat×Nat)=>[(2,Av i),(6,.optr 6 g.1 0 0),(8,.optr 8 g.2.1 0 0),(9,Av s.2.2),(10,.sl (e.Slots.map Ps)),(11,Av s.2.1)]) (O:=λs g=>[(6,dV g.1 3 46 (.agg [Av 0,Av 0,.osl 900 g.2.2.1 0 (([]:List Int).length)])),(8,dV g.2.1 3 46 (.agg [Av d,Av 0,.osl 901 g.2.2.2 0 s.1.length])),(900,dW g.2.2.1 1 3 (([]:List Int).map Lo)),(901,dW g.2.2.2 1 3 (s.1.map Lo))]) (body:=λs=>Acg e i d s.1 s.2.1 s.2.2) (s:=(([]:List Int),0,d)) (_,_,_,_) ((Aif (gg:=6) (off:=2) (tt:=900) (s:=1) (tyy:=3) r r r r (Aif (gg:=8) (off:=2) (tt:=901) (s:=1) (tyy:=3) r r r r (hX))))<|?_
 rintro⟨c,f,u⟩ ⟨v,w,x,y⟩ nn
 try dsimp only
 unfold Acg;refine A 9 ?_;refine cD r ?_ ?_
 ·refine A 9 ?_;refine bD λz aa=>?_
  refine A 3 ?_;refine bD λa ab=>?_
  refine A 8 ?_;refine sC (E:=λ(s:Pb×Pb×Int×Int×Bool) (g:Nat×Nat×Nat×Nat)=>[(2,Av i),(6,.optr 6 g.1 0 0),(8,.optr 8 g.2.1 0 0),(10,.sl (e.Slots.map Ps)),(11,Av f),(12,Av a.1),(48,Av a.1),(49,.sl (e.Slots.map Ps)),(50,Av f),(51,.fptr (.agg [Av s.1.Size,Av s.1.Align]) 0),(52,.fptr (.agg [Av s.2.1.Size,Av s.2.1.Align]) 0),(53,Av s.2.2.1),(54,Av s.2.2.2.1),(55,.bool s.2.2.2.2)]) (O:=λ_ g=>[(6,dV g.1 3 46 (.agg [Av 0,Av 0,.osl 900 g.2.2.1 0 (([]:List Int).length)])),(8,dV g.2.1 3 46 (.agg [Av d,Av 0,.osl 901 g.2.2.2 0 c.length])),(900,dW g.2.2.1 1 3 (([]:List Int).map Lo)),(901,dW g.2.2.2 1 3 (c.map Lo))]) (j:=λs=>Ach c a e f s.1 s.2.1 s.2.2.1 s.2.2.2.1 s.2.2.2.2) ?_ ?_
  ·refine A 5 ?_;refine Px r ?_ ?_
   ·refine A 26 ?_;refine Sm (b:=((Po.mk 0 0 ([])),9)) r ?_ r r ?_ (by first|rfl|(simp only[Mk];rfl)|(simp only[OV];rfl)|(simp only[Mk,OV];rfl)|(simp[Sg,Rm];try rfl)) (by decide)
    all_goals first|(simp;done)|(simp;omega)|rfl|(simp[QA,Qu];done)
   ·refine A 3 ?_;refine bD λh ac=>?_
    refine A 8 ?_;refine cD r ?_ ?_
    ·refine A 14 ?_;refine Sm (b:=((Po.mk 0 0 ([])),9)) r ?_ r r ?_ (by first|rfl|(simp only[Mk];rfl)|(simp only[OV];rfl)|(simp only[Mk,OV];rfl)|(simp[Sg,Rm];try rfl)) (by decide)
     all_goals first|(simp;done)|(simp;omega)|rfl|(simp[QA,Qu];done)
    ·refine A 1 ?_;exact xC (s:=(h,h,h.Size,i64.wrap (2147483519-h.Size),(decide (a.1>(i64.wrap (2147483519-h.Size)))))) (_,_,_,_) ((hX))
  ·rintro⟨ad,ae,af,ag,ah⟩ ⟨ai,aj,ak,ao⟩ nn
   try dsimp only
   unfold Ach;refine A 22 ?_;refine bD λk ap=>?_
   refine A 13 ?_;exact xL (s:=((([]:List Int)++c)++([a.1]:List Int),i64.wrap (f+1),i64.wrap (a.1+k.Size))) (_,_,_,_) ((Qp (E1:=[(2,Av i),(6,.optr 6 _ 0 0),(8,.optr 8 _ 0 0),(9,Av (i64.wrap (a.1+k.Size))),(10,.sl (e.Slots.map Ps)),(11,Av (i64.wrap (f+1)))]) (O1:=[(6,dV _ 3 46 (.agg [Av 0,Av 0,.osl 900 _ 0 (([]:List Int).length)])),(8,dV _ 3 46 (.agg [Av d,Av 0,.osl 14 _ 0 (((([]:List Int)++c)++([a.1]:List Int)).length)])),(14,dW _ 1 3 (((([]:List Int)++c)++([a.1]:List Int)).map Lo)),(900,dW _ 1 3 (([]:List Int).map Lo))]) (hX) (λ_=>PD (λg=>bif Nat.beq g 14 then 901 else g) (by rfl) (hX))))
 ·refine A 9 ?_;refine bD λm aq=>?_
  refine A 14 ?_;refine Px r ?_ ?_
  ·refine A 15 ?_;refine Sm (b:=((Po.mk 0 0 ([])),9)) r ?_ r r ?_ (by first|rfl|(simp only[Mk];rfl)|(simp only[OV];rfl)|(simp only[Mk,OV];rfl)|(simp[Sg,Rm];try rfl)) (by decide)
   all_goals first|(simp;done)|(simp;omega)|rfl|(simp[QA,Qu];done)
  ·refine A 5 ?_;refine cD r ?_ ?_
   ·refine A 9 ?_;refine Sm (b:=((Po.mk 0 0 ([])),9)) r ?_ r r ?_ (by first|rfl|(simp only[Mk];rfl)|(simp only[OV];rfl)|(simp only[Mk,OV];rfl)|(simp[Sg,Rm];try rfl)) (by decide)
    all_goals first|(simp;done)|(simp;omega)|rfl|(simp[QA,Qu];done)
   ·refine A 17 ?_;refine Sm (b:=((Po.mk d m.1 c),0)) r ?_ r r ?_ (by first|rfl|(simp only[Mk];rfl)|(simp only[OV];rfl)|(simp only[Mk,OV];rfl)|(simp[Sg,Rm];try rfl)) (by decide)
    all_goals first|(simp;done)|(simp;omega)|rfl|(simp[QA,Qu];done)

def Aha:Dw.Spec:=Pd [] .ground VL VK (λa=>SW a) Pm noE
theorem AjY:Pa Tryz.prog 94 Aha:=by
 refine fn2 1 (Pe (l:=[(81,AgY)]) (by simp[AjV])) Tryz.func94<|?_
 intro a;unfold SW;exact B

def AjW:Dw.Spec:=Pd [] .ground XS XR (λa=>AaR a.1 a.2) Pm noE
theorem AoT:Pa Tryz.prog 83 AjW:=by
 refine fn2 2 (Pe (l:=[(94,Aha)]) (by simp[AjY])) Tryz.func83<|?_
 intro a;unfold AaR;exact B

def AeL (a:Ph×Int×Int×Po):List D:=[Uf a.1,Av a.2.1,Av a.2.2.1,Rm a.2.2.2]
def AeK (ds:List D):Ph×Int×Int×Po:=(Zi (ds.getD 0 .top),uI (ds.getD 1 .top),uI (ds.getD 2 .top),AhJ (ds.getD 3 .top))
instance:PA AeL AeK:=⟨λa=>by simp[AeK,AeL,uI]⟩
def Ahe:Dw.Spec:=Pd [] .ground AeL AeK (λa=>XH a.1 a.2.1 a.2.2.1 a.2.2.2) Pc noE
theorem Akf:Pa Tryz.prog 45 Ahe:=by
 refine fn2 4 (Pe (l:=[(19,Ads),(43,Aiw),(83,AjW)]) (by simp[Aht,Aly,AoT])) Tryz.func45<|?_
 rintro⟨f,h,a,b⟩;unfold XH;refine A 12 ?_;refine bD λc i=>?_
 refine A 16 ?_;refine cD r ?_ ?_
 ·exact B
 ·refine A 7 ?_;refine bD λd k=>?_
  refine A 6 ?_;refine sC (E:=λ(_s:Unit) (g:Nat×Nat)=>[(2,Av a),(7,.optr 7 g.1 0 0),(9,.optr 9 g.2 0 0),(11,.sl (d.Slots.map Ps))]) (O:=λ_ g=>[(7,dV g.1 3 46 (Rm b)),(9,dV g.2 3 46 (Rm c.1))]) (j:=λ_=>AfT d b a c) ?_ ?_
  ·refine A 6 ?_;refine bD λm o=>?_
   refine A 3 ?_;refine Px r ?_ ?_
   ·exact B
   ·refine A 9 ?_;refine cD r ?_ ?_
    ·exact B
    ·refine A 1 ?_;exact xC (s:=()) (_,_) ((hX))
  ·rintro⟨⟩ ⟨p,q⟩ nn
   try dsimp only
   unfold AfT;refine A 7 ?_;refine lP (E:=λ(s:Int) (g:Nat×Nat)=>[(2,Av a),(7,.optr 7 g.1 0 0),(9,.optr 9 g.2 0 0),(11,.sl (d.Slots.map Ps)),(12,Av s)]) (O:=λ_ g=>[(7,dV g.1 3 46 (Rm b)),(9,dV g.2 3 46 (Rm c.1))]) (body:=λs=>AfS d b a c s) (s:=0) (_,_) ((hX))<|?_
   rintro e ⟨t,u⟩ nn
   try dsimp only
   unfold AfS;refine A 9 ?_;refine cD r ?_ ?_
   ·refine A 9 ?_;refine bD λv w=>?_
    refine A 6 ?_;refine Px r ?_ ?_
    ·exact B
    ·refine A 3 ?_;refine bD λx y=>?_
     refine A 4 ?_;refine bD λz aa=>?_
     refine A 7 ?_;refine Px r ?_ ?_
     ·exact B
     ·refine A 3 ?_;refine bD λab ac=>?_
      refine A 4 ?_;refine bD λad ae=>?_
      refine A 6 ?_;refine bD λaf ag=>?_
      refine A 5 ?_;refine cD r ?_ ?_
      ·exact B
      ·refine A 8 ?_;exact xL (s:=i64.wrap (e+1)) (_,_) ((hX))
   ·exact B

def AiM:Dw.Spec:=Pd [] .ground VJ VI (λa=>WC a.1 a.2) Pm noE
theorem Aoh:Pa Tryz.prog 134 AiM:=by
 refine fn2 2 (Pe (l:=[(94,Aha)]) (by simp[AjY])) Tryz.func134<|?_
 intro a;unfold WC;exact B

def AeN (a:Le×Pj×Po×Int):List D:=[Pl a.1,Uu a.2.1,Rm a.2.2.1,Av a.2.2.2]
def AeM (ds:List D):Le×Pj×Po×Int:=(Sz (ds.getD 0 .top),XY (ds.getD 1 .top),AhJ (ds.getD 2 .top),uI (ds.getD 3 .top))
instance:PA AeN AeM:=⟨λa=>by simp[AeM,AeN,uI]⟩
def AlB:Dw.Spec:=Pd [] .ground AeN AeM (λa=>Acs a.1 a.2.1 a.2.2.1 a.2.2.2) VH noE
theorem ApJ:Pa Tryz.prog 84 AlB:=by
 refine fn2 4 (Pe (l:=[(78,Xj),(134,AiM)]) (by simp[Zc,Aoh])) Tryz.func84<|?_
 rintro⟨a,b,c,d⟩;unfold Acs;refine A 14 ?_;refine bD λh i=>?_
 refine A 9 ?_;refine bD λe k=>?_
 refine A 8 ?_;refine sC (E:=λ(_s:Unit) (g:Nat×Nat×Nat)=>[(3,Av d),(4,.optr 4 g.1 0 0),(5,.optr 5 g.2.1 0 0),(6,.optr 6 g.2.2 0 0),(11,Av e.1)]) (O:=λ_ g=>[(4,dV g.1 3 36 (Pl a)),(5,dV g.2.1 1 40 (.agg [.sl (b.Out.map (eL Lo))])),(6,dV g.2.2 3 46 (Rm c))]) (j:=λ_=>YH b d e c a) ?_ ?_
 ·refine A 5 ?_;refine Px r ?_ ?_
  ·exact B
  ·refine A 4 ?_;refine Px r ?_ ?_
   ·refine A 4 ?_;refine bD λm o=>?_
    refine A 6 ?_;refine bD λp q=>?_
    refine A 7 ?_;refine cD r ?_ ?_
    ·exact B
    ·refine A 1 ?_;exact xC (s:=()) (_,_,_) ((hX))
   ·refine A 19 ?_;exact xC (s:=()) (_,_,_) ((hX))
 ·rintro⟨⟩ ⟨t,u,v⟩ nn
  try dsimp only
  unfold YH;refine A 7 ?_;refine lP (E:=λ(s:Int) (g:Nat×Nat×Nat)=>[(3,Av d),(4,.optr 4 g.1 0 0),(5,.optr 5 g.2.1 0 0),(6,.optr 6 g.2.2 0 0),(11,Av e.1),(13,Av s)]) (O:=λ_ g=>[(4,dV g.1 3 36 (Pl a)),(5,dV g.2.1 1 40 (.agg [.sl (b.Out.map (eL Lo))])),(6,dV g.2.2 3 46 (Rm c))]) (body:=λs=>Abx b d e c a s) (s:=0) (_,_,_) ((hX))<|?_
  rintro f ⟨w,x,y⟩ nn
  try dsimp only
  unfold Abx;refine A 7 ?_;refine bD λz aa=>?_
  refine A 6 ?_;refine cD r ?_ ?_
  ·refine A 9 ?_;refine bD λab ac=>?_
   refine A 3 ?_;refine bD λad ae=>?_
   refine A 11 ?_;refine Px r ?_ ?_
   ·refine A 3 ?_;refine bD λaf ag=>?_
    refine A 5 ?_;refine bD λah ai=>?_
    refine A 7 ?_;refine bD λaj ak=>?_
    refine A 5 ?_;refine bD λao ap=>?_
    refine A 4 ?_;refine bD λaq ar=>?_
    refine A 4 ?_;refine cD r ?_ ?_
    ·exact B
    ·refine A 8 ?_;exact xL (s:=i64.wrap (f+1)) (_,_,_) ((hX))
   ·refine A 37 ?_;exact xL (s:=i64.wrap (f+1)) (_,_,_) ((hX))
  ·exact B

def Aaf (a:Ph×Int×Int×Pj×Po):List D:=[Uf a.1,Av a.2.1,Av a.2.2.1,Uu a.2.2.2.1,Rm a.2.2.2.2]
def Aae (ds:List D):Ph×Int×Int×Pj×Po:=(Zi (ds.getD 0 .top),uI (ds.getD 1 .top),uI (ds.getD 2 .top),XY (ds.getD 3 .top),AhJ (ds.getD 4 .top))
instance:PA Aaf Aae:=⟨λa=>by simp[Aae,Aaf,uI]⟩
def AlA:Dw.Spec:=Pd [] .ground Aaf Aae (λa=>Agj a.1 a.2.1 a.2.2.1 a.2.2.2.1 a.2.2.2.2) XU noE
theorem ApI:Pa Tryz.prog 46 AlA:=by
 refine fn2 5 (Pe (l:=[(45,Ahe),(16,WE),(84,AlB)]) (by simp[Akf,Yy,ApJ])) Tryz.func46<|?_
 rintro⟨a,b,f,c,d⟩;unfold Agj;refine A 10 ?_;refine sC (E:=λ(_s:Unit) (g:Nat×Nat×Nat)=>[(1,Av b),(5,.optr 5 g.1 0 0),(8,.optr 8 g.2.1 0 0),(9,.optr 9 g.2.2 0 0)]) (O:=λ_ g=>[(5,dV g.1 1 28 (.agg [.sl (a.Funcs.map Pl)])),(8,dV g.2.1 1 40 (.agg [.sl (c.Out.map (eL Lo))])),(9,dV g.2.2 3 46 (Rm d))]) (j:=λ_=>Abw a b c d) ?_ ?_
 ·refine A 6 ?_;refine bD λh i=>?_
  refine A 3 ?_;refine Px r ?_ ?_
  ·exact B
  ·refine A 3 ?_;refine bD λk m=>?_
   refine A 3 ?_;refine bD λo p=>?_
   refine A 5 ?_;refine cD r ?_ ?_
   ·exact B
   ·refine A 1 ?_;exact xC (s:=()) (_,_,_) ((hX))
 ·rintro⟨⟩ ⟨q,t,u⟩ nn
  try dsimp only
  unfold Abw;refine A 7 ?_;refine lP (E:=λ(s:Int) (g:Nat×Nat×Nat)=>[(1,Av b),(5,.optr 5 g.1 0 0),(8,.optr 8 g.2.1 0 0),(9,.optr 9 g.2.2 0 0),(13,Av s)]) (O:=λ_ g=>[(5,dV g.1 1 28 (.agg [.sl (a.Funcs.map Pl)])),(8,dV g.2.1 1 40 (.agg [.sl (c.Out.map (eL Lo))])),(9,dV g.2.2 3 46 (Rm d))]) (body:=λs=>Abv a b c d s) (s:=0) (_,_,_) ((hX))<|?_
  rintro e ⟨v,w,x⟩ nn
  try dsimp only
  unfold Abv;refine A 7 ?_;refine bD λy z=>?_
  refine A 7 ?_;refine cD r ?_ ?_
  ·refine A 9 ?_;refine bD λaa ab=>?_
   refine A 5 ?_;refine bD λr9 ad=>?_
   refine A 13 ?_;refine cD r ?_ ?_
   ·exact B
   ·refine A 8 ?_;exact xL (s:=i64.wrap (e+1)) (_,_,_) ((hX))
  ·exact B

def Alz:Dw.Spec:=Pd [] .ground Aaf Aae (λa=>Agi a.1 a.2.1 a.2.2.1 a.2.2.2.1 a.2.2.2.2) Pc noE
theorem ApH:Pa Tryz.prog 20 Alz:=by
 refine fn2 5 (Pe (l:=[(45,Ahe),(16,WE),(46,AlA)]) (by simp[Akf,Yy,ApI])) Tryz.func20<|?_
 intro a;unfold Agi;exact B

def Sq (a:(List Int)):List D:=[.sl (a.map eU8)]
def Sp (ds:List D):(List Int):=(uL uI) (ds.getD 0 .top)
theorem YJ (a:(List Int)):Sp (Sq a)=a:=by simp[Sp,Sq,Qh (u:=uI) (en:=eU8) (λ_=>rfl)]
instance:PA Sq Sp:=⟨YJ⟩
def AgW:Dw.Spec:=Pd [] .ground Sq Sp (λa=>Sd a) Pm noE
theorem AgC:Pa Tryz.prog 4 AgW:=by
 refine fn2 1 (Pe (l:=[(7,Alh),(8,AoE),(9,Aep),(10,Rs),(14,AaM),(15,Alq),(16,WE),(17,Alx),(18,Alw),(13,AmE),(19,Ads),(20,Alz)]) (by simp[Apq,AsA,AjH,RA,Afe,Apx,Yy,ApE,ApD,Aqs,Aht,ApH])) Tryz.func4<|?_
 intro h;unfold Sd;refine A 8 ?_;refine bD λi k=>?_
 refine A 4 ?_;refine cD r ?_ ?_
 ·exact B
 ·refine A 5 ?_;refine bD λm o=>?_
  refine A 7 ?_;refine bD λd p=>?_
  refine A 11 ?_;refine bD λa q=>?_
  refine A 8 ?_;refine bD λb t=>?_
  refine A 10 ?_;refine bD λe u=>?_
  refine A 3 ?_;refine bD λc v=>?_
  refine A 6 ?_;refine sC (E:=λ(_s:Unit) (g:Nat×Nat×Nat)=>[(4,.optr 4 g.1 0 0),(5,Av a.1),(6,.optr 6 g.2.1 0 0),(7,.optr 7 g.2.2 0 0),(8,Av c)]) (O:=λ_ g=>[(4,dV g.1 1 28 (.agg [.sl (d.1.Funcs.map Pl)])),(6,dV g.2.1 7 48 (AdK b)),(7,dV g.2.2 3 36 (Pl e))]) (j:=λ_=>SK e b d a c) ?_ ?_
  ·refine A 5 ?_;refine bD λw x=>?_
   refine A 3 ?_;refine Px r ?_ ?_
   ·exact B
   ·refine A 5 ?_;refine bD λy z=>?_
    refine A 5 ?_;refine cD r ?_ ?_
    ·exact B
    ·refine A 1 ?_;exact xC (s:=()) (_,_,_) ((hX))
  ·rintro⟨⟩ ⟨aa,ab,ac⟩ nn
   try dsimp only
   unfold SK;refine A 5 ?_;refine bD λr9 ae=>?_
   refine A 14 ?_;refine bD λf af=>?_
   refine A 5 ?_;refine sC (E:=λ(_s:Unit) (g:Nat×Nat)=>[(5,Av a.1),(6,.optr 6 g.1 0 0),(8,Av c),(11,.optr 11 g.2 0 0)]) (O:=λ_ g=>[(6,dV g.1 7 48 (AdK b)),(11,dV g.2 1 28 (.agg [.sl (f.Funcs.map Pl)]))]) (j:=λ_=>SL f a c b) ?_ ?_
   ·refine A 5 ?_;refine Px r ?_ ?_
    ·exact B
    ·refine A 3 ?_;refine bD λag ah=>?_
     refine A 5 ?_;refine cD r ?_ ?_
     ·exact B
     ·refine A 1 ?_;exact xC (s:=()) (_,_) ((hX))
   ·rintro⟨⟩ ⟨ai,aj⟩ nn
    try dsimp only
    unfold SL;exact B

end
end Go.Proofs.YtilmapojncgflaaGreatDoor
