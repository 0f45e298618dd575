/-
  Programs on typed data, and the proofs that the code does what they say; written by a program (dx.py).
-/
import Derived.Test.YtilmapojncgflaaGreatDoorProg
import Derived.Test.YtilmapojncgflaaGreatDoorDd
import Derived.KernelRfl
import Derived.Test.YtilmapojncgflaaGreatDoorSh
import Derived.Test.YtilmapojncgflaaGreatDoorDxP
import Derived.Test.YtilmapojncgflaaGreatDoorDxF1
import Derived.Test.YtilmapojncgflaaGreatDoorDxF2
open List renaming replicate->aAA
open Nat renaming ble->aA,blt->aAB
namespace Go.Proofs.YtilmapojncgflaaGreatDoor
open Go Go.Dw Go.Proofs
open Go.IntKind (i64)
set_option maxRecDepth 100000
set_option maxHeartbeats 40000000
open Go.Dw renaming Rl -> bD,Qf -> cK,AdA -> bS,Abc -> cV,Zy -> iO,AbB -> cD,AdW -> xC,Zg -> xL,AaD -> hE,AdX -> lP,Zh -> sC,Akj -> mF,rf -> r
noncomputable section
def UJ (a:Le×Pj):List D:=[Pl a.1,Uu a.2,.clo 105 []]
def UI (ds:List D):Le×Pj:=(Sz (ds.getD 0 .top),XY (ds.getD 1 .top))
instance:PA UJ UI:=⟨λa=>by simp[UI,UJ]⟩
def Tp (b:(List (List Int))×Int):D:=.tup [.sl (b.1.map (eL Lo)),Av b.2]
def Vk:Dw.Spec:=Pd [] .val UJ UI (λa=>Wp a.1 a.2) Tp noE
def Yu:Dw.Spec:=VR (specs []) 1 [(.t 2)] AoD
theorem AeX:Pa Tryz.prog 142 Yu:=Sf (Py) Tryz.func142 (by decide) AsX AsY (by decide)
theorem AgV:Pa Tryz.prog 104 Vk:=by
 refine fn2 3 (Pe (l:=[(141,AbQ),(142,Yu),(143,Te),(105,AeZ),(144,Wq)]) (by simp[AgD,AeX,TK,AkJ,AaE])) Tryz.func104<|?_
 rintro⟨a,e⟩;unfold Wp;refine A 13 ?_;refine bD λr3 au=>?_
 refine A 10 ?_;refine cD r ?_ ?_
 ·exact B
 ·refine A 7 ?_;refine RZ (E:=λ(g:Nat×Nat)=>[(2,.clo 105 []),(3,.optr 1003 g.1 0 0),(4,.optr 1004 g.2 0 0),(24,Av (a.Slots.length:Int))]) (O:=λg=>[(1003,dV g.1 3 36 (Pl a)),(1004,dV g.2 1 40 (.agg [.sl (e.Out.map (eL Lo))]))]) (_,_) ((PD (λg=>bif aA 4096 g then g+20000 else g+1000) (by rfl) (hX)))<|?_
  rintro⟨y,aa⟩ nn
  try dsimp only
  refine Zw (ES:=λ(s:(List (List Bool))) (g:Nat×Nat×Nat)=>[(2,.clo 105 []),(3,.optr 3 g.1 0 0),(4,.optr 4 g.2.1 0 0),(25,.osl 4697 g.2.2 0 s.length)]) (OS:=λs g=>[(3,dV g.1 3 36 (Pl a)),(4,dV g.2.1 1 40 (.agg [.sl (e.Out.map (eL Lo))])),(4697,dW g.2.2 1 42 (s.map (eR 1 4 D.bool)))]) (j:=λs=>Ta a e s) (ds:=[Av (a.Slots.length:Int)]) (caps:=[]) (E:=[(0,Av (a.Slots.length:Int))]) r r r r r r r r ?_ ?_
  ·refine UZ (c:=AoD)<|?_;refine A 8 ?_;refine cK λhq=>Acv (α:=Bool) r r r hq r<|?_
   refine A 2 ?_;refine Qx (E:=[(0,Av (a.Slots.length:Int)),(3,.osl 4099 _ 0 ((aAA (a.Slots.length:Int).toNat ([]:(List Bool))).length))]) (O:=[(1003,dV y 3 36 (Pl a)),(1004,dV aa 1 40 (.agg [.sl (e.Out.map (eL Lo))])),(4099,dW _ 1 42 ((aAA (a.Slots.length:Int).toNat ([]:(List Bool))).map (eR 1 4 D.bool)))]) ((Ahw (g:=3) (g2:=4099) r r r (AkH (l:=aAA (a.Slots.length:Int).toNat ([]:(List Bool))) (s':=1) (ty':=4) D.bool (by decide) (λ_ h=>List.eq_of_mem_replicate h)) (hX))) λnn=>?_
   refine A 9 ?_;refine lP (E:=λ(s:(List (List Bool))×Int) (g:Nat)=>[(0,Av (a.Slots.length:Int)),(3,.osl 4099 g 0 s.1.length),(8,Av ((aAA (a.Slots.length:Int).toNat ([]:(List Bool))).length:Int)),(9,Av s.2)]) (O:=λs g=>[(1003,dV y 3 36 (Pl a)),(1004,dV aa 1 40 (.agg [.sl (e.Out.map (eL Lo))])),(4099,dW g 1 42 (s.1.map (eR 1 4 D.bool)))]) (body:=λs=>SZ a e s.1 s.2) (s:=(aAA (a.Slots.length:Int).toNat ([]:(List Bool)),0)) _ ((hX))<|?_
   rintro⟨w,av⟩ aw nn
   try dsimp only
   unfold SZ;refine A 6 ?_;refine cD r ?_ ?_
   ·refine A 16 ?_;refine bD λag ah=>Agl (l:=w) (q:=ag) (q':=aAA (a.Slots.length:Int).toNat false) D.bool rfl rfl rfl rfl (.inl rfl) ah rfl rfl ⟨⟨rfl,rfl,by simp,AaO λ_=>rfl⟩,trivial,rfl⟩ (congrArg (λz=>[D.row _ _ z]) (Rt _ _ rfl)) rfl<|?_
    exact B
   ·refine A 12 ?_;exact RW (d:=.osl 4099 _ 0 w.length) (s:=w) (_,_,_) r (by first|rfl|(simp[PC,PE,rdA,raw,strip,PJ,cells,PF];done)|(simp[PC,PE,rdA,raw,strip,PJ,S.ge,S.go,look,UO,cells,PF];done)) r ((Qp (E1:=[(2,.clo 105 []),(3,.optr 1003 y 0 0),(4,.optr 1004 aa 0 0),(25,.osl 4099 _ 0 w.length)]) (O1:=[(1003,dV y 3 36 (Pl a)),(1004,dV aa 1 40 (.agg [.sl (e.Out.map (eL Lo))])),(4099,dW _ 1 42 (w.map (eR 1 4 D.bool)))]) (hX) (λ_=>PD (λg=>bif aA 24096 g then g-20000 else bif (aA 1000 g&&aAB g 4096)then g-1000 else bif Nat.beq g 4099 then 4697 else g) (by rfl) (hX))))
  ·rintro x4 ⟨ax,ay,az⟩ nn
   try dsimp only
   unfold Ta;refine A 13 ?_;refine lP (E:=λ(s:(List (List Bool))×Int) (g:Nat×Nat)=>[(2,.clo 105 []),(4,.optr 4 g.1 0 0),(9,.osl 4697 g.2 0 s.1.length),(27,.sl (a.Code.map Pp)),(28,Av (a.Code.length:Int)),(29,Av s.2)]) (O:=λs g=>[(4,dV g.1 1 40 (.agg [.sl (e.Out.map (eL Lo))])),(4697,dW g.2 1 42 (s.1.map (eR 1 4 D.bool)))]) (body:=λs=>Va a e s.1 s.2) (s:=(x4,0)) (_,_) ((hX))<|?_
   rintro⟨o,k⟩ ⟨ba,bb⟩ nn
   try dsimp only
   unfold Va;refine A 6 ?_;refine cD r ?_ ?_
   ·refine A 7 ?_;refine bD λb bc=>?_
    refine A 10 ?_;refine bD λf bd=>?_
    refine A 8 ?_;refine sC (E:=λ(s:Bool×Bool) (g:Nat×Nat×Nat)=>[(2,.clo 105 []),(4,.optr 4 g.1 0 0),(9,.osl 4697 g.2.2 0 o.length),(10,Av k),(11,.optr 11 g.2.1 0 0),(12,Av f.1),(27,.sl (a.Code.map Pp)),(28,Av (a.Code.length:Int)),(29,Av k),(42,.optr 11 g.2.1 0 0),(43,Av b.Op),(44,.bool (b.Op==17)),(45,.bool s.1),(51,.bool s.2)]) (O:=λ_ g=>[(4,dV g.1 1 40 (.agg [.sl (e.Out.map (eL Lo))])),(11,dV g.2.1 5 63 (Pp b)),(4697,dW g.2.2 1 42 (o.map (eR 1 4 D.bool)))]) (j:=λs=>QZ e k f b o s.1 s.2) ?_ ?_
    ·refine A 5 ?_;refine Px r ?_ ?_
     ·refine A 22 ?_;exact xL (s:=(o,i64.wrap (k+1))) (_,_) ((hX))
     ·refine A 4 ?_;refine Px r ?_ ?_
      ·refine A 9 ?_;refine cD r ?_ ?_
       ·refine A 8 ?_;exact xL (s:=(o,i64.wrap (k+1))) (_,_) ((hX))
       ·refine A 1 ?_;exact xC (s:=(true,(b.A==b.B))) (_,_,_) ((hX))
      ·refine A 11 ?_;exact xC (s:=(false,false)) (_,_,_) ((hX))
    ·rintro⟨x9,ac⟩ ⟨bf,bg,bh⟩ nn
     try dsimp only
     unfold QZ;refine A 5 ?_;refine bD λp bi=>?_
     refine A 7 ?_;refine lP (E:=λ(s:(List (List Bool))×Int) (g:Nat×Nat×Nat)=>[(2,.clo 105 []),(4,.optr 4 g.1 0 0),(9,.osl 4697 g.2.2 0 s.1.length),(11,.optr 11 g.2.1 0 0),(12,Av f.1),(27,.sl (a.Code.map Pp)),(28,Av (a.Code.length:Int)),(29,Av k),(42,.optr 11 g.2.1 0 0),(43,Av b.Op),(44,.bool (b.Op==17)),(45,.bool x9),(51,.bool ac),(57,.sl (p.map Lo)),(58,Av (p.length:Int)),(59,Av s.2)]) (O:=λs g=>[(4,dV g.1 1 40 (.agg [.sl (e.Out.map (eL Lo))])),(11,dV g.2.1 5 63 (Pp b)),(4697,dW g.2.2 1 42 (s.1.map (eR 1 4 D.bool)))]) (body:=λs=>Vb p f b k s.1 s.2) (s:=(o,0)) (_,_,_) ((hX))<|?_
     rintro⟨m,x⟩ ⟨bj,bk,bl⟩ nn
     try dsimp only
     unfold Vb;refine A 6 ?_;refine cD r ?_ ?_
     ·refine A 6 ?_;refine bD λt bm=>?_
      refine A 5 ?_;refine sC (E:=λ(s:Bool) (g:Nat×Nat×Nat)=>[(2,.clo 105 []),(4,.optr 4 g.1 0 0),(9,.osl 4697 g.2.2 0 m.length),(11,.optr 11 g.2.1 0 0),(12,Av f.1),(15,Av t),(27,.sl (a.Code.map Pp)),(28,Av (a.Code.length:Int)),(29,Av k),(42,.optr 11 g.2.1 0 0),(43,Av b.Op),(44,.bool (b.Op==17)),(45,.bool x9),(51,.bool ac),(57,.sl (p.map Lo)),(58,Av (p.length:Int)),(59,Av x),(72,.bool s)]) (O:=λ_ g=>[(4,dV g.1 1 40 (.agg [.sl (e.Out.map (eL Lo))])),(11,dV g.2.1 5 63 (Pp b)),(4697,dW g.2.2 1 42 (m.map (eR 1 4 D.bool)))]) (j:=λs=>Qo m f t x s) ?_ ?_
      ·refine A 5 ?_;refine Px r ?_ ?_
       ·refine A 3 ?_;refine bD λaj bn=>?_
        refine A 4 ?_;exact xC (s:=(!aj)) (_,_,_) ((hX))
       ·refine A 7 ?_;exact xC (s:=false) (_,_,_) ((hX))
      ·rintro bo ⟨bp,bq,br⟩ nn
       try dsimp only
       unfold Qo;refine cD r ?_ ?_
       ·refine AmZ λu ad=>AmZ λv ae=>Avt λaf=>Ape (E:=[(2,.clo 105 []),(4,.optr 4 _ 0 0),(9,.osl 4697 _ 0 m.length),(11,.optr 11 _ 0 0),(12,Av f.1),(15,Av t),(27,.sl (a.Code.map Pp)),(28,Av (a.Code.length:Int)),(29,Av k),(42,.optr 11 _ 0 0),(43,Av b.Op),(44,.bool (b.Op==17)),(45,.bool x9),(51,.bool ac),(57,.sl (p.map Lo)),(58,Av (p.length:Int)),(59,Av x)]) (O:=[(4,dV _ 1 40 (.agg [.sl (e.Out.map (eL Lo))])),(11,dV _ 5 63 (Pp b)),(4697,dW _ 1 42 (((m.map (eR 1 4 D.bool)).set f.1.toNat (.hole 4717 _ u.length)).set t.toNat (.hole 4718 _ v.length))),(4717,dW _ 1 4 (u.map D.bool)),(4718,dW _ 1 4 (v.map D.bool))]) (ApT (g:=4697) (i:=f.1.toNat) (j:=t.toNat) (t1:=621) (t2:=622) D.bool r ad ae af (hX)) λnn=>?_
        refine A 2 ?_;refine cK λhq=>Zx (by simp) r r r r (by simpa using hq)<|Agk (nm:=4717) (q:=u.length) r r r (Atc ad af)<|?_
        refine A 3 ?_;refine cK λhq=>Zx (by simp) r r r r (by simpa using hq)<|Agk (nm:=4718) (q:=v.length) r r r (Atd ae)<|?_
        refine A 2 ?_;refine bD λak ao=>AcV (l:=u) (en:=D.bool) (q:=ak) (q':=true) r r r r r ao r (λ_=>r) r r r ⟨trivial,trivial,r⟩<|?_
        refine A 1 ?_;refine bD λap aq=>AcV (l:=v) (en:=D.bool) (q:=ap) (q':=true) r r r r r aq r (λ_=>r) r r r ⟨trivial,trivial,r⟩<|?_
        refine A 2 ?_;refine Qx (E:=[(2,.clo 105 []),(4,.optr 4 _ 0 0),(9,.osl 4697 _ 0 m.length),(11,.optr 11 _ 0 0),(12,Av f.1),(27,.sl (a.Code.map Pp)),(28,Av (a.Code.length:Int)),(29,Av k),(42,.optr 11 _ 0 0),(43,Av b.Op),(44,.bool (b.Op==17)),(45,.bool x9),(51,.bool ac),(57,.sl (p.map Lo)),(58,Av (p.length:Int)),(59,Av x)]) (O:=[(4,dV _ 1 40 (.agg [.sl (e.Out.map (eL Lo))])),(11,dV _ 5 63 (Pp b)),(4697,dW _ 1 42 (((m.set f.1.toNat (u.set t.toNat true)).set t.toNat (v.set f.1.toNat true)).map (eR 1 4 D.bool)))]) ((AoK (g:=4697) (g1:=4717) (g2:=4718) (l:=m) (en:=D.bool) (i:=f.1.toNat) (j:=t.toNat) (q1:=u) (q2:=v) (q1':=u.set t.toNat true) (q2':=v.set f.1.toNat true) ad ae af r r r (by simp) (by simp) (λ_=>r) (hE ⟨rfl,r,(QT (q:=m.length) r (by simp)),r,r,r,r,r,r,r,r,r,r,r,r,r,trivial⟩ ⟨rfl,r,r,trivial⟩))) λnn=>?_
        exact B
       ·refine A 7 ?_;exact xL (s:=(m,i64.wrap (x+1))) (_,_,_) ((hX))
     ·refine A 10 ?_;exact xL (s:=(m,i64.wrap (k+1))) (_,_) ((hX))
   ·refine A 4 ?_;refine Qx (E:=[(9,.osl 4697 _ 0 o.length)]) (O:=[(4697,dW _ 1 42 (o.map (eL D.bool)))]) ((AdP (g:=4697) r (AkI (l:=o) D.bool (λ_=>r)) (hX))) λnn=>?_
    exact B

def Ahp:Dw.Spec:=Pd [] .val Ql Qk (λa=>Xa a.1 a.2) Tp noE
theorem Amm:Pa Tryz.prog 61 Ahp:=by
 refine fn2 2 (Pe (l:=[(434280,Vk)]) (by simp[AgV])) Tryz.func61<|?_
 rintro⟨a,b⟩;unfold Xa;refine A 12 ?_;refine bD λd c=>cV (a,b) rfl rfl (show _=some Vk from by kernel_rfl) PA.ok rfl rfl (by simp) r c<|?_
 exact B

def Agu:Dw.Spec:=Pd [] (.row 1 3) PU PT (λa=>Adb a) PL noE
theorem AlF:Pa Tryz.prog 106 Agu:=by
 refine fn2 1 (Py) Tryz.func106<|?_;intro a;unfold Adb;refine A 21 ?_;refine lP (E:=λ(s:(List Int)×Int) (g:Nat)=>[(3,.osl 3 g 0 s.1.length),(8,Av ((aAA a.toNat (0:Int)).length:Int)),(9,Av s.2)]) (O:=λs g=>[(3,dW g 1 3 (s.1.map Lo))]) (body:=λs=>ZG a s.1 s.2) (s:=(aAA a.toNat (0:Int),0)) _ ((hX))<|?_
 rintro⟨b,c⟩ d nn
 try dsimp only
 unfold ZG;exact B

def Sx (a:(List Pt)×Pt):List D:=[.sl (a.1.map PQ),PQ a.2]
def Sw (ds:List D):(List Pt)×Pt:=((uL Akm) (ds.getD 0 .top),Akm (ds.getD 1 .top))
instance:PA Sx Sw:=⟨λa=>by simp[Sw,Sx,Qh (u:=Akm) (en:=PQ) Avx]⟩
def Zu:Dw.Spec:=Pd [] .ground Sx Sw (λa=>TG a.1 a.2) Pc noE
theorem AgK:Pa Tryz.prog 188 Zu:=by
 refine fn2 2 (Py) Tryz.func188<|?_;rintro⟨a,b⟩;unfold TG;refine A 15 ?_;refine lP (E:=λ(s:Int) (g:Nat)=>[(0,.sl (a.map PQ)),(3,.optr 3 g 0 0),(7,Av (a.length:Int)),(8,Av s)]) (O:=λ_ g=>[(3,dV g 2 127 (.agg [Av b.a0,Av b.a1]))]) (body:=λs=>Qj a b s) (s:=0) _ ((hX))<|?_
 rintro c d nn
 try dsimp only
 unfold Qj;refine A 6 ?_;refine cD r ?_ ?_
 ·refine A 15 ?_;refine bD λe f=>?_
  refine A 5 ?_;refine cD r ?_ ?_
  ·exact B
  ·refine A 7 ?_;exact xL (s:=i64.wrap (c+1)) _ ((hX))
 ·exact B

def XM:Dw.Spec:=Pd [] .ground Sx Sw (λa=>RF a.1 a.2) Pm noE
theorem AeS:Pa Tryz.prog 145 XM:=by
 refine fn2 2 (Pe (l:=[(188,Zu)]) (by simp[AgK])) Tryz.func145<|?_
 intro a;unfold RF;exact B

def Anu (b:(List Pt)):D:=.sl (b.map PQ)
def Ahq:Dw.Spec:=Pd [] (.row 2 127) WY WX (λa=>Xb a) Anu noE
theorem Amn:Pa Tryz.prog 107 Ahq:=by
 refine fn2 1 (Pe (l:=[(145,XM)]) (by simp[AeS])) Tryz.func107<|?_
 intro d;unfold Xb;refine A 21 ?_;refine lP (E:=λ(s:(List Pt)×Int) (g:Nat)=>[(3,.osl 3 g 0 s.1.length),(8,.sl (d.Code.map Pp)),(9,Av (d.Code.length:Int)),(10,Av s.2)]) (O:=λs g=>[(3,dW g 2 127 (s.1.map PQ))]) (body:=λs=>Re d s.1 s.2) (s:=(([]:List Pt),0)) _ ((hX))<|?_
 rintro⟨a,b⟩ e nn
 try dsimp only
 unfold Re;refine A 6 ?_;refine cD r ?_ ?_
 ·refine A 6 ?_;refine bD λc f=>?_
  refine A 23 ?_;refine Px r ?_ ?_
  ·refine A 7 ?_;refine Px r ?_ ?_
   ·refine A 2 ?_;refine bD λh i=>?_
    refine A 5 ?_;refine cD r ?_ ?_
    ·refine A 3 ?_;refine bS ([(Pt.mk c.A c.B)]:List Pt) PQ r r r (by simp) r r r<|?_
     refine A 9 ?_;exact xL (s:=(a++([(Pt.mk c.A c.B)]:List Pt),i64.wrap (b+1))) _ ((hX))
    ·refine A 7 ?_;exact xL (s:=(a,i64.wrap (b+1))) _ ((hX))
   ·refine A 15 ?_;exact xL (s:=(a,i64.wrap (b+1))) _ ((hX))
  ·refine A 22 ?_;exact xL (s:=(a,i64.wrap (b+1))) _ ((hX))
 ·exact B

def AtG:Qe:=(Tryz.f109.body.bind (PX Tryz.prog Tryz.f109.ntmps)).getD .skip
theorem AwP:(Tryz.f109.body.bind (PX Tryz.prog Tryz.f109.ntmps))=some AtG:=by kernel_rfl
theorem AwQ:Tryz.f109.results.toList.mapM (Ue Tryz.prog)=some [(.t 8)]:=by kernel_rfl

def AqB:Qe:=(Tryz.f146.body.bind (PX Tryz.prog Tryz.f146.ntmps)).getD .skip
theorem AwT:(Tryz.f146.body.bind (PX Tryz.prog Tryz.f146.ntmps))=some AqB:=by kernel_rfl
theorem AwU:Tryz.f146.results.toList.mapM (Ue Tryz.prog)=some [(.t 4)]:=by kernel_rfl

def AtI:Qe:=(Tryz.f147.body.bind (PX Tryz.prog Tryz.f147.ntmps)).getD .skip
theorem AwV:(Tryz.f147.body.bind (PX Tryz.prog Tryz.f147.ntmps))=some AtI:=by kernel_rfl
theorem AwW:Tryz.f147.results.toList.mapM (Ue Tryz.prog)=some [(.t 4)]:=by kernel_rfl

def AtM:Qe:=(Tryz.f189.body.bind (PX Tryz.prog Tryz.f189.ntmps)).getD .skip
theorem Axd:(Tryz.f189.body.bind (PX Tryz.prog Tryz.f189.ntmps))=some AtM:=by kernel_rfl
theorem Axe:Tryz.f189.results.toList.mapM (Ue Tryz.prog)=some [(.t 4)]:=by kernel_rfl

def AtJ:Qe:=(Tryz.f148.body.bind (PX Tryz.prog Tryz.f148.ntmps)).getD .skip
theorem AwX:(Tryz.f148.body.bind (PX Tryz.prog Tryz.f148.ntmps))=some AtJ:=by kernel_rfl
theorem AwY:Tryz.f148.results.toList.mapM (Ue Tryz.prog)=some [(.t 3)]:=by kernel_rfl

def AtH:Qe:=(Tryz.f110.body.bind (PX Tryz.prog Tryz.f110.ntmps)).getD .skip
theorem AwR:(Tryz.f110.body.bind (PX Tryz.prog Tryz.f110.ntmps))=some AtH:=by kernel_rfl
theorem AwS:Tryz.f110.results.toList.mapM (Ue Tryz.prog)=some []:=by kernel_rfl

def YT (a:Le×(List (List Int))):List D:=[Pl a.1,.sl (a.2.map (eL Lo))]
def YS (ds:List D):Le×(List (List Int)):=(Sz (ds.getD 0 .top),(uL (uL uI)) (ds.getD 1 .top))
instance:PA YT YS:=⟨λa=>by simp[YS,YT,Qh (u:=(uL uI)) (en:=(eL Lo)) (Qh (u:=uI) (en:=Lo) (λ_=>rfl))]⟩
def Ags:Dw.Spec:=Pd [] (.row 1 3) YT YS (λa=>VF a.1 a.2) PL noE
def Yg:Dw.Spec:=VR (specs [(108,RK)]) 2 [(.t 4)] AqB
theorem Aje:Pa Tryz.prog 146 Yg:=Sf (Pe (l:=[(108,RK)]) (by simp[Wj])) Tryz.func146 (by decide) AwT AwU (by decide)
def Yh:Dw.Spec:=VR (specs []) 2 [(.t 3)] AtJ
theorem Ajh:Pa Tryz.prog 148 Yh:=Sf (Py) Tryz.func148 (by decide) AwX AwY (by decide)
def AdG:Dw.Spec:=VR (specs [(108,RK)]) 3 [] AtH
theorem Aji:Pa Tryz.prog 110 AdG:=Sf (Pe (l:=[(108,RK)]) (by simp[Wj])) Tryz.func110 (by decide) AwR AwS (by decide)
def US:Dw.Spec:=VR (specs [(148,Yh)]) 2 [(.t 4)] AtM
theorem Ajg:Pa Tryz.prog 189 US:=Sf (Pe (l:=[(148,Yh)]) (by simp[Ajh])) Tryz.func189 (by decide) Axd Axe (by decide)
def UR:Dw.Spec:=VR (specs [(610493,US)]) 2 [(.t 4)] AtI
theorem Ajf:Pa Tryz.prog 147 UR:=Sf (Pe (l:=[(610493,US)]) (by simp[Ajg])) Tryz.func147 (by decide) AwV AwW (by decide)
def AdF:Dw.Spec:=VR (specs [(146,Yg),(610451,UR)]) 4 [(.t 8)] AtG
theorem Ajd:Pa Tryz.prog 109 AdF:=Sf (Pe (l:=[(146,Yg),(610451,UR)]) (by simp[Aje,Ajf])) Tryz.func109 (by decide) AwP AwQ (by decide)
theorem AlD:Pa Tryz.prog 62 Ags:=by
 refine fn2 2 (Pe (l:=[(106,Agu),(107,Ahq),(108,RK),(109,AdF),(110,AdG)]) (by simp[AlF,Amn,Wj,Ajd,Aji])) Tryz.func62<|?_
 rintro⟨f1,f⟩;unfold VF;refine A 11 ?_;refine bD λr3 bs=>?_
 refine A 8 ?_;refine bD λa bt=>?_
 refine A 6 ?_;refine lP (E:=λ(s:(List Int)×Int) (g:Nat×Nat)=>[(1,.sl (f.map (eL Lo))),(5,.osl 5 g.1 0 s.1.length),(17,.osl 17 g.2 0 a.length),(18,Av (a.length:Int)),(19,Av s.2)]) (O:=λs g=>[(5,dW g.1 1 3 (s.1.map Lo)),(17,dW g.2 2 127 (a.map PQ))]) (body:=λs=>Zz a f s.1 s.2) (s:=(r3,0)) (_,_) ((hX))<|?_
 rintro⟨e,t⟩ ⟨bu,bv⟩ nn
 try dsimp only
 unfold Zz;refine A 6 ?_;refine cD r ?_ ?_
 ·refine A 7 ?_;refine bD λbw bx=>?_
  refine A 8 ?_;refine UY r r r (by decide)<|?_
  refine A 1 ?_;refine cK λhq=>bD λh ao=>AdB (l:=e) r r r r r r r hq (λ_ _ _=>QF) ao<|?_
  refine A 1 ?_;refine UY r r r (by decide)<|?_
  refine A 1 ?_;refine cK λhq=>bD λi aw=>AdB (l:=h.1) r r r r r (by simp[QF ao]) r hq (λ_ _ _=>QF) aw<|?_
  refine A 10 ?_;refine Px r ?_ ?_
  ·refine A 4 ?_;refine RZ (E:=λ(g:Nat×Nat)=>[(1,.sl (f.map (eL Lo))),(5,.osl 1005 g.1 0 e.length),(8,Av h.2),(9,Av i.2),(17,.osl 1017 g.2 0 a.length),(18,Av (a.length:Int)),(19,Av t),(34,.bool true),(35,.osl 1005 g.1 0 e.length),(36,.sl (f.map (eL Lo))),(37,Av h.2),(38,Av i.2)]) (O:=λg=>[(1005,dW g.1 1 3 (i.1.map Lo)),(1017,dW g.2 2 127 (a.map PQ))]) (_,_) ((PD (λg=>bif aA 4096 g then g+20000 else g+1000) (by rfl) (hE ⟨rfl,(QT (q:=e.length) r (by simp)),r,r,r,r,r,r,(QT (q:=e.length) r (by simp)),r,r,r,trivial⟩ ⟨rfl,r,trivial⟩)))<|?_
   rintro⟨b,k⟩ nn
   try dsimp only
   refine Alb (ES:=λ(s:(List Int)×Bool) (g:Nat×Nat)=>[(1,.sl (f.map (eL Lo))),(5,.osl 5 g.1 0 e.length),(8,Av h.2),(9,Av i.2),(17,.osl 17 g.2 0 a.length),(18,Av (a.length:Int)),(19,Av t),(34,.bool true),(35,.osl 5 g.1 0 e.length),(36,.sl (f.map (eL Lo))),(37,Av h.2),(38,Av i.2),(39,.bool s.2)]) (OS:=λs g=>[(5,dW g.1 1 3 (s.1.map Lo)),(17,dW g.2 2 127 (a.map PQ))]) (j:=λs=>SP e h i t s.1 s.2) (ds:=[.osl 1005 b 0 e.length,.sl (f.map (eL Lo)),Av h.2,Av i.2]) (caps:=[]) (E:=[(0,.osl 1005 b 0 e.length),(1,.sl (f.map (eL Lo))),(2,Av h.2),(3,Av i.2)]) r r r r r r r r ?_ ?_
   ·refine UZ (c:=AtG)<|?_;refine A 7 ?_;refine Ato λnn=>?_
    refine A 9 ?_;refine RZ (E:=λ(g:Nat×Nat)=>[(0,.osl 2005 b 0 e.length),(1,.sl (f.map (eL Lo))),(2,Av h.2),(9,.optr 1009 g.1 0 0),(15,.osl 2005 b 0 e.length),(16,Av i.2)]) (O:=λg=>[(1009,dV g.1 1 142 (.mref 1014 g.2)),(1014,some (g.2,⟨true,false,0,0,([]:List (Int×Bool)).map (Qg D.bool)⟩)),(2005,dW b 1 3 (i.1.map Lo)),(2017,dW k 2 127 (a.map PQ))]) (_,_) ((PD (λg=>bif aA 4096 g then g+20000 else g+1000) (by rfl) (hE ⟨(QT (q:=e.length) r (by simp)),r,r,r,(QT (q:=e.length) r (by simp)),r,trivial⟩ ⟨rfl,r,r,r,trivial⟩)))<|?_
    rintro⟨ax,ap⟩ nn
    try dsimp only
    refine Alb (ES:=λ(s:(List Int)×(List Int)) (g:Nat×Nat×Nat)=>[(0,.osl 1005 b 0 e.length),(1,.sl (f.map (eL Lo))),(2,Av h.2),(9,.optr 9 g.1 0 0),(17,.osl 621 g.2.2 0 s.2.length)]) (OS:=λs g=>[(9,dV g.1 1 142 (.mref 14 g.2.1)),(14,some (g.2.1,⟨true,false,0,0,([]:List (Int×Bool)).map (Qg D.bool)⟩)),(621,dW g.2.2 1 3 (s.2.map Lo)),(1005,dW b 1 3 (s.1.map Lo)),(1017,dW k 2 127 (a.map PQ))]) (j:=λs=>ZD e h f i t s.1 s.2) (ds:=[.osl 2005 b 0 e.length,Av i.2]) (caps:=[]) (E:=[(0,.osl 2005 b 0 e.length),(1,Av i.2)]) r r r r r r r r ?_ ?_
    ·refine UZ (c:=AqB)<|?_;refine A 19 ?_;refine lP (E:=λ(s:(List Int)×(List Int)×Int) (g:Nat)=>[(0,.osl 2005 b 0 s.1.length),(1,Av i.2),(5,.osl 5 g 0 s.2.1.length),(8,Av (e.length:Int)),(9,Av s.2.2)]) (O:=λs g=>[(5,dW g 1 3 (s.2.1.map Lo)),(1009,dV ax 1 142 (.mref 1014 ap)),(1014,some (ap,⟨true,false,0,0,([]:List (Int×Bool)).map (Qg D.bool)⟩)),(2005,dW b 1 3 (s.1.map Lo)),(2017,dW k 2 127 (a.map PQ))]) (body:=λs=>Vj e i h f t s.1 s.2.1 s.2.2) (s:=(i.1,([]:List Int),0)) _ ((hE ⟨(QT (q:=e.length) r (by simp[QF aw,QF ao])),r,r,r,r,trivial⟩ ⟨rfl,r,r,r,r,trivial⟩))<|?_
     rintro⟨ai,ad,ay⟩ bz nn
     try dsimp only
     unfold Vj;refine A 6 ?_;refine cD r ?_ ?_
     ·refine A 14 ?_;refine cK λhq=>bD λbg az=>AdB (l:=ai) r r r r r r r hq (λ_ _ _=>QF) az<|?_
      refine A 4 ?_;refine cD r ?_ ?_
      ·refine A 13 ?_;exact xL (s:=(bg.1,ad++([ay]:List Int),i64.wrap (ay+1))) _ ((hE ⟨(QT (q:=ai.length) r (by simp[QF az])),r,r,r,r,trivial⟩ ⟨rfl,r,r,r,r,trivial⟩))
      ·refine A 7 ?_;exact xL (s:=(bg.1,ad,i64.wrap (ay+1))) _ ((hE ⟨(QT (q:=ai.length) r (by simp[QF az])),r,r,r,r,trivial⟩ ⟨rfl,r,r,r,r,trivial⟩))
     ·refine A 12 ?_;exact RW (d:=.osl 4 _ 0 ad.length) (s:=(ai,ad)) (_,_,_) r (by first|rfl|(simp[PC,PE,rdA,raw,strip,PJ,cells,PF];done)|(simp[PC,PE,rdA,raw,strip,PJ,S.ge,S.go,look,UO,cells,PF];done)) r ((Qp (E1:=[(0,.osl 2005 b 0 e.length),(1,.sl (f.map (eL Lo))),(2,Av h.2),(9,.optr 1009 ax 0 0),(17,.osl 4 _ 0 ad.length)]) (O1:=[(4,dW _ 1 3 (ad.map Lo)),(1009,dV ax 1 142 (.mref 1014 ap)),(1014,some (ap,⟨true,false,0,0,([]:List (Int×Bool)).map (Qg D.bool)⟩)),(2005,dW b 1 3 (ai.map Lo)),(2017,dW k 2 127 (a.map PQ))]) (hX) (λ_=>PD (λg=>bif aA 24096 g then g-20000 else bif (aA 1000 g&&aAB g 4096)then g-1000 else bif Nat.beq g 4 then 621 else g) (by rfl) (hX))))
    ·rintro⟨y,ae⟩ ⟨ca,cb,cc⟩ nn
     try dsimp only
     unfold ZD;refine AhH λaq=>AhI (E:=λ(g:Nat×Nat×Nat)=>[(0,.osl 1005 b 0 y.length),(1,.sl (f.map (eL Lo))),(2,Av h.2),(9,.optr 9 g.1 0 0),(17,.osl 621 g.2.2 0 ae.length)]) (O:=λg=>[(9,dV g.1 1 142 (.mref 14 g.2.1)),(14,some (g.2.1,⟨true,false,0,0,([]:List (Int×Bool)).map (Qg D.bool)⟩)),(621,dW g.2.2 1 3 (ae.map Lo)),(1005,dW b 1 3 (y.map Lo)),(1017,dW k 2 127 (a.map PQ))]) (_,_,_) (hE ⟨(QT (q:=e.length) r aq),r,r,r,r,trivial⟩ ⟨rfl,r,r,r,r,trivial⟩)<|?_
     rintro⟨cd,ce,cf⟩ nn
     try dsimp only
     refine A 5 ?_;refine lP (E:=λ(s:(List (Int×Bool))×Int) (g:Nat×Nat×Nat)=>[(0,.osl 1005 b 0 y.length),(1,.sl (f.map (eL Lo))),(2,Av h.2),(9,.optr 9 g.1 0 0),(17,.osl 621 g.2.2 0 ae.length),(18,Av (ae.length:Int)),(19,Av s.2)]) (O:=λs g=>[(9,dV g.1 1 142 (.mref 14 g.2.1)),(14,some (g.2.1,⟨true,false,0,0,s.1.map (Qg D.bool)⟩)),(621,dW g.2.2 1 3 (ae.map Lo)),(1005,dW b 1 3 (y.map Lo)),(1017,dW k 2 127 (a.map PQ))]) (body:=λs=>ZA ae y h f e i t s.1 s.2) (s:=(([]:List (Int×Bool)),0)) (_,_,_) ((hX))<|?_
     rintro⟨m,bn⟩ ⟨cg,ch,ci⟩ nn
     try dsimp only
     unfold ZA;refine A 6 ?_;refine cD r ?_ ?_
     ·refine A 7 ?_;refine bD λbo cj=>?_
      refine A 7 ?_;refine Aoq (en:=D.bool) (l:=m) r r r true r r r r<|?_;refine A 7 ?_;exact xL (s:=(RX bo true m,i64.wrap (bn+1))) (_,_,_) ((hX))
     ·refine A 10 ?_;refine RZ (E:=λ(g:Nat×Nat)=>[(1,.sl (f.map (eL Lo))),(9,.optr 1009 g.1 0 0),(26,.osl 2005 b 0 y.length),(27,Av h.2)]) (O:=λg=>[(1009,dV g.1 1 142 (.mref 1014 g.2)),(1014,some (g.2,⟨true,false,0,0,m.map (Qg D.bool)⟩)),(2005,dW b 1 3 (y.map Lo)),(2017,dW k 2 127 (a.map PQ))]) (_,_) ((PD (λg=>bif aA 4096 g then g+20000 else g+1000) (by rfl) (hX)))<|?_
      rintro⟨ba,ar⟩ nn
      try dsimp only
      refine Zw (ES:=λ(s:(List Int)×(List Int)) (g:Nat×Nat×Nat)=>[(1,.sl (f.map (eL Lo))),(9,.optr 9 g.1 0 0),(28,.osl 641 g.2.2 0 s.2.length)]) (OS:=λs g=>[(9,dV g.1 1 142 (.mref 14 g.2.1)),(14,some (g.2.1,⟨true,false,0,0,m.map (Qg D.bool)⟩)),(641,dW g.2.2 1 3 (s.2.map Lo)),(1005,dW b 1 3 (s.1.map Lo)),(1017,dW k 2 127 (a.map PQ))]) (j:=λs=>ZE f m e h i t s.1 s.2) (ds:=[.osl 2005 b 0 y.length,Av h.2]) (caps:=[]) (E:=[(0,.osl 2005 b 0 y.length),(1,Av h.2)]) r r r r r r r r ?_ ?_
      ·refine UZ (c:=AqB)<|?_;refine A 19 ?_;refine lP (E:=λ(s:(List Int)×(List Int)×Int) (g:Nat)=>[(0,.osl 2005 b 0 s.1.length),(1,Av h.2),(5,.osl 5 g 0 s.2.1.length),(8,Av (y.length:Int)),(9,Av s.2.2)]) (O:=λs g=>[(5,dW g 1 3 (s.2.1.map Lo)),(1009,dV ba 1 142 (.mref 1014 ar)),(1014,some (ar,⟨true,false,0,0,m.map (Qg D.bool)⟩)),(2005,dW b 1 3 (s.1.map Lo)),(2017,dW k 2 127 (a.map PQ))]) (body:=λs=>ZC y h f m e i t s.1 s.2.1 s.2.2) (s:=(y,([]:List Int),0)) _ ((hX))<|?_
       rintro⟨aj,af,bb⟩ ck nn
       try dsimp only
       unfold ZC;refine A 6 ?_;refine cD r ?_ ?_
       ·refine A 14 ?_;refine cK λhq=>bD λbh bc=>AdB (l:=aj) r r r r r r r hq (λ_ _ _=>QF) bc<|?_
        refine A 4 ?_;refine cD r ?_ ?_
        ·refine A 13 ?_;exact xL (s:=(bh.1,af++([bb]:List Int),i64.wrap (bb+1))) _ ((hE ⟨(QT (q:=aj.length) r (by simp[QF bc])),r,r,r,r,trivial⟩ ⟨rfl,r,r,r,r,trivial⟩))
        ·refine A 7 ?_;exact xL (s:=(bh.1,af,i64.wrap (bb+1))) _ ((hE ⟨(QT (q:=aj.length) r (by simp[QF bc])),r,r,r,r,trivial⟩ ⟨rfl,r,r,r,r,trivial⟩))
       ·refine A 12 ?_;exact RW (d:=.osl 4 _ 0 af.length) (s:=(aj,af)) (_,_,_) r (by first|rfl|(simp[PC,PE,rdA,raw,strip,PJ,cells,PF];done)|(simp[PC,PE,rdA,raw,strip,PJ,S.ge,S.go,look,UO,cells,PF];done)) r ((Qp (E1:=[(1,.sl (f.map (eL Lo))),(9,.optr 1009 ba 0 0),(28,.osl 4 _ 0 af.length)]) (O1:=[(4,dW _ 1 3 (af.map Lo)),(1009,dV ba 1 142 (.mref 1014 ar)),(1014,some (ar,⟨true,false,0,0,m.map (Qg D.bool)⟩)),(2005,dW b 1 3 (aj.map Lo)),(2017,dW k 2 127 (a.map PQ))]) (hX) (λ_=>PD (λg=>bif aA 24096 g then g-20000 else bif (aA 1000 g&&aAB g 4096)then g-1000 else bif Nat.beq g 4 then 641 else g) (by rfl) (hX))))
      ·rintro⟨v,p⟩ ⟨cl,cm,cn⟩ nn
       try dsimp only
       unfold ZE;refine A 5 ?_;refine lP (E:=λ(s:Int) (g:Nat×Nat×Nat)=>[(1,.sl (f.map (eL Lo))),(9,.optr 9 g.1 0 0),(28,.osl 641 g.2.2 0 p.length),(29,Av (p.length:Int)),(30,Av s)]) (O:=λ_ g=>[(9,dV g.1 1 142 (.mref 14 g.2.1)),(14,some (g.2.1,⟨true,false,0,0,m.map (Qg D.bool)⟩)),(641,dW g.2.2 1 3 (p.map Lo)),(1005,dW b 1 3 (v.map Lo)),(1017,dW k 2 127 (a.map PQ))]) (body:=λs=>VW p f m e h i t v s) (s:=0) (_,_,_) ((hX))<|?_
       rintro ag ⟨co,cp,cq⟩ nn
       try dsimp only
       unfold VW;refine A 6 ?_;refine cD r ?_ ?_
       ·refine A 7 ?_;refine bD λcr cs=>?_
        refine A 8 ?_;refine bD λx ct=>?_
        refine A 2 ?_;refine mF (caps:=[.optr 9 _ 0 0]) r r (by simp[VC])<|RZ (E:=λ(g:Nat×Nat×Nat)=>[(1,.sl (f.map (eL Lo))),(9,.optr 1009 g.1 0 0),(28,.osl 1641 g.2.2 0 p.length),(29,Av (p.length:Int)),(30,Av ag),(37,.sl (x.map Lo)),(38,.clo 148 [.optr 1009 g.1 0 0])]) (O:=λg=>[(1009,dV g.1 1 142 (.mref 1014 g.2.1)),(1014,some (g.2.1,⟨true,false,0,0,m.map (Qg D.bool)⟩)),(1641,dW g.2.2 1 3 (p.map Lo)),(2005,dW b 1 3 (v.map Lo)),(2017,dW k 2 127 (a.map PQ))]) (_,_,_) ((PD (λg=>bif aA 4096 g then g+20000 else g+1000) (by rfl) (hX)))<|?_
        rintro⟨o,w,z⟩ nn
        try dsimp only
        refine AfV (ds:=[.sl (x.map Lo),.clo 148 [.optr 1009 o 0 0]]) (caps:=[]) (E:=[(0,.sl (x.map Lo)),(1,.clo 148 [.optr 1009 o 0 0])]) rfl rfl rfl rfl rfl (show _=some UR from by kernel_rfl) rfl rfl<|UZ (c:=AtI)<|?_
        refine A 9 ?_;refine RZ (E:=λ(g:Unit)=>[(5,.sl (x.map Lo)),(6,.clo 148 [.optr 2009 o 0 0])]) (O:=λg=>[(2009,dV o 1 142 (.mref 2014 w)),(2014,some (w,⟨true,false,0,0,m.map (Qg D.bool)⟩)),(2641,dW z 1 3 (p.map Lo)),(3005,dW b 1 3 (v.map Lo)),(3017,dW k 2 127 (a.map PQ))]) () ((PD (λg=>bif aA 4096 g then g+20000 else g+1000) (by rfl) (hX)))<|?_
        rintro⟨⟩ nn
        try dsimp only
        refine Zw (ES:=λ(s:Int) (_g:Unit)=>[(7,Av s)]) (OS:=λ_ _=>[(1009,dV o 1 142 (.mref 1014 w)),(1014,some (w,⟨true,false,0,0,m.map (Qg D.bool)⟩)),(1641,dW z 1 3 (p.map Lo)),(2005,dW b 1 3 (v.map Lo)),(2017,dW k 2 127 (a.map PQ))]) (j:=λs=>SQ e h i t v ag s) (ds:=[.sl (x.map Lo),.clo 148 [.optr 2009 o 0 0]]) (caps:=[]) (E:=[(0,.sl (x.map Lo)),(1,.clo 148 [.optr 2009 o 0 0])]) rfl rfl rfl rfl rfl (show _=some US from by kernel_rfl) rfl rfl ?_ ?_
        ·refine UZ (c:=AtM)<|?_;refine A 14 ?_;refine lP (E:=λ(s:Int) (_g:Unit)=>[(0,.sl (x.map Lo)),(1,.clo 148 [.optr 2009 o 0 0]),(7,Av (x.length:Int)),(8,Av s)]) (O:=λ_ _=>[(2009,dV o 1 142 (.mref 2014 w)),(2014,some (w,⟨true,false,0,0,m.map (Qg D.bool)⟩)),(2641,dW z 1 3 (p.map Lo)),(3005,dW b 1 3 (v.map Lo)),(3017,dW k 2 127 (a.map PQ))]) (body:=λs=>ZB x m e h i t v ag s) (s:=0) () ((hX))<|?_
         rintro aa ⟨⟩ nn
         try dsimp only
         unfold ZB;refine A 6 ?_;refine cD r ?_ ?_
         ·refine A 15 ?_;refine bD λah cu=>?_
          refine A 2 ?_;refine RZ (E:=λ(g:Unit)=>[(0,.sl (x.map Lo)),(1,.clo 148 [.optr 3009 o 0 0]),(5,Av aa),(7,Av (x.length:Int)),(8,Av aa),(11,.clo 148 [.optr 3009 o 0 0]),(15,Av ah)]) (O:=λg=>[(3009,dV o 1 142 (.mref 3014 w)),(3014,some (w,⟨true,false,0,0,m.map (Qg D.bool)⟩)),(3641,dW z 1 3 (p.map Lo)),(4005,dW b 1 3 (v.map Lo)),(4017,dW k 2 127 (a.map PQ))]) () ((PD (λg=>bif aA 4096 g then g+20000 else g+1000) (by rfl) (hX)))<|?_
          rintro⟨⟩ nn
          try dsimp only
          refine AfV (ds:=[Av ah]) (caps:=[.optr 3009 o 0 0]) (E:=[(0,Av ah),(1,.optr 3009 o 0 0)]) r r r r r r r r<|UZ (c:=AtJ)<|?_;refine A 9 ?_;refine Aop (en:=D.bool) (l:=m) r r r r false r<|?_;refine A 4 ?_;refine AmY (d:=.bool (QM false ah m)) (E:=[(0,.sl (x.map Lo)),(1,.clo 148 [.optr 2009 o 0 0]),(5,Av aa),(7,Av (x.length:Int)),(8,Av aa),(16,.bool (QM false ah m))]) (O:=[(2009,dV o 1 142 (.mref 2014 w)),(2014,some (w,⟨true,false,0,0,m.map (Qg D.bool)⟩)),(2641,dW z 1 3 (p.map Lo)),(3005,dW b 1 3 (v.map Lo)),(3017,dW k 2 127 (a.map PQ))]) r (by first|rfl|(simp[PC,PE,rdA,raw,strip,PJ,cells,PF];done)|(simp[PC,PE,rdA,raw,strip,PJ,S.ge,S.go,look,UO,cells,PF];done)) r ((Qp (E1:=[(0,.sl (x.map Lo)),(1,.clo 148 [.optr 3009 o 0 0]),(5,Av aa),(7,Av (x.length:Int)),(8,Av aa),(16,.bool (QM false ah m))]) (O1:=[(3009,dV o 1 142 (.mref 3014 w)),(3014,some (w,⟨true,false,0,0,m.map (Qg D.bool)⟩)),(3641,dW z 1 3 (p.map Lo)),(4005,dW b 1 3 (v.map Lo)),(4017,dW k 2 127 (a.map PQ))]) (hX) (λ_=>PD (λg=>bif aA 24096 g then g-20000 else bif (aA 1000 g&&aAB g 4096)then g-1000 else g) (by rfl) (hX)))) λnn=>?_
          refine A 2 ?_;refine cD r ?_ ?_
          ·refine A 12 ?_;exact RW (d:=Av aa) (s:=aa) () r (by first|rfl|(simp[PC,PE,rdA,raw,strip,PJ,cells,PF];done)|(simp[PC,PE,rdA,raw,strip,PJ,S.ge,S.go,look,UO,cells,PF];done)) r ((Qp (E1:=[(7,Av aa)]) (O1:=[(2009,dV o 1 142 (.mref 2014 w)),(2014,some (w,⟨true,false,0,0,m.map (Qg D.bool)⟩)),(2641,dW z 1 3 (p.map Lo)),(3005,dW b 1 3 (v.map Lo)),(3017,dW k 2 127 (a.map PQ))]) (hX) (λ_=>PD (λg=>bif aA 24096 g then g-20000 else bif (aA 1000 g&&aAB g 4096)then g-1000 else g) (by rfl) (hX))))
          ·refine A 7 ?_;exact xL (s:=i64.wrap (aa+1)) () ((hX))
         ·refine A 11 ?_;exact RW (d:=Av (-1)) (s:=(-1)) () r (by first|rfl|(simp[PC,PE,rdA,raw,strip,PJ,cells,PF];done)|(simp[PC,PE,rdA,raw,strip,PJ,S.ge,S.go,look,UO,cells,PF];done)) r ((Qp (E1:=[(7,Av (-1))]) (O1:=[(2009,dV o 1 142 (.mref 2014 w)),(2014,some (w,⟨true,false,0,0,m.map (Qg D.bool)⟩)),(2641,dW z 1 3 (p.map Lo)),(3005,dW b 1 3 (v.map Lo)),(3017,dW k 2 127 (a.map PQ))]) (hX) (λ_=>PD (λg=>bif aA 24096 g then g-20000 else bif (aA 1000 g&&aAB g 4096)then g-1000 else g) (by rfl) (hX))))
        ·rintro bd ⟨⟩ nn
         try dsimp only
         unfold SQ;refine A 5 ?_;refine AmY (d:=.bool (decide (bd>=0))) (E:=[(1,.sl (f.map (eL Lo))),(9,.optr 9 _ 0 0),(28,.osl 641 _ 0 p.length),(29,Av (p.length:Int)),(30,Av ag),(39,.bool (decide (bd>=0)))]) (O:=[(9,dV _ 1 142 (.mref 14 _)),(14,some (_,⟨true,false,0,0,m.map (Qg D.bool)⟩)),(641,dW _ 1 3 (p.map Lo)),(1005,dW b 1 3 (v.map Lo)),(1017,dW k 2 127 (a.map PQ))]) r (by first|rfl|(simp[PC,PE,rdA,raw,strip,PJ,cells,PF];done)|(simp[PC,PE,rdA,raw,strip,PJ,S.ge,S.go,look,UO,cells,PF];done)) r ((Qp (E1:=[(1,.sl (f.map (eL Lo))),(9,.optr 1009 o 0 0),(28,.osl 1641 z 0 p.length),(29,Av (p.length:Int)),(30,Av ag),(39,.bool (decide (bd>=0)))]) (O1:=[(1009,dV o 1 142 (.mref 1014 w)),(1014,some (w,⟨true,false,0,0,m.map (Qg D.bool)⟩)),(1641,dW z 1 3 (p.map Lo)),(2005,dW b 1 3 (v.map Lo)),(2017,dW k 2 127 (a.map PQ))]) (hX) (λ_=>PD (λg=>bif aA 24096 g then g-20000 else bif (aA 1000 g&&aAB g 4096)then g-1000 else g) (by rfl) (hX)))) λnn=>?_
         refine A 2 ?_;refine cD r ?_ ?_
         ·refine A 11 ?_;exact RW (d:=.bool false) (s:=(v,false)) (_,_) r (by first|rfl|(simp[PC,PE,rdA,raw,strip,PJ,cells,PF];done)|(simp[PC,PE,rdA,raw,strip,PJ,S.ge,S.go,look,UO,cells,PF];done)) r ((Qp (E1:=[(1,.sl (f.map (eL Lo))),(5,.osl 1005 b 0 e.length),(8,Av h.2),(9,Av i.2),(17,.osl 1017 k 0 a.length),(18,Av (a.length:Int)),(19,Av t),(34,.bool true),(35,.osl 1005 b 0 e.length),(36,.sl (f.map (eL Lo))),(37,Av h.2),(38,Av i.2),(39,.bool false)]) (O1:=[(1005,dW b 1 3 (v.map Lo)),(1017,dW k 2 127 (a.map PQ))]) (hX) (λ_=>PD (λg=>bif aA 24096 g then g-20000 else bif (aA 1000 g&&aAB g 4096)then g-1000 else g) (by rfl) (hX))))
         ·refine A 7 ?_;exact xL (s:=i64.wrap (ag+1)) (_,_,_) ((hX))
       ·refine A 11 ?_;exact RW (d:=.bool true) (s:=(v,true)) (_,_) r (by first|rfl|(simp[PC,PE,rdA,raw,strip,PJ,cells,PF];done)|(simp[PC,PE,rdA,raw,strip,PJ,S.ge,S.go,look,UO,cells,PF];done)) r ((Qp (E1:=[(1,.sl (f.map (eL Lo))),(5,.osl 1005 b 0 e.length),(8,Av h.2),(9,Av i.2),(17,.osl 1017 k 0 a.length),(18,Av (a.length:Int)),(19,Av t),(34,.bool true),(35,.osl 1005 b 0 e.length),(36,.sl (f.map (eL Lo))),(37,Av h.2),(38,Av i.2),(39,.bool true)]) (O1:=[(1005,dW b 1 3 (v.map Lo)),(1017,dW k 2 127 (a.map PQ))]) (hX) (λ_=>PD (λg=>bif aA 24096 g then g-20000 else bif (aA 1000 g&&aAB g 4096)then g-1000 else g) (by rfl) (hX))))
   ·rintro⟨u,au⟩ ⟨cv,cw⟩ nn
    try dsimp only
    unfold SP;refine AhH λaq=>AhI (E:=λ(g:Nat×Nat)=>[(1,.sl (f.map (eL Lo))),(5,.osl 5 g.1 0 u.length),(8,Av h.2),(9,Av i.2),(17,.osl 17 g.2 0 a.length),(18,Av (a.length:Int)),(19,Av t),(34,.bool true),(35,.osl 5 g.1 0 u.length),(36,.sl (f.map (eL Lo))),(37,Av h.2),(38,Av i.2),(39,.bool au)]) (O:=λg=>[(5,dW g.1 1 3 (u.map Lo)),(17,dW g.2 2 127 (a.map PQ))]) (_,_) (hE ⟨rfl,(QT (q:=e.length) r aq),r,r,r,r,r,r,(QT (q:=e.length) r aq),r,r,r,r,trivial⟩ ⟨rfl,r,trivial⟩)<|?_
    rintro⟨cx,cy⟩ nn
    try dsimp only
    refine A 3 ?_;refine cD r ?_ ?_
    ·refine A 4 ?_;refine RZ (E:=λ(g:Nat×Nat)=>[(1,.sl (f.map (eL Lo))),(5,.osl 1005 g.1 0 u.length),(17,.osl 1017 g.2 0 a.length),(18,Av (a.length:Int)),(19,Av t),(35,.osl 1005 g.1 0 u.length),(36,.sl (f.map (eL Lo))),(37,Av h.2),(38,Av i.2),(39,.bool au),(41,.osl 1005 g.1 0 u.length),(42,Av h.2),(43,Av i.2)]) (O:=λg=>[(1005,dW g.1 1 3 (u.map Lo)),(1017,dW g.2 2 127 (a.map PQ))]) (_,_) ((PD (λg=>bif aA 4096 g then g+20000 else g+1000) (by rfl) (hX)))<|?_
     rintro⟨ak,bi⟩ nn
     try dsimp only
     refine AfV (ds:=[.osl 1005 ak 0 u.length,Av h.2,Av i.2]) (caps:=[]) (E:=[(0,.osl 1005 ak 0 u.length),(1,Av h.2),(2,Av i.2)]) r r r r r r r r<|UZ (c:=AtH)<|?_;refine A 4 ?_;refine cK λhq=>bD λac av=>AdB (l:=u) r r r r r r r hq (λ_ _ _=>QF) av<|?_
     refine A 2 ?_;refine cK λhq=>bD λab bf=>AdB (l:=ac.1) r r r r r (by simp[QF av]) r hq (λ_ _ _=>QF) bf<|?_
     refine A 12 ?_;refine cK λhq=>iO (l:=ab.1) (en:=Lo) (by simp[QF bf,QF av]) r r r r hq<|bD λcz da=>?_
     refine A 2 ?_;refine AmY (d:=.tup []) (E:=[(1,.sl (f.map (eL Lo))),(5,.osl 5 _ 0 u.length),(17,.osl 17 _ 0 a.length),(18,Av (a.length:Int)),(19,Av t),(35,.osl 5 _ 0 u.length),(36,.sl (f.map (eL Lo))),(37,Av h.2),(38,Av i.2),(39,.bool au),(44,.tup [])]) (O:=[(5,dW _ 1 3 ((ab.1.set ((PH ac.2 ab.2).toNat) (RU ac.2 ab.2)).map Lo)),(17,dW _ 2 127 (a.map PQ))]) r (by first|rfl|(simp[PC,PE,rdA,raw,strip,PJ,cells,PF];done)|(simp[PC,PE,rdA,raw,strip,PJ,S.ge,S.go,look,UO,cells,PF];done)) r ((Qp (E1:=[(1,.sl (f.map (eL Lo))),(5,.osl 1005 ak 0 u.length),(17,.osl 1017 bi 0 a.length),(18,Av (a.length:Int)),(19,Av t),(35,.osl 1005 ak 0 u.length),(36,.sl (f.map (eL Lo))),(37,Av h.2),(38,Av i.2),(39,.bool au),(44,.tup [])]) (O1:=[(1005,dW ak 1 3 ((ab.1.set ((PH ac.2 ab.2).toNat) (RU ac.2 ab.2)).map Lo)),(1017,dW bi 2 127 (a.map PQ))]) (hE ⟨rfl,(QT (q:=u.length) r (by simp)),r,r,r,(QT (q:=u.length) r (by simp)),r,r,r,r,r,trivial⟩ ⟨rfl,r,trivial⟩) (λ_=>PD (λg=>bif aA 24096 g then g-20000 else bif (aA 1000 g&&aAB g 4096)then g-1000 else g) (by rfl) (hE ⟨rfl,(QT (q:=u.length) r (by simp)),r,r,r,(QT (q:=u.length) r (by simp)),r,r,r,r,r,trivial⟩ ⟨rfl,r,trivial⟩)))) λnn=>?_
     refine A 7 ?_;exact xL (s:=(ab.1.set ((PH ac.2 ab.2).toNat) (RU ac.2 ab.2),i64.wrap (t+1))) (_,_) ((hE ⟨rfl,(QT (q:=u.length) r (by simp[QF bf,QF av])),r,r,r,trivial⟩ ⟨rfl,r,trivial⟩))
    ·refine A 7 ?_;exact xL (s:=(u,i64.wrap (t+1))) (_,_) ((hX))
  ·refine A 16 ?_;exact xL (s:=(i.1,i64.wrap (t+1))) (_,_) ((hE ⟨rfl,(QT (q:=e.length) r (by simp[QF aw,QF ao])),r,r,r,trivial⟩ ⟨rfl,r,trivial⟩))
 ·refine A 19 ?_;refine lP (E:=λ(s:(List Int)×(List Int)×Int) (g:Nat×Nat)=>[(5,.osl 5 g.1 0 s.2.1.length),(10,.osl 10 g.2 0 s.1.length),(47,Av (e.length:Int)),(48,Av s.2.2)]) (O:=λs g=>[(5,dW g.1 1 3 (s.2.1.map Lo)),(10,dW g.2 1 3 (s.1.map Lo))]) (body:=λs=>YR e s.1 s.2.1 s.2.2) (s:=(([]:List Int),e,0)) (_,_) ((hX))<|?_
  rintro⟨bp,bj,bq⟩ ⟨db,dc⟩ nn
  try dsimp only
  unfold YR;refine A 6 ?_;refine cD r ?_ ?_
  ·refine A 14 ?_;refine cK λhq=>bD λbk bl=>AdB (l:=bj) r r r r r r r hq (λ_ _ _=>QF) bl<|?_
   refine A 10 ?_;exact xL (s:=(bp++([bk.2]:List Int),bk.1,i64.wrap (bq+1))) (_,_) ((hE ⟨(QT (q:=bj.length) r (by simp[QF bl])),r,r,r,trivial⟩ ⟨rfl,r,trivial⟩))
  ·exact B

def AkQ (b:PG):List D:=[Ti b]
def AeB:Dw.Spec:=Pd [(0,(12,75))] .val Ri RN (λa=>Xf a) Vp AkQ
theorem AjS:Pa Tryz.prog 30 AeB:=by
 refine fn2 1 (Pe (l:=[(61,Ahp),(62,Ags)]) (by simp[Amm,AlD])) Tryz.func30<|?_
 intro a;unfold Xf;refine A 11 ?_;refine bD λc d=>?_
 refine A 15 ?_;refine bD λb e=>?_
 refine A 5 ?_;refine Akk (l:=b) (en:=Lo) (z':=.agg [.sl (a.p.Funcs.map Pl),Av a.i,Av a.f.Params,.sl (a.f.Slots.map Ps),.sl (a.f.Code.map Pp),.sl (a.x.Live.Out.map (eL Lo)),.row 1 3 (b.map Lo),.sl (a.x.Rename.Keep.map D.bool),.sl (a.x.LiveAfter.Out.map (eL Lo)),Av a.x.Layout.Args,Av a.x.Layout.Size,.sl (a.x.Layout.Off.map Lo)]) r r r r r r (λ_=>r) r r<|?_
 refine A 1 ?_;refine AsV (E:=[]) (O:=[(8192,dV 0 12 75 (.agg [.sl (a.p.Funcs.map Pl),Av a.i,Av a.f.Params,.sl (a.f.Slots.map Ps),.sl (a.f.Code.map Pp),.sl (a.x.Live.Out.map (eL Lo)),.sl (b.map Lo),.sl (a.x.Rename.Keep.map D.bool),.sl (a.x.LiveAfter.Out.map (eL Lo)),Av a.x.Layout.Args,Av a.x.Layout.Size,.sl (a.x.Layout.Off.map Lo)]))]) ((AdP (g:=8192) r (Atb (by repeat' first|exact FrL.nil|apply FrL.row (AaO λ_=>rfl)|apply FrL.same)) (hX))) (λ_ h=>by cases h) λnn=>?_
 exact B

end
end Go.Proofs.YtilmapojncgflaaGreatDoor
