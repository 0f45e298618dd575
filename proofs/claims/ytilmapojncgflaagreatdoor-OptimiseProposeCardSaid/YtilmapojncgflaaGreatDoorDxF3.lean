/-
  Programs on typed data, and the proofs that the code does what they say; written by a program (dx.py).
-/
import Derived.Test.YtilmapojncgflaaGreatDoorProg
import Derived.Test.YtilmapojncgflaaGreatDoorDd
import Derived.KernelRfl
import Derived.Test.YtilmapojncgflaaGreatDoorSh
import Derived.Test.YtilmapojncgflaaGreatDoorDxP
import Derived.Test.YtilmapojncgflaaGreatDoorDxF1
import Derived.Test.YtilmapojncgflaaGreatDoorDxF2
open List renaming replicate->aAA
open Nat renaming ble->aA,blt->aAB
namespace Go.Proofs.YtilmapojncgflaaGreatDoor
open Go Go.Dw Go.Proofs
open Go.IntKind (i64)
set_option maxRecDepth 100000
set_option maxHeartbeats 40000000
open Go.Dw renaming Ra -> bD,Qe -> cK,Abn -> bS,Abo -> cV,ZR -> iO,ZS -> cD,AbR -> xC,XW -> xL,YX -> hE,AbS -> lP,XE -> sC,Akr -> mF,rf -> r
noncomputable section
def UI (a:Mk×Pg):List D:=[Pf a.1,Uu a.2,.clo 105 []]
def UH (ds:List D):Mk×Pg:=(Td (ds.getD 0 .top),Zs (ds.getD 1 .top))
instance:Py UI UH:=⟨λa=>by simp[UH,UI]⟩
def QG (b:(List (List Int))×Int):D:=.tup [.sl (b.1.map (eL Le)),Av b.2]
def Vo:Dw.Spec:=OY [] .val UI UH (λa=>Wz a.1 a.2) QG noE
def YH:Dw.Spec:=VV (specs []) 1 [(.t 2)] AoM
theorem Afk:OW Tryz.prog 142 YH:=Sg (Pp) Tryz.func142 (by decide) AsX AsY (by decide)
theorem Aha:OW Tryz.prog 104 Vo:=by
 refine fn2 3 (OZ (l:=[(141,Acg),(142,YH),(143,Tf),(105,Afl),(144,WA)]) (by simp[AgJ,Afk,TR,AkR,AaX])) Tryz.func104<|?_
 rintro⟨a,e⟩;unfold Wz;refine A 13 ?_;refine bD λr3 au=>?_
 refine A 10 ?_;refine cD r ?_ ?_
 ·exact B
 ·refine A 7 ?_;refine RV (E:=λ(g:Nat×Nat)=>[(2,.clo 105 []),(3,.optr 1003 g.1 0 0),(4,.optr 1004 g.2 0 0),(24,Av (a.Slots.length:Int))]) (O:=λg=>[(1003,dV g.1 3 36 (Pf a)),(1004,dV g.2 1 40 (.agg [.sl (e.Out.map (eL Le))]))]) (_,_) ((PA (λg=>bif aA 4096 g then g+20000 else g+1000) (by rfl) (hX)))<|?_
  rintro⟨y,aa⟩ nn
  try dsimp only
  refine ZP (ES:=λ(s:(List (List Bool))) (g:Nat×Nat×Nat)=>[(2,.clo 105 []),(3,.optr 3 g.1 0 0),(4,.optr 4 g.2.1 0 0),(25,.osl 4697 g.2.2 0 s.length)]) (OS:=λs g=>[(3,dV g.1 3 36 (Pf a)),(4,dV g.2.1 1 40 (.agg [.sl (e.Out.map (eL Le))])),(4697,dW g.2.2 1 42 (s.map (eR 1 4 D.bool)))]) (j:=λs=>Ta a e s) (ds:=[Av (a.Slots.length:Int)]) (caps:=[]) (E:=[(0,Av (a.Slots.length:Int))]) r r r r r r r r ?_ ?_
  ·refine Va (c:=AoM)<|?_;refine A 8 ?_;refine cK λhq=>Vz (α:=Bool) r r r hq r<|?_
   refine A 2 ?_;refine Qg (E:=[(0,Av (a.Slots.length:Int)),(3,.osl 4099 _ 0 ((aAA (a.Slots.length:Int).toNat ([]:(List Bool))).length))]) (O:=[(1003,dV y 3 36 (Pf a)),(1004,dV aa 1 40 (.agg [.sl (e.Out.map (eL Le))])),(4099,dW _ 1 42 ((aAA (a.Slots.length:Int).toNat ([]:(List Bool))).map (eR 1 4 D.bool)))]) ((AhD (g:=3) (g2:=4099) r r r (AkP (l:=aAA (a.Slots.length:Int).toNat ([]:(List Bool))) (s':=1) (ty':=4) D.bool (by decide) (λ_ h=>List.eq_of_mem_replicate h)) (hX))) λnn=>?_
   refine A 9 ?_;refine lP (E:=λ(s:(List (List Bool))×Int) (g:Nat)=>[(0,Av (a.Slots.length:Int)),(3,.osl 4099 g 0 s.1.length),(8,Av ((aAA (a.Slots.length:Int).toNat ([]:(List Bool))).length:Int)),(9,Av s.2)]) (O:=λs g=>[(1003,dV y 3 36 (Pf a)),(1004,dV aa 1 40 (.agg [.sl (e.Out.map (eL Le))])),(4099,dW g 1 42 (s.1.map (eR 1 4 D.bool)))]) (body:=λs=>SZ a e s.1 s.2) (s:=(aAA (a.Slots.length:Int).toNat ([]:(List Bool)),0)) _ ((hX))<|?_
   rintro⟨w,av⟩ aw nn
   try dsimp only
   unfold SZ;refine A 6 ?_;refine cD r ?_ ?_
   ·refine A 16 ?_;refine bD λag ah=>Agu (l:=w) (q:=ag) (q':=aAA (a.Slots.length:Int).toNat false) D.bool rfl rfl rfl rfl (.inl rfl) ah rfl rfl ⟨⟨rfl,rfl,by simp,Abf λ_=>rfl⟩,trivial,rfl⟩ (congrArg (λz=>[D.row _ _ z]) (QO _ _ rfl)) rfl<|?_
    exact B
   ·refine A 12 ?_;exact RS (d:=.osl 4099 _ 0 w.length) (s:=w) (_,_,_) r (by first|rfl|(simp[Pz,PC,rdA,raw,strip,PI,cells,PD];done)|(simp[Pz,PC,rdA,raw,strip,PI,S.ge,S.go,look,UR,cells,PD];done)) r ((Qt (E1:=[(2,.clo 105 []),(3,.optr 1003 y 0 0),(4,.optr 1004 aa 0 0),(25,.osl 4099 _ 0 w.length)]) (O1:=[(1003,dV y 3 36 (Pf a)),(1004,dV aa 1 40 (.agg [.sl (e.Out.map (eL Le))])),(4099,dW _ 1 42 (w.map (eR 1 4 D.bool)))]) (hX) (λ_=>PA (λg=>bif aA 24096 g then g-20000 else bif (aA 1000 g&&aAB g 4096)then g-1000 else bif Nat.beq g 4099 then 4697 else g) (by rfl) (hX))))
  ·rintro x4 ⟨ax,ay,az⟩ nn
   try dsimp only
   unfold Ta;refine A 13 ?_;refine lP (E:=λ(s:(List (List Bool))×Int) (g:Nat×Nat)=>[(2,.clo 105 []),(4,.optr 4 g.1 0 0),(9,.osl 4697 g.2 0 s.1.length),(27,.sl (a.Code.map Ph)),(28,Av (a.Code.length:Int)),(29,Av s.2)]) (O:=λs g=>[(4,dV g.1 1 40 (.agg [.sl (e.Out.map (eL Le))])),(4697,dW g.2 1 42 (s.1.map (eR 1 4 D.bool)))]) (body:=λs=>Vb a e s.1 s.2) (s:=(x4,0)) (_,_) ((hX))<|?_
   rintro⟨o,k⟩ ⟨ba,bb⟩ nn
   try dsimp only
   unfold Vb;refine A 6 ?_;refine cD r ?_ ?_
   ·refine A 7 ?_;refine bD λb bc=>?_
    refine A 10 ?_;refine bD λf bd=>?_
    refine A 8 ?_;refine sC (E:=λ(s:Bool×Bool) (g:Nat×Nat×Nat)=>[(2,.clo 105 []),(4,.optr 4 g.1 0 0),(9,.osl 4697 g.2.2 0 o.length),(10,Av k),(11,.optr 11 g.2.1 0 0),(12,Av f.1),(27,.sl (a.Code.map Ph)),(28,Av (a.Code.length:Int)),(29,Av k),(42,.optr 11 g.2.1 0 0),(43,Av b.Op),(44,.bool (b.Op==17)),(45,.bool s.1),(51,.bool s.2)]) (O:=λ_ g=>[(4,dV g.1 1 40 (.agg [.sl (e.Out.map (eL Le))])),(11,dV g.2.1 5 63 (Ph b)),(4697,dW g.2.2 1 42 (o.map (eR 1 4 D.bool)))]) (j:=λs=>Rb e k f b o s.1 s.2) ?_ ?_
    ·refine A 5 ?_;refine Pj r ?_ ?_
     ·refine A 22 ?_;exact xL (s:=(o,i64.wrap (k+1))) (_,_) ((hX))
     ·refine A 4 ?_;refine Pj r ?_ ?_
      ·refine A 9 ?_;refine cD r ?_ ?_
       ·refine A 8 ?_;exact xL (s:=(o,i64.wrap (k+1))) (_,_) ((hX))
       ·refine A 1 ?_;exact xC (s:=(true,(b.A==b.B))) (_,_,_) ((hX))
      ·refine A 11 ?_;exact xC (s:=(false,false)) (_,_,_) ((hX))
    ·rintro⟨x9,ac⟩ ⟨bf,bg,bh⟩ nn
     try dsimp only
     unfold Rb;refine A 5 ?_;refine bD λp bi=>?_
     refine A 7 ?_;refine lP (E:=λ(s:(List (List Bool))×Int) (g:Nat×Nat×Nat)=>[(2,.clo 105 []),(4,.optr 4 g.1 0 0),(9,.osl 4697 g.2.2 0 s.1.length),(11,.optr 11 g.2.1 0 0),(12,Av f.1),(27,.sl (a.Code.map Ph)),(28,Av (a.Code.length:Int)),(29,Av k),(42,.optr 11 g.2.1 0 0),(43,Av b.Op),(44,.bool (b.Op==17)),(45,.bool x9),(51,.bool ac),(57,.sl (p.map Le)),(58,Av (p.length:Int)),(59,Av s.2)]) (O:=λs g=>[(4,dV g.1 1 40 (.agg [.sl (e.Out.map (eL Le))])),(11,dV g.2.1 5 63 (Ph b)),(4697,dW g.2.2 1 42 (s.1.map (eR 1 4 D.bool)))]) (body:=λs=>Vc p f b k s.1 s.2) (s:=(o,0)) (_,_,_) ((hX))<|?_
     rintro⟨m,x⟩ ⟨bj,bk,bl⟩ nn
     try dsimp only
     unfold Vc;refine A 6 ?_;refine cD r ?_ ?_
     ·refine A 6 ?_;refine bD λt bm=>?_
      refine A 5 ?_;refine sC (E:=λ(s:Bool) (g:Nat×Nat×Nat)=>[(2,.clo 105 []),(4,.optr 4 g.1 0 0),(9,.osl 4697 g.2.2 0 m.length),(11,.optr 11 g.2.1 0 0),(12,Av f.1),(15,Av t),(27,.sl (a.Code.map Ph)),(28,Av (a.Code.length:Int)),(29,Av k),(42,.optr 11 g.2.1 0 0),(43,Av b.Op),(44,.bool (b.Op==17)),(45,.bool x9),(51,.bool ac),(57,.sl (p.map Le)),(58,Av (p.length:Int)),(59,Av x),(72,.bool s)]) (O:=λ_ g=>[(4,dV g.1 1 40 (.agg [.sl (e.Out.map (eL Le))])),(11,dV g.2.1 5 63 (Ph b)),(4697,dW g.2.2 1 42 (m.map (eR 1 4 D.bool)))]) (j:=λs=>Qo m f t x s) ?_ ?_
      ·refine A 5 ?_;refine Pj r ?_ ?_
       ·refine A 3 ?_;refine bD λaj bn=>?_
        refine A 4 ?_;exact xC (s:=(!aj)) (_,_,_) ((hX))
       ·refine A 7 ?_;exact xC (s:=false) (_,_,_) ((hX))
      ·rintro bo ⟨bp,bq,br⟩ nn
       try dsimp only
       unfold Qo;refine cD r ?_ ?_
       ·refine Ang λu ad=>Ang λv ae=>Avn λaf=>Apn (E:=[(2,.clo 105 []),(4,.optr 4 _ 0 0),(9,.osl 4697 _ 0 m.length),(11,.optr 11 _ 0 0),(12,Av f.1),(15,Av t),(27,.sl (a.Code.map Ph)),(28,Av (a.Code.length:Int)),(29,Av k),(42,.optr 11 _ 0 0),(43,Av b.Op),(44,.bool (b.Op==17)),(45,.bool x9),(51,.bool ac),(57,.sl (p.map Le)),(58,Av (p.length:Int)),(59,Av x)]) (O:=[(4,dV _ 1 40 (.agg [.sl (e.Out.map (eL Le))])),(11,dV _ 5 63 (Ph b)),(4697,dW _ 1 42 (((m.map (eR 1 4 D.bool)).set f.1.toNat (.hole 4717 _ u.length)).set t.toNat (.hole 4718 _ v.length))),(4717,dW _ 1 4 (u.map D.bool)),(4718,dW _ 1 4 (v.map D.bool))]) (Aqb (g:=4697) (i:=f.1.toNat) (j:=t.toNat) (t1:=621) (t2:=622) D.bool r ad ae af (hX)) λnn=>?_
        refine A 2 ?_;refine cK λhq=>ZQ (by simp) r r r r (by simpa using hq)<|Agt (nm:=4717) (q:=u.length) r r r (Atc ad af)<|?_
        refine A 3 ?_;refine cK λhq=>ZQ (by simp) r r r r (by simpa using hq)<|Agt (nm:=4718) (q:=v.length) r r r (Atd ae)<|?_
        refine A 2 ?_;refine bD λak ao=>Adj (l:=u) (en:=D.bool) (q:=ak) (q':=true) r r r r r ao r (λ_=>r) r r r ⟨trivial,trivial,r⟩<|?_
        refine A 1 ?_;refine bD λap aq=>Adj (l:=v) (en:=D.bool) (q:=ap) (q':=true) r r r r r aq r (λ_=>r) r r r ⟨trivial,trivial,r⟩<|?_
        refine A 2 ?_;refine Qg (E:=[(2,.clo 105 []),(4,.optr 4 _ 0 0),(9,.osl 4697 _ 0 m.length),(11,.optr 11 _ 0 0),(12,Av f.1),(27,.sl (a.Code.map Ph)),(28,Av (a.Code.length:Int)),(29,Av k),(42,.optr 11 _ 0 0),(43,Av b.Op),(44,.bool (b.Op==17)),(45,.bool x9),(51,.bool ac),(57,.sl (p.map Le)),(58,Av (p.length:Int)),(59,Av x)]) (O:=[(4,dV _ 1 40 (.agg [.sl (e.Out.map (eL Le))])),(11,dV _ 5 63 (Ph b)),(4697,dW _ 1 42 (((m.set f.1.toNat (u.set t.toNat true)).set t.toNat (v.set f.1.toNat true)).map (eR 1 4 D.bool)))]) ((AoT (g:=4697) (g1:=4717) (g2:=4718) (l:=m) (en:=D.bool) (i:=f.1.toNat) (j:=t.toNat) (q1:=u) (q2:=v) (q1':=u.set t.toNat true) (q2':=v.set f.1.toNat true) ad ae af r r r (by simp) (by simp) (λ_=>r) (hE ⟨rfl,r,(QV (q:=m.length) r (by simp)),r,r,r,r,r,r,r,r,r,r,r,r,r,trivial⟩ ⟨rfl,r,r,trivial⟩))) λnn=>?_
        exact B
       ·refine A 7 ?_;exact xL (s:=(m,i64.wrap (x+1))) (_,_,_) ((hX))
     ·refine A 10 ?_;exact xL (s:=(m,i64.wrap (k+1))) (_,_) ((hX))
   ·refine A 4 ?_;refine Qg (E:=[(9,.osl 4697 _ 0 o.length)]) (O:=[(4697,dW _ 1 42 (o.map (eL D.bool)))]) ((Aeb (g:=4697) r (AkQ (l:=o) D.bool (λ_=>r)) (hX))) λnn=>?_
    exact B

def Ahu:Dw.Spec:=OY [] .val PQ PO (λa=>Xj a.1 a.2) QG noE
theorem Amu:OW Tryz.prog 61 Ahu:=by
 refine fn2 2 (OZ (l:=[(434280,Vo)]) (by simp[Aha])) Tryz.func61<|?_
 rintro⟨a,b⟩;unfold Xj;refine A 12 ?_;refine bD λd c=>cV (a,b) rfl rfl (show _=some Vo from by kernel_rfl) Py.ok rfl rfl (by simp) r c<|?_
 exact B

def AgC:Dw.Spec:=OY [] (.row 1 3) PU PT (λa=>Ado a) PK noE
theorem AlN:OW Tryz.prog 106 AgC:=by
 refine fn2 1 (Pp) Tryz.func106<|?_;intro a;unfold Ado;refine A 21 ?_;refine lP (E:=λ(s:(List Int)×Int) (g:Nat)=>[(3,.osl 3 g 0 s.1.length),(8,Av ((aAA a.toNat (0:Int)).length:Int)),(9,Av s.2)]) (O:=λs g=>[(3,dW g 1 3 (s.1.map Le))]) (body:=λs=>Aaa a s.1 s.2) (s:=(aAA a.toNat (0:Int),0)) _ ((hX))<|?_
 rintro⟨b,c⟩ d nn
 try dsimp only
 unfold Aaa;exact B

def SA (a:(List Po)×Po):List D:=[.sl (a.1.map PF),PF a.2]
def Sz (ds:List D):(List Po)×Po:=((uL Aku) (ds.getD 0 .top),Aku (ds.getD 1 .top))
instance:Py SA Sz:=⟨λa=>by simp[Sz,SA,Qb (u:=Aku) (en:=PF) Avr]⟩
def ZK:Dw.Spec:=OY [] .ground SA Sz (λa=>TO a.1 a.2) Pb noE
theorem AgQ:OW Tryz.prog 188 ZK:=by
 refine fn2 2 (Pp) Tryz.func188<|?_;rintro⟨a,b⟩;unfold TO;refine A 15 ?_;refine lP (E:=λ(s:Int) (g:Nat)=>[(0,.sl (a.map PF)),(3,.optr 3 g 0 0),(7,Av (a.length:Int)),(8,Av s)]) (O:=λ_ g=>[(3,dV g 2 127 (.agg [Av b.a0,Av b.a1]))]) (body:=λs=>Ql a b s) (s:=0) _ ((hX))<|?_
 rintro c d nn
 try dsimp only
 unfold Ql;refine A 6 ?_;refine cD r ?_ ?_
 ·refine A 15 ?_;refine bD λe f=>?_
  refine A 5 ?_;refine cD r ?_ ?_
  ·exact B
  ·refine A 7 ?_;exact xL (s:=i64.wrap (c+1)) _ ((hX))
 ·exact B

def Ya:Dw.Spec:=OY [] .ground SA Sz (λa=>RB a.1 a.2) Pe noE
theorem Aff:OW Tryz.prog 145 Ya:=by
 refine fn2 2 (OZ (l:=[(188,ZK)]) (by simp[AgQ])) Tryz.func145<|?_
 intro a;unfold RB;exact B

def Ahv (b:(List Po)):D:=.sl (b.map PF)
def Ahw:Dw.Spec:=OY [] (.row 2 127) TJ TI (λa=>Xk a) Ahv noE
theorem Amv:OW Tryz.prog 107 Ahw:=by
 refine fn2 1 (OZ (l:=[(145,Ya)]) (by simp[Aff])) Tryz.func107<|?_
 intro d;unfold Xk;refine A 21 ?_;refine lP (E:=λ(s:(List Po)×Int) (g:Nat)=>[(3,.osl 3 g 0 s.1.length),(8,.sl (d.Code.map Ph)),(9,Av (d.Code.length:Int)),(10,Av s.2)]) (O:=λs g=>[(3,dW g 2 127 (s.1.map PF))]) (body:=λs=>Rf d s.1 s.2) (s:=(([]:List Po),0)) _ ((hX))<|?_
 rintro⟨a,b⟩ e nn
 try dsimp only
 unfold Rf;refine A 6 ?_;refine cD r ?_ ?_
 ·refine A 6 ?_;refine bD λc f=>?_
  refine A 23 ?_;refine Pj r ?_ ?_
  ·refine A 7 ?_;refine Pj r ?_ ?_
   ·refine A 2 ?_;refine bD λh i=>?_
    refine A 5 ?_;refine cD r ?_ ?_
    ·refine A 3 ?_;refine bS ([(Po.mk c.A c.B)]:List Po) PF r r r (by simp) r r r<|?_
     refine A 9 ?_;exact xL (s:=(a++([(Po.mk c.A c.B)]:List Po),i64.wrap (b+1))) _ ((hX))
    ·refine A 7 ?_;exact xL (s:=(a,i64.wrap (b+1))) _ ((hX))
   ·refine A 15 ?_;exact xL (s:=(a,i64.wrap (b+1))) _ ((hX))
  ·refine A 22 ?_;exact xL (s:=(a,i64.wrap (b+1))) _ ((hX))
 ·exact B

def AtD:Qi:=(Tryz.f109.body.bind (PY Tryz.prog Tryz.f109.ntmps)).getD .skip
theorem AwH:(Tryz.f109.body.bind (PY Tryz.prog Tryz.f109.ntmps))=some AtD:=by kernel_rfl
theorem AwI:Tryz.f109.results.toList.mapM (Ug Tryz.prog)=some [(.t 8)]:=by kernel_rfl

def AqP:Qi:=(Tryz.f146.body.bind (PY Tryz.prog Tryz.f146.ntmps)).getD .skip
theorem AwL:(Tryz.f146.body.bind (PY Tryz.prog Tryz.f146.ntmps))=some AqP:=by kernel_rfl
theorem AwM:Tryz.f146.results.toList.mapM (Ug Tryz.prog)=some [(.t 4)]:=by kernel_rfl

def AtF:Qi:=(Tryz.f147.body.bind (PY Tryz.prog Tryz.f147.ntmps)).getD .skip
theorem AwN:(Tryz.f147.body.bind (PY Tryz.prog Tryz.f147.ntmps))=some AtF:=by kernel_rfl
theorem AwO:Tryz.f147.results.toList.mapM (Ug Tryz.prog)=some [(.t 4)]:=by kernel_rfl

def AtJ:Qi:=(Tryz.f189.body.bind (PY Tryz.prog Tryz.f189.ntmps)).getD .skip
theorem AwV:(Tryz.f189.body.bind (PY Tryz.prog Tryz.f189.ntmps))=some AtJ:=by kernel_rfl
theorem AwW:Tryz.f189.results.toList.mapM (Ug Tryz.prog)=some [(.t 4)]:=by kernel_rfl

def AtG:Qi:=(Tryz.f148.body.bind (PY Tryz.prog Tryz.f148.ntmps)).getD .skip
theorem AwP:(Tryz.f148.body.bind (PY Tryz.prog Tryz.f148.ntmps))=some AtG:=by kernel_rfl
theorem AwQ:Tryz.f148.results.toList.mapM (Ug Tryz.prog)=some [(.t 3)]:=by kernel_rfl

def AtE:Qi:=(Tryz.f110.body.bind (PY Tryz.prog Tryz.f110.ntmps)).getD .skip
theorem AwJ:(Tryz.f110.body.bind (PY Tryz.prog Tryz.f110.ntmps))=some AtE:=by kernel_rfl
theorem AwK:Tryz.f110.results.toList.mapM (Ug Tryz.prog)=some []:=by kernel_rfl

def Vn (a:Mk×(List (List Int))):List D:=[Pf a.1,.sl (a.2.map (eL Le))]
def Vm (ds:List D):Mk×(List (List Int)):=(Td (ds.getD 0 .top),(uL (uL uI)) (ds.getD 1 .top))
instance:Py Vn Vm:=⟨λa=>by simp[Vm,Vn,Qb (u:=(uL uI)) (en:=(eL Le)) (Qb (u:=uI) (en:=Le) (λ_=>rfl))]⟩
def AgA:Dw.Spec:=OY [] (.row 1 3) Vn Vm (λa=>VI a.1 a.2) PK noE
def Ys:Dw.Spec:=VV (specs [(108,RE)]) 2 [(.t 4)] AqP
theorem Ajs:OW Tryz.prog 146 Ys:=Sg (OZ (l:=[(108,RE)]) (by simp[Wu])) Tryz.func146 (by decide) AwL AwM (by decide)
def Yt:Dw.Spec:=VV (specs []) 2 [(.t 3)] AtG
theorem Ajv:OW Tryz.prog 148 Yt:=Sg (Pp) Tryz.func148 (by decide) AwP AwQ (by decide)
def AdU:Dw.Spec:=VV (specs [(108,RE)]) 3 [] AtE
theorem Ajw:OW Tryz.prog 110 AdU:=Sg (OZ (l:=[(108,RE)]) (by simp[Wu])) Tryz.func110 (by decide) AwJ AwK (by decide)
def UU:Dw.Spec:=VV (specs [(148,Yt)]) 2 [(.t 4)] AtJ
theorem Aju:OW Tryz.prog 189 UU:=Sg (OZ (l:=[(148,Yt)]) (by simp[Ajv])) Tryz.func189 (by decide) AwV AwW (by decide)
def UT:Dw.Spec:=VV (specs [(610493,UU)]) 2 [(.t 4)] AtF
theorem Ajt:OW Tryz.prog 147 UT:=Sg (OZ (l:=[(610493,UU)]) (by simp[Aju])) Tryz.func147 (by decide) AwN AwO (by decide)
def AdT:Dw.Spec:=VV (specs [(146,Ys),(610451,UT)]) 4 [(.t 8)] AtD
theorem Ajr:OW Tryz.prog 109 AdT:=Sg (OZ (l:=[(146,Ys),(610451,UT)]) (by simp[Ajs,Ajt])) Tryz.func109 (by decide) AwH AwI (by decide)
theorem AlL:OW Tryz.prog 62 AgA:=by
 refine fn2 2 (OZ (l:=[(106,AgC),(107,Ahw),(108,RE),(109,AdT),(110,AdU)]) (by simp[AlN,Amv,Wu,Ajr,Ajw])) Tryz.func62<|?_
 rintro⟨f1,f⟩;unfold VI;refine A 11 ?_;refine bD λr3 bs=>?_
 refine A 8 ?_;refine bD λa bt=>?_
 refine A 6 ?_;refine lP (E:=λ(s:(List Int)×Int) (g:Nat×Nat)=>[(1,.sl (f.map (eL Le))),(5,.osl 5 g.1 0 s.1.length),(17,.osl 17 g.2 0 a.length),(18,Av (a.length:Int)),(19,Av s.2)]) (O:=λs g=>[(5,dW g.1 1 3 (s.1.map Le)),(17,dW g.2 2 127 (a.map PF))]) (body:=λs=>ZT a f s.1 s.2) (s:=(r3,0)) (_,_) ((hX))<|?_
 rintro⟨e,t⟩ ⟨bu,bv⟩ nn
 try dsimp only
 unfold ZT;refine A 6 ?_;refine cD r ?_ ?_
 ·refine A 7 ?_;refine bD λbw bx=>?_
  refine A 8 ?_;refine TT r r r (by decide)<|?_
  refine A 1 ?_;refine cK λhq=>bD λh ao=>AdP (l:=e) r r r r r r r hq (λ_ _ _=>QD) ao<|?_
  refine A 1 ?_;refine TT r r r (by decide)<|?_
  refine A 1 ?_;refine cK λhq=>bD λi aw=>AdP (l:=h.1) r r r r r (by simp[QD ao]) r hq (λ_ _ _=>QD) aw<|?_
  refine A 10 ?_;refine Pj r ?_ ?_
  ·refine A 4 ?_;refine RV (E:=λ(g:Nat×Nat)=>[(1,.sl (f.map (eL Le))),(5,.osl 1005 g.1 0 e.length),(8,Av h.2),(9,Av i.2),(17,.osl 1017 g.2 0 a.length),(18,Av (a.length:Int)),(19,Av t),(34,.bool true),(35,.osl 1005 g.1 0 e.length),(36,.sl (f.map (eL Le))),(37,Av h.2),(38,Av i.2)]) (O:=λg=>[(1005,dW g.1 1 3 (i.1.map Le)),(1017,dW g.2 2 127 (a.map PF))]) (_,_) ((PA (λg=>bif aA 4096 g then g+20000 else g+1000) (by rfl) (hE ⟨rfl,(QV (q:=e.length) r (by simp)),r,r,r,r,r,r,(QV (q:=e.length) r (by simp)),r,r,r,trivial⟩ ⟨rfl,r,trivial⟩)))<|?_
   rintro⟨b,k⟩ nn
   try dsimp only
   refine Alh (ES:=λ(s:(List Int)×Bool) (g:Nat×Nat)=>[(1,.sl (f.map (eL Le))),(5,.osl 5 g.1 0 e.length),(8,Av h.2),(9,Av i.2),(17,.osl 17 g.2 0 a.length),(18,Av (a.length:Int)),(19,Av t),(34,.bool true),(35,.osl 5 g.1 0 e.length),(36,.sl (f.map (eL Le))),(37,Av h.2),(38,Av i.2),(39,.bool s.2)]) (OS:=λs g=>[(5,dW g.1 1 3 (s.1.map Le)),(17,dW g.2 2 127 (a.map PF))]) (j:=λs=>SS e h i t s.1 s.2) (ds:=[.osl 1005 b 0 e.length,.sl (f.map (eL Le)),Av h.2,Av i.2]) (caps:=[]) (E:=[(0,.osl 1005 b 0 e.length),(1,.sl (f.map (eL Le))),(2,Av h.2),(3,Av i.2)]) r r r r r r r r ?_ ?_
   ·refine Va (c:=AtD)<|?_;refine A 7 ?_;refine Atl λnn=>?_
    refine A 9 ?_;refine RV (E:=λ(g:Nat×Nat)=>[(0,.osl 2005 b 0 e.length),(1,.sl (f.map (eL Le))),(2,Av h.2),(9,.optr 1009 g.1 0 0),(15,.osl 2005 b 0 e.length),(16,Av i.2)]) (O:=λg=>[(1009,dV g.1 1 142 (.mref 1014 g.2)),(1014,some (g.2,⟨true,false,0,0,([]:List (Int×Bool)).map (Qj D.bool)⟩)),(2005,dW b 1 3 (i.1.map Le)),(2017,dW k 2 127 (a.map PF))]) (_,_) ((PA (λg=>bif aA 4096 g then g+20000 else g+1000) (by rfl) (hE ⟨(QV (q:=e.length) r (by simp)),r,r,r,(QV (q:=e.length) r (by simp)),r,trivial⟩ ⟨rfl,r,r,r,trivial⟩)))<|?_
    rintro⟨ax,ap⟩ nn
    try dsimp only
    refine Alh (ES:=λ(s:(List Int)×(List Int)) (g:Nat×Nat×Nat)=>[(0,.osl 1005 b 0 e.length),(1,.sl (f.map (eL Le))),(2,Av h.2),(9,.optr 9 g.1 0 0),(17,.osl 621 g.2.2 0 s.2.length)]) (OS:=λs g=>[(9,dV g.1 1 142 (.mref 14 g.2.1)),(14,some (g.2.1,⟨true,false,0,0,([]:List (Int×Bool)).map (Qj D.bool)⟩)),(621,dW g.2.2 1 3 (s.2.map Le)),(1005,dW b 1 3 (s.1.map Le)),(1017,dW k 2 127 (a.map PF))]) (j:=λs=>ZX e h f i t s.1 s.2) (ds:=[.osl 2005 b 0 e.length,Av i.2]) (caps:=[]) (E:=[(0,.osl 2005 b 0 e.length),(1,Av i.2)]) r r r r r r r r ?_ ?_
    ·refine Va (c:=AqP)<|?_;refine A 19 ?_;refine lP (E:=λ(s:(List Int)×(List Int)×Int) (g:Nat)=>[(0,.osl 2005 b 0 s.1.length),(1,Av i.2),(5,.osl 5 g 0 s.2.1.length),(8,Av (e.length:Int)),(9,Av s.2.2)]) (O:=λs g=>[(5,dW g 1 3 (s.2.1.map Le)),(1009,dV ax 1 142 (.mref 1014 ap)),(1014,some (ap,⟨true,false,0,0,([]:List (Int×Bool)).map (Qj D.bool)⟩)),(2005,dW b 1 3 (s.1.map Le)),(2017,dW k 2 127 (a.map PF))]) (body:=λs=>Vl e i h f t s.1 s.2.1 s.2.2) (s:=(i.1,([]:List Int),0)) _ ((hE ⟨(QV (q:=e.length) r (by simp[QD aw,QD ao])),r,r,r,r,trivial⟩ ⟨rfl,r,r,r,r,trivial⟩))<|?_
     rintro⟨ai,ad,ay⟩ bz nn
     try dsimp only
     unfold Vl;refine A 6 ?_;refine cD r ?_ ?_
     ·refine A 14 ?_;refine cK λhq=>bD λbg az=>AdP (l:=ai) r r r r r r r hq (λ_ _ _=>QD) az<|?_
      refine A 4 ?_;refine cD r ?_ ?_
      ·refine A 13 ?_;exact xL (s:=(bg.1,ad++([ay]:List Int),i64.wrap (ay+1))) _ ((hE ⟨(QV (q:=ai.length) r (by simp[QD az])),r,r,r,r,trivial⟩ ⟨rfl,r,r,r,r,trivial⟩))
      ·refine A 7 ?_;exact xL (s:=(bg.1,ad,i64.wrap (ay+1))) _ ((hE ⟨(QV (q:=ai.length) r (by simp[QD az])),r,r,r,r,trivial⟩ ⟨rfl,r,r,r,r,trivial⟩))
     ·refine A 12 ?_;exact RS (d:=.osl 4 _ 0 ad.length) (s:=(ai,ad)) (_,_,_) r (by first|rfl|(simp[Pz,PC,rdA,raw,strip,PI,cells,PD];done)|(simp[Pz,PC,rdA,raw,strip,PI,S.ge,S.go,look,UR,cells,PD];done)) r ((Qt (E1:=[(0,.osl 2005 b 0 e.length),(1,.sl (f.map (eL Le))),(2,Av h.2),(9,.optr 1009 ax 0 0),(17,.osl 4 _ 0 ad.length)]) (O1:=[(4,dW _ 1 3 (ad.map Le)),(1009,dV ax 1 142 (.mref 1014 ap)),(1014,some (ap,⟨true,false,0,0,([]:List (Int×Bool)).map (Qj D.bool)⟩)),(2005,dW b 1 3 (ai.map Le)),(2017,dW k 2 127 (a.map PF))]) (hX) (λ_=>PA (λg=>bif aA 24096 g then g-20000 else bif (aA 1000 g&&aAB g 4096)then g-1000 else bif Nat.beq g 4 then 621 else g) (by rfl) (hX))))
    ·rintro⟨y,ae⟩ ⟨ca,cb,cc⟩ nn
     try dsimp only
     unfold ZX;refine AhN λaq=>AhO (E:=λ(g:Nat×Nat×Nat)=>[(0,.osl 1005 b 0 y.length),(1,.sl (f.map (eL Le))),(2,Av h.2),(9,.optr 9 g.1 0 0),(17,.osl 621 g.2.2 0 ae.length)]) (O:=λg=>[(9,dV g.1 1 142 (.mref 14 g.2.1)),(14,some (g.2.1,⟨true,false,0,0,([]:List (Int×Bool)).map (Qj D.bool)⟩)),(621,dW g.2.2 1 3 (ae.map Le)),(1005,dW b 1 3 (y.map Le)),(1017,dW k 2 127 (a.map PF))]) (_,_,_) (hE ⟨(QV (q:=e.length) r aq),r,r,r,r,trivial⟩ ⟨rfl,r,r,r,r,trivial⟩)<|?_
     rintro⟨cd,ce,cf⟩ nn
     try dsimp only
     refine A 5 ?_;refine lP (E:=λ(s:(List (Int×Bool))×Int) (g:Nat×Nat×Nat)=>[(0,.osl 1005 b 0 y.length),(1,.sl (f.map (eL Le))),(2,Av h.2),(9,.optr 9 g.1 0 0),(17,.osl 621 g.2.2 0 ae.length),(18,Av (ae.length:Int)),(19,Av s.2)]) (O:=λs g=>[(9,dV g.1 1 142 (.mref 14 g.2.1)),(14,some (g.2.1,⟨true,false,0,0,s.1.map (Qj D.bool)⟩)),(621,dW g.2.2 1 3 (ae.map Le)),(1005,dW b 1 3 (y.map Le)),(1017,dW k 2 127 (a.map PF))]) (body:=λs=>ZU ae y h f e i t s.1 s.2) (s:=(([]:List (Int×Bool)),0)) (_,_,_) ((hX))<|?_
     rintro⟨m,bn⟩ ⟨cg,ch,ci⟩ nn
     try dsimp only
     unfold ZU;refine A 6 ?_;refine cD r ?_ ?_
     ·refine A 7 ?_;refine bD λbo cj=>?_
      refine A 7 ?_;refine AoA (en:=D.bool) (l:=m) r r r true r r r r<|?_;refine A 7 ?_;exact xL (s:=(RT bo true m,i64.wrap (bn+1))) (_,_,_) ((hX))
     ·refine A 10 ?_;refine RV (E:=λ(g:Nat×Nat)=>[(1,.sl (f.map (eL Le))),(9,.optr 1009 g.1 0 0),(26,.osl 2005 b 0 y.length),(27,Av h.2)]) (O:=λg=>[(1009,dV g.1 1 142 (.mref 1014 g.2)),(1014,some (g.2,⟨true,false,0,0,m.map (Qj D.bool)⟩)),(2005,dW b 1 3 (y.map Le)),(2017,dW k 2 127 (a.map PF))]) (_,_) ((PA (λg=>bif aA 4096 g then g+20000 else g+1000) (by rfl) (hX)))<|?_
      rintro⟨ba,ar⟩ nn
      try dsimp only
      refine ZP (ES:=λ(s:(List Int)×(List Int)) (g:Nat×Nat×Nat)=>[(1,.sl (f.map (eL Le))),(9,.optr 9 g.1 0 0),(28,.osl 641 g.2.2 0 s.2.length)]) (OS:=λs g=>[(9,dV g.1 1 142 (.mref 14 g.2.1)),(14,some (g.2.1,⟨true,false,0,0,m.map (Qj D.bool)⟩)),(641,dW g.2.2 1 3 (s.2.map Le)),(1005,dW b 1 3 (s.1.map Le)),(1017,dW k 2 127 (a.map PF))]) (j:=λs=>ZY f m e h i t s.1 s.2) (ds:=[.osl 2005 b 0 y.length,Av h.2]) (caps:=[]) (E:=[(0,.osl 2005 b 0 y.length),(1,Av h.2)]) r r r r r r r r ?_ ?_
      ·refine Va (c:=AqP)<|?_;refine A 19 ?_;refine lP (E:=λ(s:(List Int)×(List Int)×Int) (g:Nat)=>[(0,.osl 2005 b 0 s.1.length),(1,Av h.2),(5,.osl 5 g 0 s.2.1.length),(8,Av (y.length:Int)),(9,Av s.2.2)]) (O:=λs g=>[(5,dW g 1 3 (s.2.1.map Le)),(1009,dV ba 1 142 (.mref 1014 ar)),(1014,some (ar,⟨true,false,0,0,m.map (Qj D.bool)⟩)),(2005,dW b 1 3 (s.1.map Le)),(2017,dW k 2 127 (a.map PF))]) (body:=λs=>ZW y h f m e i t s.1 s.2.1 s.2.2) (s:=(y,([]:List Int),0)) _ ((hX))<|?_
       rintro⟨aj,af,bb⟩ ck nn
       try dsimp only
       unfold ZW;refine A 6 ?_;refine cD r ?_ ?_
       ·refine A 14 ?_;refine cK λhq=>bD λbh bc=>AdP (l:=aj) r r r r r r r hq (λ_ _ _=>QD) bc<|?_
        refine A 4 ?_;refine cD r ?_ ?_
        ·refine A 13 ?_;exact xL (s:=(bh.1,af++([bb]:List Int),i64.wrap (bb+1))) _ ((hE ⟨(QV (q:=aj.length) r (by simp[QD bc])),r,r,r,r,trivial⟩ ⟨rfl,r,r,r,r,trivial⟩))
        ·refine A 7 ?_;exact xL (s:=(bh.1,af,i64.wrap (bb+1))) _ ((hE ⟨(QV (q:=aj.length) r (by simp[QD bc])),r,r,r,r,trivial⟩ ⟨rfl,r,r,r,r,trivial⟩))
       ·refine A 12 ?_;exact RS (d:=.osl 4 _ 0 af.length) (s:=(aj,af)) (_,_,_) r (by first|rfl|(simp[Pz,PC,rdA,raw,strip,PI,cells,PD];done)|(simp[Pz,PC,rdA,raw,strip,PI,S.ge,S.go,look,UR,cells,PD];done)) r ((Qt (E1:=[(1,.sl (f.map (eL Le))),(9,.optr 1009 ba 0 0),(28,.osl 4 _ 0 af.length)]) (O1:=[(4,dW _ 1 3 (af.map Le)),(1009,dV ba 1 142 (.mref 1014 ar)),(1014,some (ar,⟨true,false,0,0,m.map (Qj D.bool)⟩)),(2005,dW b 1 3 (aj.map Le)),(2017,dW k 2 127 (a.map PF))]) (hX) (λ_=>PA (λg=>bif aA 24096 g then g-20000 else bif (aA 1000 g&&aAB g 4096)then g-1000 else bif Nat.beq g 4 then 641 else g) (by rfl) (hX))))
      ·rintro⟨v,p⟩ ⟨cl,cm,cn⟩ nn
       try dsimp only
       unfold ZY;refine A 5 ?_;refine lP (E:=λ(s:Int) (g:Nat×Nat×Nat)=>[(1,.sl (f.map (eL Le))),(9,.optr 9 g.1 0 0),(28,.osl 641 g.2.2 0 p.length),(29,Av (p.length:Int)),(30,Av s)]) (O:=λ_ g=>[(9,dV g.1 1 142 (.mref 14 g.2.1)),(14,some (g.2.1,⟨true,false,0,0,m.map (Qj D.bool)⟩)),(641,dW g.2.2 1 3 (p.map Le)),(1005,dW b 1 3 (v.map Le)),(1017,dW k 2 127 (a.map PF))]) (body:=λs=>Wc p f m e h i t v s) (s:=0) (_,_,_) ((hX))<|?_
       rintro ag ⟨co,cp,cq⟩ nn
       try dsimp only
       unfold Wc;refine A 6 ?_;refine cD r ?_ ?_
       ·refine A 7 ?_;refine bD λcr cs=>?_
        refine A 8 ?_;refine bD λx ct=>?_
        refine A 2 ?_;refine mF (caps:=[.optr 9 _ 0 0]) r r (by simp[VF])<|RV (E:=λ(g:Nat×Nat×Nat)=>[(1,.sl (f.map (eL Le))),(9,.optr 1009 g.1 0 0),(28,.osl 1641 g.2.2 0 p.length),(29,Av (p.length:Int)),(30,Av ag),(37,.sl (x.map Le)),(38,.clo 148 [.optr 1009 g.1 0 0])]) (O:=λg=>[(1009,dV g.1 1 142 (.mref 1014 g.2.1)),(1014,some (g.2.1,⟨true,false,0,0,m.map (Qj D.bool)⟩)),(1641,dW g.2.2 1 3 (p.map Le)),(2005,dW b 1 3 (v.map Le)),(2017,dW k 2 127 (a.map PF))]) (_,_,_) ((PA (λg=>bif aA 4096 g then g+20000 else g+1000) (by rfl) (hX)))<|?_
        rintro⟨o,w,z⟩ nn
        try dsimp only
        refine Agg (ds:=[.sl (x.map Le),.clo 148 [.optr 1009 o 0 0]]) (caps:=[]) (E:=[(0,.sl (x.map Le)),(1,.clo 148 [.optr 1009 o 0 0])]) rfl rfl rfl rfl rfl (show _=some UT from by kernel_rfl) rfl rfl<|Va (c:=AtF)<|?_
        refine A 9 ?_;refine RV (E:=λ(g:Unit)=>[(5,.sl (x.map Le)),(6,.clo 148 [.optr 2009 o 0 0])]) (O:=λg=>[(2009,dV o 1 142 (.mref 2014 w)),(2014,some (w,⟨true,false,0,0,m.map (Qj D.bool)⟩)),(2641,dW z 1 3 (p.map Le)),(3005,dW b 1 3 (v.map Le)),(3017,dW k 2 127 (a.map PF))]) () ((PA (λg=>bif aA 4096 g then g+20000 else g+1000) (by rfl) (hX)))<|?_
        rintro⟨⟩ nn
        try dsimp only
        refine ZP (ES:=λ(s:Int) (_g:Unit)=>[(7,Av s)]) (OS:=λ_ _=>[(1009,dV o 1 142 (.mref 1014 w)),(1014,some (w,⟨true,false,0,0,m.map (Qj D.bool)⟩)),(1641,dW z 1 3 (p.map Le)),(2005,dW b 1 3 (v.map Le)),(2017,dW k 2 127 (a.map PF))]) (j:=λs=>SU e h i t v ag s) (ds:=[.sl (x.map Le),.clo 148 [.optr 2009 o 0 0]]) (caps:=[]) (E:=[(0,.sl (x.map Le)),(1,.clo 148 [.optr 2009 o 0 0])]) rfl rfl rfl rfl rfl (show _=some UU from by kernel_rfl) rfl rfl ?_ ?_
        ·refine Va (c:=AtJ)<|?_;refine A 14 ?_;refine lP (E:=λ(s:Int) (_g:Unit)=>[(0,.sl (x.map Le)),(1,.clo 148 [.optr 2009 o 0 0]),(7,Av (x.length:Int)),(8,Av s)]) (O:=λ_ _=>[(2009,dV o 1 142 (.mref 2014 w)),(2014,some (w,⟨true,false,0,0,m.map (Qj D.bool)⟩)),(2641,dW z 1 3 (p.map Le)),(3005,dW b 1 3 (v.map Le)),(3017,dW k 2 127 (a.map PF))]) (body:=λs=>ZV x m e h i t v ag s) (s:=0) () ((hX))<|?_
         rintro aa ⟨⟩ nn
         try dsimp only
         unfold ZV;refine A 6 ?_;refine cD r ?_ ?_
         ·refine A 15 ?_;refine bD λah cu=>?_
          refine A 2 ?_;refine RV (E:=λ(g:Unit)=>[(0,.sl (x.map Le)),(1,.clo 148 [.optr 3009 o 0 0]),(5,Av aa),(7,Av (x.length:Int)),(8,Av aa),(11,.clo 148 [.optr 3009 o 0 0]),(15,Av ah)]) (O:=λg=>[(3009,dV o 1 142 (.mref 3014 w)),(3014,some (w,⟨true,false,0,0,m.map (Qj D.bool)⟩)),(3641,dW z 1 3 (p.map Le)),(4005,dW b 1 3 (v.map Le)),(4017,dW k 2 127 (a.map PF))]) () ((PA (λg=>bif aA 4096 g then g+20000 else g+1000) (by rfl) (hX)))<|?_
          rintro⟨⟩ nn
          try dsimp only
          refine Agg (ds:=[Av ah]) (caps:=[.optr 3009 o 0 0]) (E:=[(0,Av ah),(1,.optr 3009 o 0 0)]) r r r r r r r r<|Va (c:=AtG)<|?_;refine A 9 ?_;refine Aoz (en:=D.bool) (l:=m) r r r r false r<|?_;refine A 4 ?_;refine Anf (d:=.bool (QL false ah m)) (E:=[(0,.sl (x.map Le)),(1,.clo 148 [.optr 2009 o 0 0]),(5,Av aa),(7,Av (x.length:Int)),(8,Av aa),(16,.bool (QL false ah m))]) (O:=[(2009,dV o 1 142 (.mref 2014 w)),(2014,some (w,⟨true,false,0,0,m.map (Qj D.bool)⟩)),(2641,dW z 1 3 (p.map Le)),(3005,dW b 1 3 (v.map Le)),(3017,dW k 2 127 (a.map PF))]) r (by first|rfl|(simp[Pz,PC,rdA,raw,strip,PI,cells,PD];done)|(simp[Pz,PC,rdA,raw,strip,PI,S.ge,S.go,look,UR,cells,PD];done)) r ((Qt (E1:=[(0,.sl (x.map Le)),(1,.clo 148 [.optr 3009 o 0 0]),(5,Av aa),(7,Av (x.length:Int)),(8,Av aa),(16,.bool (QL false ah m))]) (O1:=[(3009,dV o 1 142 (.mref 3014 w)),(3014,some (w,⟨true,false,0,0,m.map (Qj D.bool)⟩)),(3641,dW z 1 3 (p.map Le)),(4005,dW b 1 3 (v.map Le)),(4017,dW k 2 127 (a.map PF))]) (hX) (λ_=>PA (λg=>bif aA 24096 g then g-20000 else bif (aA 1000 g&&aAB g 4096)then g-1000 else g) (by rfl) (hX)))) λnn=>?_
          refine A 2 ?_;refine cD r ?_ ?_
          ·refine A 12 ?_;exact RS (d:=Av aa) (s:=aa) () r (by first|rfl|(simp[Pz,PC,rdA,raw,strip,PI,cells,PD];done)|(simp[Pz,PC,rdA,raw,strip,PI,S.ge,S.go,look,UR,cells,PD];done)) r ((Qt (E1:=[(7,Av aa)]) (O1:=[(2009,dV o 1 142 (.mref 2014 w)),(2014,some (w,⟨true,false,0,0,m.map (Qj D.bool)⟩)),(2641,dW z 1 3 (p.map Le)),(3005,dW b 1 3 (v.map Le)),(3017,dW k 2 127 (a.map PF))]) (hX) (λ_=>PA (λg=>bif aA 24096 g then g-20000 else bif (aA 1000 g&&aAB g 4096)then g-1000 else g) (by rfl) (hX))))
          ·refine A 7 ?_;exact xL (s:=i64.wrap (aa+1)) () ((hX))
         ·refine A 11 ?_;exact RS (d:=Av (-1)) (s:=(-1)) () r (by first|rfl|(simp[Pz,PC,rdA,raw,strip,PI,cells,PD];done)|(simp[Pz,PC,rdA,raw,strip,PI,S.ge,S.go,look,UR,cells,PD];done)) r ((Qt (E1:=[(7,Av (-1))]) (O1:=[(2009,dV o 1 142 (.mref 2014 w)),(2014,some (w,⟨true,false,0,0,m.map (Qj D.bool)⟩)),(2641,dW z 1 3 (p.map Le)),(3005,dW b 1 3 (v.map Le)),(3017,dW k 2 127 (a.map PF))]) (hX) (λ_=>PA (λg=>bif aA 24096 g then g-20000 else bif (aA 1000 g&&aAB g 4096)then g-1000 else g) (by rfl) (hX))))
        ·rintro bd ⟨⟩ nn
         try dsimp only
         unfold SU;refine A 5 ?_;refine Anf (d:=.bool (decide (bd>=0))) (E:=[(1,.sl (f.map (eL Le))),(9,.optr 9 _ 0 0),(28,.osl 641 _ 0 p.length),(29,Av (p.length:Int)),(30,Av ag),(39,.bool (decide (bd>=0)))]) (O:=[(9,dV _ 1 142 (.mref 14 _)),(14,some (_,⟨true,false,0,0,m.map (Qj D.bool)⟩)),(641,dW _ 1 3 (p.map Le)),(1005,dW b 1 3 (v.map Le)),(1017,dW k 2 127 (a.map PF))]) r (by first|rfl|(simp[Pz,PC,rdA,raw,strip,PI,cells,PD];done)|(simp[Pz,PC,rdA,raw,strip,PI,S.ge,S.go,look,UR,cells,PD];done)) r ((Qt (E1:=[(1,.sl (f.map (eL Le))),(9,.optr 1009 o 0 0),(28,.osl 1641 z 0 p.length),(29,Av (p.length:Int)),(30,Av ag),(39,.bool (decide (bd>=0)))]) (O1:=[(1009,dV o 1 142 (.mref 1014 w)),(1014,some (w,⟨true,false,0,0,m.map (Qj D.bool)⟩)),(1641,dW z 1 3 (p.map Le)),(2005,dW b 1 3 (v.map Le)),(2017,dW k 2 127 (a.map PF))]) (hX) (λ_=>PA (λg=>bif aA 24096 g then g-20000 else bif (aA 1000 g&&aAB g 4096)then g-1000 else g) (by rfl) (hX)))) λnn=>?_
         refine A 2 ?_;refine cD r ?_ ?_
         ·refine A 11 ?_;exact RS (d:=.bool false) (s:=(v,false)) (_,_) r (by first|rfl|(simp[Pz,PC,rdA,raw,strip,PI,cells,PD];done)|(simp[Pz,PC,rdA,raw,strip,PI,S.ge,S.go,look,UR,cells,PD];done)) r ((Qt (E1:=[(1,.sl (f.map (eL Le))),(5,.osl 1005 b 0 e.length),(8,Av h.2),(9,Av i.2),(17,.osl 1017 k 0 a.length),(18,Av (a.length:Int)),(19,Av t),(34,.bool true),(35,.osl 1005 b 0 e.length),(36,.sl (f.map (eL Le))),(37,Av h.2),(38,Av i.2),(39,.bool false)]) (O1:=[(1005,dW b 1 3 (v.map Le)),(1017,dW k 2 127 (a.map PF))]) (hX) (λ_=>PA (λg=>bif aA 24096 g then g-20000 else bif (aA 1000 g&&aAB g 4096)then g-1000 else g) (by rfl) (hX))))
         ·refine A 7 ?_;exact xL (s:=i64.wrap (ag+1)) (_,_,_) ((hX))
       ·refine A 11 ?_;exact RS (d:=.bool true) (s:=(v,true)) (_,_) r (by first|rfl|(simp[Pz,PC,rdA,raw,strip,PI,cells,PD];done)|(simp[Pz,PC,rdA,raw,strip,PI,S.ge,S.go,look,UR,cells,PD];done)) r ((Qt (E1:=[(1,.sl (f.map (eL Le))),(5,.osl 1005 b 0 e.length),(8,Av h.2),(9,Av i.2),(17,.osl 1017 k 0 a.length),(18,Av (a.length:Int)),(19,Av t),(34,.bool true),(35,.osl 1005 b 0 e.length),(36,.sl (f.map (eL Le))),(37,Av h.2),(38,Av i.2),(39,.bool true)]) (O1:=[(1005,dW b 1 3 (v.map Le)),(1017,dW k 2 127 (a.map PF))]) (hX) (λ_=>PA (λg=>bif aA 24096 g then g-20000 else bif (aA 1000 g&&aAB g 4096)then g-1000 else g) (by rfl) (hX))))
   ·rintro⟨u,au⟩ ⟨cv,cw⟩ nn
    try dsimp only
    unfold SS;refine AhN λaq=>AhO (E:=λ(g:Nat×Nat)=>[(1,.sl (f.map (eL Le))),(5,.osl 5 g.1 0 u.length),(8,Av h.2),(9,Av i.2),(17,.osl 17 g.2 0 a.length),(18,Av (a.length:Int)),(19,Av t),(34,.bool true),(35,.osl 5 g.1 0 u.length),(36,.sl (f.map (eL Le))),(37,Av h.2),(38,Av i.2),(39,.bool au)]) (O:=λg=>[(5,dW g.1 1 3 (u.map Le)),(17,dW g.2 2 127 (a.map PF))]) (_,_) (hE ⟨rfl,(QV (q:=e.length) r aq),r,r,r,r,r,r,(QV (q:=e.length) r aq),r,r,r,r,trivial⟩ ⟨rfl,r,trivial⟩)<|?_
    rintro⟨cx,cy⟩ nn
    try dsimp only
    refine A 3 ?_;refine cD r ?_ ?_
    ·refine A 4 ?_;refine RV (E:=λ(g:Nat×Nat)=>[(1,.sl (f.map (eL Le))),(5,.osl 1005 g.1 0 u.length),(17,.osl 1017 g.2 0 a.length),(18,Av (a.length:Int)),(19,Av t),(35,.osl 1005 g.1 0 u.length),(36,.sl (f.map (eL Le))),(37,Av h.2),(38,Av i.2),(39,.bool au),(41,.osl 1005 g.1 0 u.length),(42,Av h.2),(43,Av i.2)]) (O:=λg=>[(1005,dW g.1 1 3 (u.map Le)),(1017,dW g.2 2 127 (a.map PF))]) (_,_) ((PA (λg=>bif aA 4096 g then g+20000 else g+1000) (by rfl) (hX)))<|?_
     rintro⟨ak,bi⟩ nn
     try dsimp only
     refine Agg (ds:=[.osl 1005 ak 0 u.length,Av h.2,Av i.2]) (caps:=[]) (E:=[(0,.osl 1005 ak 0 u.length),(1,Av h.2),(2,Av i.2)]) r r r r r r r r<|Va (c:=AtE)<|?_;refine A 4 ?_;refine cK λhq=>bD λac av=>AdP (l:=u) r r r r r r r hq (λ_ _ _=>QD) av<|?_
     refine A 2 ?_;refine cK λhq=>bD λab bf=>AdP (l:=ac.1) r r r r r (by simp[QD av]) r hq (λ_ _ _=>QD) bf<|?_
     refine A 12 ?_;refine cK λhq=>iO (l:=ab.1) (en:=Le) (by simp[QD bf,QD av]) r r r r hq<|bD λcz da=>?_
     refine A 2 ?_;refine Anf (d:=.tup []) (E:=[(1,.sl (f.map (eL Le))),(5,.osl 5 _ 0 u.length),(17,.osl 17 _ 0 a.length),(18,Av (a.length:Int)),(19,Av t),(35,.osl 5 _ 0 u.length),(36,.sl (f.map (eL Le))),(37,Av h.2),(38,Av i.2),(39,.bool au),(44,.tup [])]) (O:=[(5,dW _ 1 3 ((ab.1.set ((PJ ac.2 ab.2).toNat) (RQ ac.2 ab.2)).map Le)),(17,dW _ 2 127 (a.map PF))]) r (by first|rfl|(simp[Pz,PC,rdA,raw,strip,PI,cells,PD];done)|(simp[Pz,PC,rdA,raw,strip,PI,S.ge,S.go,look,UR,cells,PD];done)) r ((Qt (E1:=[(1,.sl (f.map (eL Le))),(5,.osl 1005 ak 0 u.length),(17,.osl 1017 bi 0 a.length),(18,Av (a.length:Int)),(19,Av t),(35,.osl 1005 ak 0 u.length),(36,.sl (f.map (eL Le))),(37,Av h.2),(38,Av i.2),(39,.bool au),(44,.tup [])]) (O1:=[(1005,dW ak 1 3 ((ab.1.set ((PJ ac.2 ab.2).toNat) (RQ ac.2 ab.2)).map Le)),(1017,dW bi 2 127 (a.map PF))]) (hE ⟨rfl,(QV (q:=u.length) r (by simp)),r,r,r,(QV (q:=u.length) r (by simp)),r,r,r,r,r,trivial⟩ ⟨rfl,r,trivial⟩) (λ_=>PA (λg=>bif aA 24096 g then g-20000 else bif (aA 1000 g&&aAB g 4096)then g-1000 else g) (by rfl) (hE ⟨rfl,(QV (q:=u.length) r (by simp)),r,r,r,(QV (q:=u.length) r (by simp)),r,r,r,r,r,trivial⟩ ⟨rfl,r,trivial⟩)))) λnn=>?_
     refine A 7 ?_;exact xL (s:=(ab.1.set ((PJ ac.2 ab.2).toNat) (RQ ac.2 ab.2),i64.wrap (t+1))) (_,_) ((hE ⟨rfl,(QV (q:=u.length) r (by simp[QD bf,QD av])),r,r,r,trivial⟩ ⟨rfl,r,trivial⟩))
    ·refine A 7 ?_;exact xL (s:=(u,i64.wrap (t+1))) (_,_) ((hX))
  ·refine A 16 ?_;exact xL (s:=(i.1,i64.wrap (t+1))) (_,_) ((hE ⟨rfl,(QV (q:=e.length) r (by simp[QD aw,QD ao])),r,r,r,trivial⟩ ⟨rfl,r,trivial⟩))
 ·refine A 19 ?_;refine lP (E:=λ(s:(List Int)×(List Int)×Int) (g:Nat×Nat)=>[(5,.osl 5 g.1 0 s.2.1.length),(10,.osl 10 g.2 0 s.1.length),(47,Av (e.length:Int)),(48,Av s.2.2)]) (O:=λs g=>[(5,dW g.1 1 3 (s.2.1.map Le)),(10,dW g.2 1 3 (s.1.map Le))]) (body:=λs=>Ze e s.1 s.2.1 s.2.2) (s:=(([]:List Int),e,0)) (_,_) ((hX))<|?_
  rintro⟨bp,bj,bq⟩ ⟨db,dc⟩ nn
  try dsimp only
  unfold Ze;refine A 6 ?_;refine cD r ?_ ?_
  ·refine A 14 ?_;refine cK λhq=>bD λbk bl=>AdP (l:=bj) r r r r r r r hq (λ_ _ _=>QD) bl<|?_
   refine A 10 ?_;exact xL (s:=(bp++([bk.2]:List Int),bk.1,i64.wrap (bq+1))) (_,_) ((hE ⟨(QV (q:=bj.length) r (by simp[QD bl])),r,r,r,trivial⟩ ⟨rfl,r,trivial⟩))
  ·exact B

def AkZ (b:PE):List D:=[Ti b]
def AeK:Dw.Spec:=OY [(0,(12,75))] .val Rj RH (λa=>Xq a) Vt AkZ
theorem Akc:OW Tryz.prog 30 AeK:=by
 refine fn2 1 (OZ (l:=[(61,Ahu),(62,AgA)]) (by simp[Amu,AlL])) Tryz.func30<|?_
 intro a;unfold Xq;refine A 11 ?_;refine bD λc d=>?_
 refine A 15 ?_;refine bD λb e=>?_
 refine A 5 ?_;refine Aks (l:=b) (en:=Le) (z':=.agg [.sl (a.p.Funcs.map Pf),Av a.i,Av a.f.Params,.sl (a.f.Slots.map Pm),.sl (a.f.Code.map Ph),.sl (a.x.Live.Out.map (eL Le)),.row 1 3 (b.map Le),.sl (a.x.Rename.Keep.map D.bool),.sl (a.x.LiveAfter.Out.map (eL Le)),Av a.x.Layout.Args,Av a.x.Layout.Size,.sl (a.x.Layout.Off.map Le)]) r r r r r r (λ_=>r) r r<|?_
 refine A 1 ?_;refine AsV (E:=[]) (O:=[(8192,dV 0 12 75 (.agg [.sl (a.p.Funcs.map Pf),Av a.i,Av a.f.Params,.sl (a.f.Slots.map Pm),.sl (a.f.Code.map Ph),.sl (a.x.Live.Out.map (eL Le)),.sl (b.map Le),.sl (a.x.Rename.Keep.map D.bool),.sl (a.x.LiveAfter.Out.map (eL Le)),Av a.x.Layout.Args,Av a.x.Layout.Size,.sl (a.x.Layout.Off.map Le)]))]) ((Aeb (g:=8192) r (Atb (by repeat' first|exact FrL.nil|apply FrL.row (Abf λ_=>rfl)|apply FrL.same)) (hX))) (λ_ h=>by cases h) λnn=>?_
 exact B

end
end Go.Proofs.YtilmapojncgflaaGreatDoor
