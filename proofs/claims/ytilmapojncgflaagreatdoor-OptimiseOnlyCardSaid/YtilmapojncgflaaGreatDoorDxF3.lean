/-
  Programs on typed data, and the proofs that the code does what they say; written by a program (dx.py).
-/
import Derived.Test.YtilmapojncgflaaGreatDoorProg
import Derived.Test.YtilmapojncgflaaGreatDoorDd
import Derived.KernelRfl
import Derived.Test.YtilmapojncgflaaGreatDoorSh
import Derived.Test.YtilmapojncgflaaGreatDoorDxP
import Derived.Test.YtilmapojncgflaaGreatDoorDxF1
import Derived.Test.YtilmapojncgflaaGreatDoorDxF2
open List renaming replicate->aAA
open Nat renaming ble->aA,blt->aAB
namespace Go.Proofs.YtilmapojncgflaaGreatDoor
open Go Go.Dw Go.Proofs
open Go.IntKind (i64)
set_option maxRecDepth 100000
set_option maxHeartbeats 40000000
open Go.Dw renaming Rm -> bD,Qa -> cK,AdY -> bS,ZW -> cV,Yw -> iO,Ack -> cD,Aea -> xC,ZX -> xL,ZA -> hE,Aeb -> lP,Aap -> sC,Aib -> mF,rf -> r
noncomputable section
def TV (a:Le×Pj):List D:=[Pk a.1,WY a.2,.clo 105 []]
def TU (ds:List D):Le×Pj:=(Sz (ds.getD 0 .top),Adg (ds.getD 1 .top))
instance:Py TV TU:=⟨λa=>by simp[TU,TV]⟩
def SK (b:(List (List Int))×Int):D:=.tup [.sl (b.1.map (eL Mk)),Av b.2]
def UE:Dw.Spec:=Pe [] .val TV TU (λa=>VL a.1 a.2) SK noE
def Xw:Dw.Spec:=Vm (specs []) 1 [(.t 2)] Amo
theorem Adj:Pb Tryz.prog 142 Xw:=RR (PD) Tryz.func142 (by decide) Aqn Aqo (by decide)
theorem AeS:Pb Tryz.prog 104 UE:=by
 refine fn2 3 (Pf (l:=[(141,AaE),(142,Xw),(143,SC),(105,Adk),(144,VM)]) (by simp[AeA,Adj,Tf,AiD,ZB])) Tryz.func104<|?_
 rintro⟨a,e⟩;unfold VL;refine A 13 ?_;refine bD λr3 au=>?_
 refine A 10 ?_;refine cD r ?_ ?_
 ·exact B
 ·refine A 7 ?_;refine RN (E:=λ(g:Nat×Nat)=>[(2,.clo 105 []),(3,.optr 1003 g.1 0 0),(4,.optr 1004 g.2 0 0),(24,Av (a.Slots.length:Int))]) (O:=λg=>[(1003,dV g.1 3 36 (Pk a)),(1004,dV g.2 1 40 (.agg [.sl (e.Out.map (eL Mk))]))]) (_,_) ((Pz (λg=>bif aA 4096 g then g+20000 else g+1000) (by rfl) (hX)))<|?_
  rintro⟨y,aa⟩ nn
  try dsimp only
  refine Yu (ES:=λ(s:(List (List Bool))) (g:Nat×Nat×Nat)=>[(2,.clo 105 []),(3,.optr 3 g.1 0 0),(4,.optr 4 g.2.1 0 0),(25,.osl 4697 g.2.2 0 s.length)]) (OS:=λs g=>[(3,dV g.1 3 36 (Pk a)),(4,dV g.2.1 1 40 (.agg [.sl (e.Out.map (eL Mk))])),(4697,dW g.2.2 1 42 (s.map (eR 1 4 D.bool)))]) (j:=λs=>Sy a e s) (ds:=[Av (a.Slots.length:Int)]) (caps:=[]) (E:=[(0,Av (a.Slots.length:Int))]) r r r r r r r r ?_ ?_
  ·refine Um (c:=Amo)<|?_;refine A 8 ?_;refine cK λhq=>AaR (α:=Bool) r r r hq r<|?_
   refine A 2 ?_;refine Qn (E:=[(0,Av (a.Slots.length:Int)),(3,.osl 4099 _ 0 ((aAA (a.Slots.length:Int).toNat ([]:(List Bool))).length))]) (O:=[(1003,dV y 3 36 (Pk a)),(1004,dV aa 1 40 (.agg [.sl (e.Out.map (eL Mk))])),(4099,dW _ 1 42 ((aAA (a.Slots.length:Int).toNat ([]:(List Bool))).map (eR 1 4 D.bool)))]) ((Aft (g:=3) (g2:=4099) r r r (AiA (l:=aAA (a.Slots.length:Int).toNat ([]:(List Bool))) (s':=1) (ty':=4) D.bool (by decide) (λ_ h=>List.eq_of_mem_replicate h)) (hX))) λnn=>?_
   refine A 9 ?_;refine lP (E:=λ(s:(List (List Bool))×Int) (g:Nat)=>[(0,Av (a.Slots.length:Int)),(3,.osl 4099 g 0 s.1.length),(8,Av ((aAA (a.Slots.length:Int).toNat ([]:(List Bool))).length:Int)),(9,Av s.2)]) (O:=λs g=>[(1003,dV y 3 36 (Pk a)),(1004,dV aa 1 40 (.agg [.sl (e.Out.map (eL Mk))])),(4099,dW g 1 42 (s.1.map (eR 1 4 D.bool)))]) (body:=λs=>Sx a e s.1 s.2) (s:=(aAA (a.Slots.length:Int).toNat ([]:(List Bool)),0)) _ ((hX))<|?_
   rintro⟨w,av⟩ aw nn
   try dsimp only
   unfold Sx;refine A 6 ?_;refine cD r ?_ ?_
   ·refine A 16 ?_;refine bD λag ah=>Aek (l:=w) (q:=ag) (q':=aAA (a.Slots.length:Int).toNat false) D.bool rfl rfl rfl rfl (.inl rfl) ah rfl rfl ⟨⟨rfl,rfl,by simp,ZJ λ_=>rfl⟩,trivial,rfl⟩ (congrArg (λz=>[D.row _ _ z]) (Rj _ _ rfl)) rfl<|?_
    exact B
   ·refine A 12 ?_;exact RK (d:=.osl 4099 _ 0 w.length) (s:=w) (_,_,_) r (by first|rfl|(simp[Px,PA,rdA,raw,strip,PG,cells,PC];done)|(simp[Px,PA,rdA,raw,strip,PG,S.ge,S.go,look,Ub,cells,PC];done)) r ((Ql (E1:=[(2,.clo 105 []),(3,.optr 1003 y 0 0),(4,.optr 1004 aa 0 0),(25,.osl 4099 _ 0 w.length)]) (O1:=[(1003,dV y 3 36 (Pk a)),(1004,dV aa 1 40 (.agg [.sl (e.Out.map (eL Mk))])),(4099,dW _ 1 42 (w.map (eR 1 4 D.bool)))]) (hX) (λ_=>Pz (λg=>bif aA 24096 g then g-20000 else bif (aA 1000 g&&aAB g 4096)then g-1000 else bif Nat.beq g 4099 then 4697 else g) (by rfl) (hX))))
  ·rintro x4 ⟨ax,ay,az⟩ nn
   try dsimp only
   unfold Sy;refine A 13 ?_;refine lP (E:=λ(s:(List (List Bool))×Int) (g:Nat×Nat)=>[(2,.clo 105 []),(4,.optr 4 g.1 0 0),(9,.osl 4697 g.2 0 s.1.length),(27,.sl (a.Code.map Pl)),(28,Av (a.Code.length:Int)),(29,Av s.2)]) (O:=λs g=>[(4,dV g.1 1 40 (.agg [.sl (e.Out.map (eL Mk))])),(4697,dW g.2 1 42 (s.1.map (eR 1 4 D.bool)))]) (body:=λs=>Uo a e s.1 s.2) (s:=(x4,0)) (_,_) ((hX))<|?_
   rintro⟨o,k⟩ ⟨ba,bb⟩ nn
   try dsimp only
   unfold Uo;refine A 6 ?_;refine cD r ?_ ?_
   ·refine A 7 ?_;refine bD λb bc=>?_
    refine A 10 ?_;refine bD λf bd=>?_
    refine A 8 ?_;refine sC (E:=λ(s:Bool×Bool) (g:Nat×Nat×Nat)=>[(2,.clo 105 []),(4,.optr 4 g.1 0 0),(9,.osl 4697 g.2.2 0 o.length),(10,Av k),(11,.optr 11 g.2.1 0 0),(12,Av f.1),(27,.sl (a.Code.map Pl)),(28,Av (a.Code.length:Int)),(29,Av k),(42,.optr 11 g.2.1 0 0),(43,Av b.Op),(44,.bool (b.Op==17)),(45,.bool s.1),(51,.bool s.2)]) (O:=λ_ g=>[(4,dV g.1 1 40 (.agg [.sl (e.Out.map (eL Mk))])),(11,dV g.2.1 5 63 (Pl b)),(4697,dW g.2.2 1 42 (o.map (eR 1 4 D.bool)))]) (j:=λs=>QN e k f b o s.1 s.2) ?_ ?_
    ·refine A 5 ?_;refine PI r ?_ ?_
     ·refine A 22 ?_;exact xL (s:=(o,i64.wrap (k+1))) (_,_) ((hX))
     ·refine A 4 ?_;refine PI r ?_ ?_
      ·refine A 9 ?_;refine cD r ?_ ?_
       ·refine A 8 ?_;exact xL (s:=(o,i64.wrap (k+1))) (_,_) ((hX))
       ·refine A 1 ?_;exact xC (s:=(true,(b.A==b.B))) (_,_,_) ((hX))
      ·refine A 11 ?_;exact xC (s:=(false,false)) (_,_,_) ((hX))
    ·rintro⟨x9,ac⟩ ⟨bf,bg,bh⟩ nn
     try dsimp only
     unfold QN;refine A 5 ?_;refine bD λp bi=>?_
     refine A 7 ?_;refine lP (E:=λ(s:(List (List Bool))×Int) (g:Nat×Nat×Nat)=>[(2,.clo 105 []),(4,.optr 4 g.1 0 0),(9,.osl 4697 g.2.2 0 s.1.length),(11,.optr 11 g.2.1 0 0),(12,Av f.1),(27,.sl (a.Code.map Pl)),(28,Av (a.Code.length:Int)),(29,Av k),(42,.optr 11 g.2.1 0 0),(43,Av b.Op),(44,.bool (b.Op==17)),(45,.bool x9),(51,.bool ac),(57,.sl (p.map Mk)),(58,Av (p.length:Int)),(59,Av s.2)]) (O:=λs g=>[(4,dV g.1 1 40 (.agg [.sl (e.Out.map (eL Mk))])),(11,dV g.2.1 5 63 (Pl b)),(4697,dW g.2.2 1 42 (s.1.map (eR 1 4 D.bool)))]) (body:=λs=>Uq p f b k s.1 s.2) (s:=(o,0)) (_,_,_) ((hX))<|?_
     rintro⟨m,x⟩ ⟨bj,bk,bl⟩ nn
     try dsimp only
     unfold Uq;refine A 6 ?_;refine cD r ?_ ?_
     ·refine A 6 ?_;refine bD λt bm=>?_
      refine A 5 ?_;refine sC (E:=λ(s:Bool) (g:Nat×Nat×Nat)=>[(2,.clo 105 []),(4,.optr 4 g.1 0 0),(9,.osl 4697 g.2.2 0 m.length),(11,.optr 11 g.2.1 0 0),(12,Av f.1),(15,Av t),(27,.sl (a.Code.map Pl)),(28,Av (a.Code.length:Int)),(29,Av k),(42,.optr 11 g.2.1 0 0),(43,Av b.Op),(44,.bool (b.Op==17)),(45,.bool x9),(51,.bool ac),(57,.sl (p.map Mk)),(58,Av (p.length:Int)),(59,Av x),(72,.bool s)]) (O:=λ_ g=>[(4,dV g.1 1 40 (.agg [.sl (e.Out.map (eL Mk))])),(11,dV g.2.1 5 63 (Pl b)),(4697,dW g.2.2 1 42 (m.map (eR 1 4 D.bool)))]) (j:=λs=>Qh m f t x s) ?_ ?_
      ·refine A 5 ?_;refine PI r ?_ ?_
       ·refine A 3 ?_;refine bD λaj bn=>?_
        refine A 4 ?_;exact xC (s:=(!aj)) (_,_,_) ((hX))
       ·refine A 7 ?_;exact xC (s:=false) (_,_,_) ((hX))
      ·rintro bo ⟨bp,bq,br⟩ nn
       try dsimp only
       unfold Qh;refine cD r ?_ ?_
       ·refine AkD λu ad=>AkD λv ae=>AsI λaf=>AmK (E:=[(2,.clo 105 []),(4,.optr 4 _ 0 0),(9,.osl 4697 _ 0 m.length),(11,.optr 11 _ 0 0),(12,Av f.1),(15,Av t),(27,.sl (a.Code.map Pl)),(28,Av (a.Code.length:Int)),(29,Av k),(42,.optr 11 _ 0 0),(43,Av b.Op),(44,.bool (b.Op==17)),(45,.bool x9),(51,.bool ac),(57,.sl (p.map Mk)),(58,Av (p.length:Int)),(59,Av x)]) (O:=[(4,dV _ 1 40 (.agg [.sl (e.Out.map (eL Mk))])),(11,dV _ 5 63 (Pl b)),(4697,dW _ 1 42 (((m.map (eR 1 4 D.bool)).set f.1.toNat (.hole 4717 _ u.length)).set t.toNat (.hole 4718 _ v.length))),(4717,dW _ 1 4 (u.map D.bool)),(4718,dW _ 1 4 (v.map D.bool))]) (Ant (g:=4697) (i:=f.1.toNat) (j:=t.toNat) (t1:=621) (t2:=622) D.bool r ad ae af (hX)) λnn=>?_
        refine A 2 ?_;refine cK λhq=>Yv (by simp) r r r r (by simpa using hq)<|Aej (nm:=4717) (q:=u.length) r r r (Aqs ad af)<|?_
        refine A 3 ?_;refine cK λhq=>Yv (by simp) r r r r (by simpa using hq)<|Aej (nm:=4718) (q:=v.length) r r r (Aqt ae)<|?_
        refine A 2 ?_;refine bD λak ao=>Abo (l:=u) (en:=D.bool) (q:=ak) (q':=true) r r r r r ao r (λ_=>r) r r r ⟨trivial,trivial,r⟩<|?_
        refine A 1 ?_;refine bD λap aq=>Abo (l:=v) (en:=D.bool) (q:=ap) (q':=true) r r r r r aq r (λ_=>r) r r r ⟨trivial,trivial,r⟩<|?_
        refine A 2 ?_;refine Qn (E:=[(2,.clo 105 []),(4,.optr 4 _ 0 0),(9,.osl 4697 _ 0 m.length),(11,.optr 11 _ 0 0),(12,Av f.1),(27,.sl (a.Code.map Pl)),(28,Av (a.Code.length:Int)),(29,Av k),(42,.optr 11 _ 0 0),(43,Av b.Op),(44,.bool (b.Op==17)),(45,.bool x9),(51,.bool ac),(57,.sl (p.map Mk)),(58,Av (p.length:Int)),(59,Av x)]) (O:=[(4,dV _ 1 40 (.agg [.sl (e.Out.map (eL Mk))])),(11,dV _ 5 63 (Pl b)),(4697,dW _ 1 42 (((m.set f.1.toNat (u.set t.toNat true)).set t.toNat (v.set f.1.toNat true)).map (eR 1 4 D.bool)))]) ((Amv (g:=4697) (g1:=4717) (g2:=4718) (l:=m) (en:=D.bool) (i:=f.1.toNat) (j:=t.toNat) (q1:=u) (q2:=v) (q1':=u.set t.toNat true) (q2':=v.set f.1.toNat true) ad ae af r r r (by simp) (by simp) (λ_=>r) (hE ⟨rfl,r,(QH (q:=m.length) r (by simp)),r,r,r,r,r,r,r,r,r,r,r,r,r,trivial⟩ ⟨rfl,r,r,trivial⟩))) λnn=>?_
        exact B
       ·refine A 7 ?_;exact xL (s:=(m,i64.wrap (x+1))) (_,_,_) ((hX))
     ·refine A 10 ?_;exact xL (s:=(m,i64.wrap (k+1))) (_,_) ((hX))
   ·refine A 4 ?_;refine Qn (E:=[(9,.osl 4697 _ 0 o.length)]) (O:=[(4697,dW _ 1 42 (o.map (eL D.bool)))]) ((Acd (g:=4697) r (AiB (l:=o) D.bool (λ_=>r)) (hX))) λnn=>?_
    exact B

def Afl:Dw.Spec:=Pe [] .val QU QT (λa=>Wf a.1 a.2) SK noE
theorem AjW:Pb Tryz.prog 61 Afl:=by
 refine fn2 2 (Pf (l:=[(434280,UE)]) (by simp[AeS])) Tryz.func61<|?_
 rintro⟨a,b⟩;unfold Wf;refine A 12 ?_;refine bD λd c=>cV (a,b) rfl rfl (show _=some UE from by kernel_rfl) Py.ok rfl rfl (by simp) r c<|?_
 exact B

def Aes:Dw.Spec:=Pe [] (.row 1 3) Qp Qo (λa=>Abt a) QX noE
theorem Ajn:Pb Tryz.prog 106 Aes:=by
 refine fn2 1 (PD) Tryz.func106<|?_;intro a;unfold Abt;refine A 21 ?_;refine lP (E:=λ(s:(List Int)×Int) (g:Nat)=>[(3,.osl 3 g 0 s.1.length),(8,Av ((aAA a.toNat (0:Int)).length:Int)),(9,Av s.2)]) (O:=λs g=>[(3,dW g 1 3 (s.1.map Mk))]) (body:=λs=>YE a s.1 s.2) (s:=(aAA a.toNat (0:Int),0)) _ ((hX))<|?_
 rintro⟨b,c⟩ d nn
 try dsimp only
 unfold YE;exact B

def Sc (a:(List Pr)×Pr):List D:=[.sl (a.1.map PN),PN a.2]
def Sb (ds:List D):(List Pr)×Pr:=((uL Aif) (ds.getD 0 .top),Aif (ds.getD 1 .top))
instance:Py Sc Sb:=⟨λa=>by simp[Sb,Sc,Qf (u:=Aif) (en:=PN) AsM]⟩
def Yn:Dw.Spec:=Pe [] .ground Sc Sb (λa=>SZ a.1 a.2) Pg noE
theorem AeG:Pb Tryz.prog 188 Yn:=by
 refine fn2 2 (PD) Tryz.func188<|?_;rintro⟨a,b⟩;unfold SZ;refine A 15 ?_;refine lP (E:=λ(s:Int) (g:Nat)=>[(0,.sl (a.map PN)),(3,.optr 3 g 0 0),(7,Av (a.length:Int)),(8,Av s)]) (O:=λ_ g=>[(3,dV g 2 127 (.agg [Av b.a0,Av b.a1]))]) (body:=λs=>Qd a b s) (s:=0) _ ((hX))<|?_
 rintro c d nn
 try dsimp only
 unfold Qd;refine A 6 ?_;refine cD r ?_ ?_
 ·refine A 15 ?_;refine bD λe f=>?_
  refine A 5 ?_;refine cD r ?_ ?_
  ·exact B
  ·refine A 7 ?_;exact xL (s:=i64.wrap (c+1)) _ ((hX))
 ·exact B

def WR:Dw.Spec:=Pe [] .ground Sc Sb (λa=>Rt a.1 a.2) Po noE
theorem Ade:Pb Tryz.prog 145 WR:=by
 refine fn2 2 (Pf (l:=[(188,Yn)]) (by simp[AeG])) Tryz.func145<|?_
 intro a;unfold Rt;exact B

def AkX (b:(List Pr)):D:=.sl (b.map PN)
def Afm:Dw.Spec:=Pe [] (.row 2 127) Wd Wc (λa=>Wg a) AkX noE
theorem AjX:Pb Tryz.prog 107 Afm:=by
 refine fn2 1 (Pf (l:=[(145,WR)]) (by simp[Ade])) Tryz.func107<|?_
 intro d;unfold Wg;refine A 21 ?_;refine lP (E:=λ(s:(List Pr)×Int) (g:Nat)=>[(3,.osl 3 g 0 s.1.length),(8,.sl (d.Code.map Pl)),(9,Av (d.Code.length:Int)),(10,Av s.2)]) (O:=λs g=>[(3,dW g 2 127 (s.1.map PN))]) (body:=λs=>QQ d s.1 s.2) (s:=(([]:List Pr),0)) _ ((hX))<|?_
 rintro⟨a,b⟩ e nn
 try dsimp only
 unfold QQ;refine A 6 ?_;refine cD r ?_ ?_
 ·refine A 6 ?_;refine bD λc f=>?_
  refine A 23 ?_;refine PI r ?_ ?_
  ·refine A 7 ?_;refine PI r ?_ ?_
   ·refine A 2 ?_;refine bD λh i=>?_
    refine A 5 ?_;refine cD r ?_ ?_
    ·refine A 3 ?_;refine bS ([(Pr.mk c.A c.B)]:List Pr) PN r r r (by simp) r r r<|?_
     refine A 9 ?_;exact xL (s:=(a++([(Pr.mk c.A c.B)]:List Pr),i64.wrap (b+1))) _ ((hX))
    ·refine A 7 ?_;exact xL (s:=(a,i64.wrap (b+1))) _ ((hX))
   ·refine A 15 ?_;exact xL (s:=(a,i64.wrap (b+1))) _ ((hX))
  ·refine A 22 ?_;exact xL (s:=(a,i64.wrap (b+1))) _ ((hX))
 ·exact B

def AqU:PZ:=(Tryz.f109.body.bind (PS Tryz.prog Tryz.f109.ntmps)).getD .skip
theorem Aud:(Tryz.f109.body.bind (PS Tryz.prog Tryz.f109.ntmps))=some AqU:=by kernel_rfl
theorem Aue:Tryz.f109.results.toList.mapM (Tw Tryz.prog)=some [(.t 8)]:=by kernel_rfl

def Aoe:PZ:=(Tryz.f146.body.bind (PS Tryz.prog Tryz.f146.ntmps)).getD .skip
theorem Auh:(Tryz.f146.body.bind (PS Tryz.prog Tryz.f146.ntmps))=some Aoe:=by kernel_rfl
theorem Aui:Tryz.f146.results.toList.mapM (Tw Tryz.prog)=some [(.t 4)]:=by kernel_rfl

def AqW:PZ:=(Tryz.f147.body.bind (PS Tryz.prog Tryz.f147.ntmps)).getD .skip
theorem Auj:(Tryz.f147.body.bind (PS Tryz.prog Tryz.f147.ntmps))=some AqW:=by kernel_rfl
theorem Auk:Tryz.f147.results.toList.mapM (Tw Tryz.prog)=some [(.t 4)]:=by kernel_rfl

def Ara:PZ:=(Tryz.f189.body.bind (PS Tryz.prog Tryz.f189.ntmps)).getD .skip
theorem Aur:(Tryz.f189.body.bind (PS Tryz.prog Tryz.f189.ntmps))=some Ara:=by kernel_rfl
theorem Aus:Tryz.f189.results.toList.mapM (Tw Tryz.prog)=some [(.t 4)]:=by kernel_rfl

def AqX:PZ:=(Tryz.f148.body.bind (PS Tryz.prog Tryz.f148.ntmps)).getD .skip
theorem Aul:(Tryz.f148.body.bind (PS Tryz.prog Tryz.f148.ntmps))=some AqX:=by kernel_rfl
theorem Aum:Tryz.f148.results.toList.mapM (Tw Tryz.prog)=some [(.t 3)]:=by kernel_rfl

def AqV:PZ:=(Tryz.f110.body.bind (PS Tryz.prog Tryz.f110.ntmps)).getD .skip
theorem Auf:(Tryz.f110.body.bind (PS Tryz.prog Tryz.f110.ntmps))=some AqV:=by kernel_rfl
theorem Aug:Tryz.f110.results.toList.mapM (Tw Tryz.prog)=some []:=by kernel_rfl

def XR (a:Le×(List (List Int))):List D:=[Pk a.1,.sl (a.2.map (eL Mk))]
def XQ (ds:List D):Le×(List (List Int)):=(Sz (ds.getD 0 .top),(uL (uL uI)) (ds.getD 1 .top))
instance:Py XR XQ:=⟨λa=>by simp[XQ,XR,Qf (u:=(uL uI)) (en:=(eL Mk)) (Qf (u:=uI) (en:=Mk) (λ_=>rfl))]⟩
def Aeq:Dw.Spec:=Pe [] (.row 1 3) XR XQ (λa=>Vd a.1 a.2) QX noE
def Xi:Dw.Spec:=Vm (specs [(108,Ry)]) 2 [(.t 4)] Aoe
theorem AgT:Pb Tryz.prog 146 Xi:=RR (Pf (l:=[(108,Ry)]) (by simp[VG])) Tryz.func146 (by decide) Auh Aui (by decide)
def Xj:Dw.Spec:=Vm (specs []) 2 [(.t 3)] AqX
theorem AgW:Pb Tryz.prog 148 Xj:=RR (PD) Tryz.func148 (by decide) Aul Aum (by decide)
def AbU:Dw.Spec:=Vm (specs [(108,Ry)]) 3 [] AqV
theorem AgX:Pb Tryz.prog 110 AbU:=RR (Pf (l:=[(108,Ry)]) (by simp[VG])) Tryz.func110 (by decide) Auf Aug (by decide)
def Uf:Dw.Spec:=Vm (specs [(148,Xj)]) 2 [(.t 4)] Ara
theorem AgV:Pb Tryz.prog 189 Uf:=RR (Pf (l:=[(148,Xj)]) (by simp[AgW])) Tryz.func189 (by decide) Aur Aus (by decide)
def Ue:Dw.Spec:=Vm (specs [(610493,Uf)]) 2 [(.t 4)] AqW
theorem AgU:Pb Tryz.prog 147 Ue:=RR (Pf (l:=[(610493,Uf)]) (by simp[AgV])) Tryz.func147 (by decide) Auj Auk (by decide)
def AbT:Dw.Spec:=Vm (specs [(146,Xi),(610451,Ue)]) 4 [(.t 8)] AqU
theorem AgS:Pb Tryz.prog 109 AbT:=RR (Pf (l:=[(146,Xi),(610451,Ue)]) (by simp[AgT,AgU])) Tryz.func109 (by decide) Aud Aue (by decide)
theorem Ajl:Pb Tryz.prog 62 Aeq:=by
 refine fn2 2 (Pf (l:=[(106,Aes),(107,Afm),(108,Ry),(109,AbT),(110,AbU)]) (by simp[Ajn,AjX,VG,AgS,AgX])) Tryz.func62<|?_
 rintro⟨f1,f⟩;unfold Vd;refine A 11 ?_;refine bD λr3 bs=>?_
 refine A 8 ?_;refine bD λa bt=>?_
 refine A 6 ?_;refine lP (E:=λ(s:(List Int)×Int) (g:Nat×Nat)=>[(1,.sl (f.map (eL Mk))),(5,.osl 5 g.1 0 s.1.length),(17,.osl 17 g.2 0 a.length),(18,Av (a.length:Int)),(19,Av s.2)]) (O:=λs g=>[(5,dW g.1 1 3 (s.1.map Mk)),(17,dW g.2 2 127 (a.map PN))]) (body:=λs=>Yx a f s.1 s.2) (s:=(r3,0)) (_,_) ((hX))<|?_
 rintro⟨e,t⟩ ⟨bu,bv⟩ nn
 try dsimp only
 unfold Yx;refine A 6 ?_;refine cD r ?_ ?_
 ·refine A 7 ?_;refine bD λbw bx=>?_
  refine A 8 ?_;refine Ul r r r (by decide)<|?_
  refine A 1 ?_;refine cK λhq=>bD λh ao=>AbP (l:=e) r r r r r r r hq (λ_ _ _=>Qv) ao<|?_
  refine A 1 ?_;refine Ul r r r (by decide)<|?_
  refine A 1 ?_;refine cK λhq=>bD λi aw=>AbP (l:=h.1) r r r r r (by simp[Qv ao]) r hq (λ_ _ _=>Qv) aw<|?_
  refine A 10 ?_;refine PI r ?_ ?_
  ·refine A 4 ?_;refine RN (E:=λ(g:Nat×Nat)=>[(1,.sl (f.map (eL Mk))),(5,.osl 1005 g.1 0 e.length),(8,Av h.2),(9,Av i.2),(17,.osl 1017 g.2 0 a.length),(18,Av (a.length:Int)),(19,Av t),(34,.bool true),(35,.osl 1005 g.1 0 e.length),(36,.sl (f.map (eL Mk))),(37,Av h.2),(38,Av i.2)]) (O:=λg=>[(1005,dW g.1 1 3 (i.1.map Mk)),(1017,dW g.2 2 127 (a.map PN))]) (_,_) ((Pz (λg=>bif aA 4096 g then g+20000 else g+1000) (by rfl) (hE ⟨rfl,(QH (q:=e.length) r (by simp)),r,r,r,r,r,r,(QH (q:=e.length) r (by simp)),r,r,r,trivial⟩ ⟨rfl,r,trivial⟩)))<|?_
   rintro⟨b,k⟩ nn
   try dsimp only
   refine AiX (ES:=λ(s:(List Int)×Bool) (g:Nat×Nat)=>[(1,.sl (f.map (eL Mk))),(5,.osl 5 g.1 0 e.length),(8,Av h.2),(9,Av i.2),(17,.osl 17 g.2 0 a.length),(18,Av (a.length:Int)),(19,Av t),(34,.bool true),(35,.osl 5 g.1 0 e.length),(36,.sl (f.map (eL Mk))),(37,Av h.2),(38,Av i.2),(39,.bool s.2)]) (OS:=λs g=>[(5,dW g.1 1 3 (s.1.map Mk)),(17,dW g.2 2 127 (a.map PN))]) (j:=λs=>Sq e h i t s.1 s.2) (ds:=[.osl 1005 b 0 e.length,.sl (f.map (eL Mk)),Av h.2,Av i.2]) (caps:=[]) (E:=[(0,.osl 1005 b 0 e.length),(1,.sl (f.map (eL Mk))),(2,Av h.2),(3,Av i.2)]) r r r r r r r r ?_ ?_
   ·refine Um (c:=AqU)<|?_;refine A 7 ?_;refine AqC λnn=>?_
    refine A 9 ?_;refine RN (E:=λ(g:Nat×Nat)=>[(0,.osl 2005 b 0 e.length),(1,.sl (f.map (eL Mk))),(2,Av h.2),(9,.optr 1009 g.1 0 0),(15,.osl 2005 b 0 e.length),(16,Av i.2)]) (O:=λg=>[(1009,dV g.1 1 142 (.mref 1014 g.2)),(1014,some (g.2,⟨true,false,0,0,([]:List (Int×Bool)).map (Qb D.bool)⟩)),(2005,dW b 1 3 (i.1.map Mk)),(2017,dW k 2 127 (a.map PN))]) (_,_) ((Pz (λg=>bif aA 4096 g then g+20000 else g+1000) (by rfl) (hE ⟨(QH (q:=e.length) r (by simp)),r,r,r,(QH (q:=e.length) r (by simp)),r,trivial⟩ ⟨rfl,r,r,r,trivial⟩)))<|?_
    rintro⟨ax,ap⟩ nn
    try dsimp only
    refine AiX (ES:=λ(s:(List Int)×(List Int)) (g:Nat×Nat×Nat)=>[(0,.osl 1005 b 0 e.length),(1,.sl (f.map (eL Mk))),(2,Av h.2),(9,.optr 9 g.1 0 0),(17,.osl 621 g.2.2 0 s.2.length)]) (OS:=λs g=>[(9,dV g.1 1 142 (.mref 14 g.2.1)),(14,some (g.2.1,⟨true,false,0,0,([]:List (Int×Bool)).map (Qb D.bool)⟩)),(621,dW g.2.2 1 3 (s.2.map Mk)),(1005,dW b 1 3 (s.1.map Mk)),(1017,dW k 2 127 (a.map PN))]) (j:=λs=>YB e h f i t s.1 s.2) (ds:=[.osl 2005 b 0 e.length,Av i.2]) (caps:=[]) (E:=[(0,.osl 2005 b 0 e.length),(1,Av i.2)]) r r r r r r r r ?_ ?_
    ·refine Um (c:=Aoe)<|?_;refine A 19 ?_;refine lP (E:=λ(s:(List Int)×(List Int)×Int) (g:Nat)=>[(0,.osl 2005 b 0 s.1.length),(1,Av i.2),(5,.osl 5 g 0 s.2.1.length),(8,Av (e.length:Int)),(9,Av s.2.2)]) (O:=λs g=>[(5,dW g 1 3 (s.2.1.map Mk)),(1009,dV ax 1 142 (.mref 1014 ap)),(1014,some (ap,⟨true,false,0,0,([]:List (Int×Bool)).map (Qb D.bool)⟩)),(2005,dW b 1 3 (s.1.map Mk)),(2017,dW k 2 127 (a.map PN))]) (body:=λs=>UD e i h f t s.1 s.2.1 s.2.2) (s:=(i.1,([]:List Int),0)) _ ((hE ⟨(QH (q:=e.length) r (by simp[Qv aw,Qv ao])),r,r,r,r,trivial⟩ ⟨rfl,r,r,r,r,trivial⟩))<|?_
     rintro⟨ai,ad,ay⟩ bz nn
     try dsimp only
     unfold UD;refine A 6 ?_;refine cD r ?_ ?_
     ·refine A 14 ?_;refine cK λhq=>bD λbg az=>AbP (l:=ai) r r r r r r r hq (λ_ _ _=>Qv) az<|?_
      refine A 4 ?_;refine cD r ?_ ?_
      ·refine A 13 ?_;exact xL (s:=(bg.1,ad++([ay]:List Int),i64.wrap (ay+1))) _ ((hE ⟨(QH (q:=ai.length) r (by simp[Qv az])),r,r,r,r,trivial⟩ ⟨rfl,r,r,r,r,trivial⟩))
      ·refine A 7 ?_;exact xL (s:=(bg.1,ad,i64.wrap (ay+1))) _ ((hE ⟨(QH (q:=ai.length) r (by simp[Qv az])),r,r,r,r,trivial⟩ ⟨rfl,r,r,r,r,trivial⟩))
     ·refine A 12 ?_;exact RK (d:=.osl 4 _ 0 ad.length) (s:=(ai,ad)) (_,_,_) r (by first|rfl|(simp[Px,PA,rdA,raw,strip,PG,cells,PC];done)|(simp[Px,PA,rdA,raw,strip,PG,S.ge,S.go,look,Ub,cells,PC];done)) r ((Ql (E1:=[(0,.osl 2005 b 0 e.length),(1,.sl (f.map (eL Mk))),(2,Av h.2),(9,.optr 1009 ax 0 0),(17,.osl 4 _ 0 ad.length)]) (O1:=[(4,dW _ 1 3 (ad.map Mk)),(1009,dV ax 1 142 (.mref 1014 ap)),(1014,some (ap,⟨true,false,0,0,([]:List (Int×Bool)).map (Qb D.bool)⟩)),(2005,dW b 1 3 (ai.map Mk)),(2017,dW k 2 127 (a.map PN))]) (hX) (λ_=>Pz (λg=>bif aA 24096 g then g-20000 else bif (aA 1000 g&&aAB g 4096)then g-1000 else bif Nat.beq g 4 then 621 else g) (by rfl) (hX))))
    ·rintro⟨y,ae⟩ ⟨ca,cb,cc⟩ nn
     try dsimp only
     unfold YB;refine AfF λaq=>AfG (E:=λ(g:Nat×Nat×Nat)=>[(0,.osl 1005 b 0 y.length),(1,.sl (f.map (eL Mk))),(2,Av h.2),(9,.optr 9 g.1 0 0),(17,.osl 621 g.2.2 0 ae.length)]) (O:=λg=>[(9,dV g.1 1 142 (.mref 14 g.2.1)),(14,some (g.2.1,⟨true,false,0,0,([]:List (Int×Bool)).map (Qb D.bool)⟩)),(621,dW g.2.2 1 3 (ae.map Mk)),(1005,dW b 1 3 (y.map Mk)),(1017,dW k 2 127 (a.map PN))]) (_,_,_) (hE ⟨(QH (q:=e.length) r aq),r,r,r,r,trivial⟩ ⟨rfl,r,r,r,r,trivial⟩)<|?_
     rintro⟨cd,ce,cf⟩ nn
     try dsimp only
     refine A 5 ?_;refine lP (E:=λ(s:(List (Int×Bool))×Int) (g:Nat×Nat×Nat)=>[(0,.osl 1005 b 0 y.length),(1,.sl (f.map (eL Mk))),(2,Av h.2),(9,.optr 9 g.1 0 0),(17,.osl 621 g.2.2 0 ae.length),(18,Av (ae.length:Int)),(19,Av s.2)]) (O:=λs g=>[(9,dV g.1 1 142 (.mref 14 g.2.1)),(14,some (g.2.1,⟨true,false,0,0,s.1.map (Qb D.bool)⟩)),(621,dW g.2.2 1 3 (ae.map Mk)),(1005,dW b 1 3 (y.map Mk)),(1017,dW k 2 127 (a.map PN))]) (body:=λs=>Yy ae y h f e i t s.1 s.2) (s:=(([]:List (Int×Bool)),0)) (_,_,_) ((hX))<|?_
     rintro⟨m,bn⟩ ⟨cg,ch,ci⟩ nn
     try dsimp only
     unfold Yy;refine A 6 ?_;refine cD r ?_ ?_
     ·refine A 7 ?_;refine bD λbo cj=>?_
      refine A 7 ?_;refine Ama (en:=D.bool) (l:=m) r r r true r r r r<|?_;refine A 7 ?_;exact xL (s:=(RL bo true m,i64.wrap (bn+1))) (_,_,_) ((hX))
     ·refine A 10 ?_;refine RN (E:=λ(g:Nat×Nat)=>[(1,.sl (f.map (eL Mk))),(9,.optr 1009 g.1 0 0),(26,.osl 2005 b 0 y.length),(27,Av h.2)]) (O:=λg=>[(1009,dV g.1 1 142 (.mref 1014 g.2)),(1014,some (g.2,⟨true,false,0,0,m.map (Qb D.bool)⟩)),(2005,dW b 1 3 (y.map Mk)),(2017,dW k 2 127 (a.map PN))]) (_,_) ((Pz (λg=>bif aA 4096 g then g+20000 else g+1000) (by rfl) (hX)))<|?_
      rintro⟨ba,ar⟩ nn
      try dsimp only
      refine Yu (ES:=λ(s:(List Int)×(List Int)) (g:Nat×Nat×Nat)=>[(1,.sl (f.map (eL Mk))),(9,.optr 9 g.1 0 0),(28,.osl 641 g.2.2 0 s.2.length)]) (OS:=λs g=>[(9,dV g.1 1 142 (.mref 14 g.2.1)),(14,some (g.2.1,⟨true,false,0,0,m.map (Qb D.bool)⟩)),(641,dW g.2.2 1 3 (s.2.map Mk)),(1005,dW b 1 3 (s.1.map Mk)),(1017,dW k 2 127 (a.map PN))]) (j:=λs=>YC f m e h i t s.1 s.2) (ds:=[.osl 2005 b 0 y.length,Av h.2]) (caps:=[]) (E:=[(0,.osl 2005 b 0 y.length),(1,Av h.2)]) r r r r r r r r ?_ ?_
      ·refine Um (c:=Aoe)<|?_;refine A 19 ?_;refine lP (E:=λ(s:(List Int)×(List Int)×Int) (g:Nat)=>[(0,.osl 2005 b 0 s.1.length),(1,Av h.2),(5,.osl 5 g 0 s.2.1.length),(8,Av (y.length:Int)),(9,Av s.2.2)]) (O:=λs g=>[(5,dW g 1 3 (s.2.1.map Mk)),(1009,dV ba 1 142 (.mref 1014 ar)),(1014,some (ar,⟨true,false,0,0,m.map (Qb D.bool)⟩)),(2005,dW b 1 3 (s.1.map Mk)),(2017,dW k 2 127 (a.map PN))]) (body:=λs=>YA y h f m e i t s.1 s.2.1 s.2.2) (s:=(y,([]:List Int),0)) _ ((hX))<|?_
       rintro⟨aj,af,bb⟩ ck nn
       try dsimp only
       unfold YA;refine A 6 ?_;refine cD r ?_ ?_
       ·refine A 14 ?_;refine cK λhq=>bD λbh bc=>AbP (l:=aj) r r r r r r r hq (λ_ _ _=>Qv) bc<|?_
        refine A 4 ?_;refine cD r ?_ ?_
        ·refine A 13 ?_;exact xL (s:=(bh.1,af++([bb]:List Int),i64.wrap (bb+1))) _ ((hE ⟨(QH (q:=aj.length) r (by simp[Qv bc])),r,r,r,r,trivial⟩ ⟨rfl,r,r,r,r,trivial⟩))
        ·refine A 7 ?_;exact xL (s:=(bh.1,af,i64.wrap (bb+1))) _ ((hE ⟨(QH (q:=aj.length) r (by simp[Qv bc])),r,r,r,r,trivial⟩ ⟨rfl,r,r,r,r,trivial⟩))
       ·refine A 12 ?_;exact RK (d:=.osl 4 _ 0 af.length) (s:=(aj,af)) (_,_,_) r (by first|rfl|(simp[Px,PA,rdA,raw,strip,PG,cells,PC];done)|(simp[Px,PA,rdA,raw,strip,PG,S.ge,S.go,look,Ub,cells,PC];done)) r ((Ql (E1:=[(1,.sl (f.map (eL Mk))),(9,.optr 1009 ba 0 0),(28,.osl 4 _ 0 af.length)]) (O1:=[(4,dW _ 1 3 (af.map Mk)),(1009,dV ba 1 142 (.mref 1014 ar)),(1014,some (ar,⟨true,false,0,0,m.map (Qb D.bool)⟩)),(2005,dW b 1 3 (aj.map Mk)),(2017,dW k 2 127 (a.map PN))]) (hX) (λ_=>Pz (λg=>bif aA 24096 g then g-20000 else bif (aA 1000 g&&aAB g 4096)then g-1000 else bif Nat.beq g 4 then 641 else g) (by rfl) (hX))))
      ·rintro⟨v,p⟩ ⟨cl,cm,cn⟩ nn
       try dsimp only
       unfold YC;refine A 5 ?_;refine lP (E:=λ(s:Int) (g:Nat×Nat×Nat)=>[(1,.sl (f.map (eL Mk))),(9,.optr 9 g.1 0 0),(28,.osl 641 g.2.2 0 p.length),(29,Av (p.length:Int)),(30,Av s)]) (O:=λ_ g=>[(9,dV g.1 1 142 (.mref 14 g.2.1)),(14,some (g.2.1,⟨true,false,0,0,m.map (Qb D.bool)⟩)),(641,dW g.2.2 1 3 (p.map Mk)),(1005,dW b 1 3 (v.map Mk)),(1017,dW k 2 127 (a.map PN))]) (body:=λs=>Vt p f m e h i t v s) (s:=0) (_,_,_) ((hX))<|?_
       rintro ag ⟨co,cp,cq⟩ nn
       try dsimp only
       unfold Vt;refine A 6 ?_;refine cD r ?_ ?_
       ·refine A 7 ?_;refine bD λcr cs=>?_
        refine A 8 ?_;refine bD λx ct=>?_
        refine A 2 ?_;refine mF (caps:=[.optr 9 _ 0 0]) r r (by simp[UX])<|RN (E:=λ(g:Nat×Nat×Nat)=>[(1,.sl (f.map (eL Mk))),(9,.optr 1009 g.1 0 0),(28,.osl 1641 g.2.2 0 p.length),(29,Av (p.length:Int)),(30,Av ag),(37,.sl (x.map Mk)),(38,.clo 148 [.optr 1009 g.1 0 0])]) (O:=λg=>[(1009,dV g.1 1 142 (.mref 1014 g.2.1)),(1014,some (g.2.1,⟨true,false,0,0,m.map (Qb D.bool)⟩)),(1641,dW g.2.2 1 3 (p.map Mk)),(2005,dW b 1 3 (v.map Mk)),(2017,dW k 2 127 (a.map PN))]) (_,_,_) ((Pz (λg=>bif aA 4096 g then g+20000 else g+1000) (by rfl) (hX)))<|?_
        rintro⟨o,w,z⟩ nn
        try dsimp only
        refine AdX (ds:=[.sl (x.map Mk),.clo 148 [.optr 1009 o 0 0]]) (caps:=[]) (E:=[(0,.sl (x.map Mk)),(1,.clo 148 [.optr 1009 o 0 0])]) rfl rfl rfl rfl rfl (show _=some Ue from by kernel_rfl) rfl rfl<|Um (c:=AqW)<|?_
        refine A 9 ?_;refine RN (E:=λ(g:Unit)=>[(5,.sl (x.map Mk)),(6,.clo 148 [.optr 2009 o 0 0])]) (O:=λg=>[(2009,dV o 1 142 (.mref 2014 w)),(2014,some (w,⟨true,false,0,0,m.map (Qb D.bool)⟩)),(2641,dW z 1 3 (p.map Mk)),(3005,dW b 1 3 (v.map Mk)),(3017,dW k 2 127 (a.map PN))]) () ((Pz (λg=>bif aA 4096 g then g+20000 else g+1000) (by rfl) (hX)))<|?_
        rintro⟨⟩ nn
        try dsimp only
        refine Yu (ES:=λ(s:Int) (_g:Unit)=>[(7,Av s)]) (OS:=λ_ _=>[(1009,dV o 1 142 (.mref 1014 w)),(1014,some (w,⟨true,false,0,0,m.map (Qb D.bool)⟩)),(1641,dW z 1 3 (p.map Mk)),(2005,dW b 1 3 (v.map Mk)),(2017,dW k 2 127 (a.map PN))]) (j:=λs=>Sr e h i t v ag s) (ds:=[.sl (x.map Mk),.clo 148 [.optr 2009 o 0 0]]) (caps:=[]) (E:=[(0,.sl (x.map Mk)),(1,.clo 148 [.optr 2009 o 0 0])]) rfl rfl rfl rfl rfl (show _=some Uf from by kernel_rfl) rfl rfl ?_ ?_
        ·refine Um (c:=Ara)<|?_;refine A 14 ?_;refine lP (E:=λ(s:Int) (_g:Unit)=>[(0,.sl (x.map Mk)),(1,.clo 148 [.optr 2009 o 0 0]),(7,Av (x.length:Int)),(8,Av s)]) (O:=λ_ _=>[(2009,dV o 1 142 (.mref 2014 w)),(2014,some (w,⟨true,false,0,0,m.map (Qb D.bool)⟩)),(2641,dW z 1 3 (p.map Mk)),(3005,dW b 1 3 (v.map Mk)),(3017,dW k 2 127 (a.map PN))]) (body:=λs=>Yz x m e h i t v ag s) (s:=0) () ((hX))<|?_
         rintro aa ⟨⟩ nn
         try dsimp only
         unfold Yz;refine A 6 ?_;refine cD r ?_ ?_
         ·refine A 15 ?_;refine bD λah cu=>?_
          refine A 2 ?_;refine RN (E:=λ(g:Unit)=>[(0,.sl (x.map Mk)),(1,.clo 148 [.optr 3009 o 0 0]),(5,Av aa),(7,Av (x.length:Int)),(8,Av aa),(11,.clo 148 [.optr 3009 o 0 0]),(15,Av ah)]) (O:=λg=>[(3009,dV o 1 142 (.mref 3014 w)),(3014,some (w,⟨true,false,0,0,m.map (Qb D.bool)⟩)),(3641,dW z 1 3 (p.map Mk)),(4005,dW b 1 3 (v.map Mk)),(4017,dW k 2 127 (a.map PN))]) () ((Pz (λg=>bif aA 4096 g then g+20000 else g+1000) (by rfl) (hX)))<|?_
          rintro⟨⟩ nn
          try dsimp only
          refine AdX (ds:=[Av ah]) (caps:=[.optr 3009 o 0 0]) (E:=[(0,Av ah),(1,.optr 3009 o 0 0)]) r r r r r r r r<|Um (c:=AqX)<|?_;refine A 9 ?_;refine AlZ (en:=D.bool) (l:=m) r r r r false r<|?_;refine A 4 ?_;refine AkC (d:=.bool (QC false ah m)) (E:=[(0,.sl (x.map Mk)),(1,.clo 148 [.optr 2009 o 0 0]),(5,Av aa),(7,Av (x.length:Int)),(8,Av aa),(16,.bool (QC false ah m))]) (O:=[(2009,dV o 1 142 (.mref 2014 w)),(2014,some (w,⟨true,false,0,0,m.map (Qb D.bool)⟩)),(2641,dW z 1 3 (p.map Mk)),(3005,dW b 1 3 (v.map Mk)),(3017,dW k 2 127 (a.map PN))]) r (by first|rfl|(simp[Px,PA,rdA,raw,strip,PG,cells,PC];done)|(simp[Px,PA,rdA,raw,strip,PG,S.ge,S.go,look,Ub,cells,PC];done)) r ((Ql (E1:=[(0,.sl (x.map Mk)),(1,.clo 148 [.optr 3009 o 0 0]),(5,Av aa),(7,Av (x.length:Int)),(8,Av aa),(16,.bool (QC false ah m))]) (O1:=[(3009,dV o 1 142 (.mref 3014 w)),(3014,some (w,⟨true,false,0,0,m.map (Qb D.bool)⟩)),(3641,dW z 1 3 (p.map Mk)),(4005,dW b 1 3 (v.map Mk)),(4017,dW k 2 127 (a.map PN))]) (hX) (λ_=>Pz (λg=>bif aA 24096 g then g-20000 else bif (aA 1000 g&&aAB g 4096)then g-1000 else g) (by rfl) (hX)))) λnn=>?_
          refine A 2 ?_;refine cD r ?_ ?_
          ·refine A 12 ?_;exact RK (d:=Av aa) (s:=aa) () r (by first|rfl|(simp[Px,PA,rdA,raw,strip,PG,cells,PC];done)|(simp[Px,PA,rdA,raw,strip,PG,S.ge,S.go,look,Ub,cells,PC];done)) r ((Ql (E1:=[(7,Av aa)]) (O1:=[(2009,dV o 1 142 (.mref 2014 w)),(2014,some (w,⟨true,false,0,0,m.map (Qb D.bool)⟩)),(2641,dW z 1 3 (p.map Mk)),(3005,dW b 1 3 (v.map Mk)),(3017,dW k 2 127 (a.map PN))]) (hX) (λ_=>Pz (λg=>bif aA 24096 g then g-20000 else bif (aA 1000 g&&aAB g 4096)then g-1000 else g) (by rfl) (hX))))
          ·refine A 7 ?_;exact xL (s:=i64.wrap (aa+1)) () ((hX))
         ·refine A 11 ?_;exact RK (d:=Av (-1)) (s:=(-1)) () r (by first|rfl|(simp[Px,PA,rdA,raw,strip,PG,cells,PC];done)|(simp[Px,PA,rdA,raw,strip,PG,S.ge,S.go,look,Ub,cells,PC];done)) r ((Ql (E1:=[(7,Av (-1))]) (O1:=[(2009,dV o 1 142 (.mref 2014 w)),(2014,some (w,⟨true,false,0,0,m.map (Qb D.bool)⟩)),(2641,dW z 1 3 (p.map Mk)),(3005,dW b 1 3 (v.map Mk)),(3017,dW k 2 127 (a.map PN))]) (hX) (λ_=>Pz (λg=>bif aA 24096 g then g-20000 else bif (aA 1000 g&&aAB g 4096)then g-1000 else g) (by rfl) (hX))))
        ·rintro bd ⟨⟩ nn
         try dsimp only
         unfold Sr;refine A 5 ?_;refine AkC (d:=.bool (decide (bd>=0))) (E:=[(1,.sl (f.map (eL Mk))),(9,.optr 9 _ 0 0),(28,.osl 641 _ 0 p.length),(29,Av (p.length:Int)),(30,Av ag),(39,.bool (decide (bd>=0)))]) (O:=[(9,dV _ 1 142 (.mref 14 _)),(14,some (_,⟨true,false,0,0,m.map (Qb D.bool)⟩)),(641,dW _ 1 3 (p.map Mk)),(1005,dW b 1 3 (v.map Mk)),(1017,dW k 2 127 (a.map PN))]) r (by first|rfl|(simp[Px,PA,rdA,raw,strip,PG,cells,PC];done)|(simp[Px,PA,rdA,raw,strip,PG,S.ge,S.go,look,Ub,cells,PC];done)) r ((Ql (E1:=[(1,.sl (f.map (eL Mk))),(9,.optr 1009 o 0 0),(28,.osl 1641 z 0 p.length),(29,Av (p.length:Int)),(30,Av ag),(39,.bool (decide (bd>=0)))]) (O1:=[(1009,dV o 1 142 (.mref 1014 w)),(1014,some (w,⟨true,false,0,0,m.map (Qb D.bool)⟩)),(1641,dW z 1 3 (p.map Mk)),(2005,dW b 1 3 (v.map Mk)),(2017,dW k 2 127 (a.map PN))]) (hX) (λ_=>Pz (λg=>bif aA 24096 g then g-20000 else bif (aA 1000 g&&aAB g 4096)then g-1000 else g) (by rfl) (hX)))) λnn=>?_
         refine A 2 ?_;refine cD r ?_ ?_
         ·refine A 11 ?_;exact RK (d:=.bool false) (s:=(v,false)) (_,_) r (by first|rfl|(simp[Px,PA,rdA,raw,strip,PG,cells,PC];done)|(simp[Px,PA,rdA,raw,strip,PG,S.ge,S.go,look,Ub,cells,PC];done)) r ((Ql (E1:=[(1,.sl (f.map (eL Mk))),(5,.osl 1005 b 0 e.length),(8,Av h.2),(9,Av i.2),(17,.osl 1017 k 0 a.length),(18,Av (a.length:Int)),(19,Av t),(34,.bool true),(35,.osl 1005 b 0 e.length),(36,.sl (f.map (eL Mk))),(37,Av h.2),(38,Av i.2),(39,.bool false)]) (O1:=[(1005,dW b 1 3 (v.map Mk)),(1017,dW k 2 127 (a.map PN))]) (hX) (λ_=>Pz (λg=>bif aA 24096 g then g-20000 else bif (aA 1000 g&&aAB g 4096)then g-1000 else g) (by rfl) (hX))))
         ·refine A 7 ?_;exact xL (s:=i64.wrap (ag+1)) (_,_,_) ((hX))
       ·refine A 11 ?_;exact RK (d:=.bool true) (s:=(v,true)) (_,_) r (by first|rfl|(simp[Px,PA,rdA,raw,strip,PG,cells,PC];done)|(simp[Px,PA,rdA,raw,strip,PG,S.ge,S.go,look,Ub,cells,PC];done)) r ((Ql (E1:=[(1,.sl (f.map (eL Mk))),(5,.osl 1005 b 0 e.length),(8,Av h.2),(9,Av i.2),(17,.osl 1017 k 0 a.length),(18,Av (a.length:Int)),(19,Av t),(34,.bool true),(35,.osl 1005 b 0 e.length),(36,.sl (f.map (eL Mk))),(37,Av h.2),(38,Av i.2),(39,.bool true)]) (O1:=[(1005,dW b 1 3 (v.map Mk)),(1017,dW k 2 127 (a.map PN))]) (hX) (λ_=>Pz (λg=>bif aA 24096 g then g-20000 else bif (aA 1000 g&&aAB g 4096)then g-1000 else g) (by rfl) (hX))))
   ·rintro⟨u,au⟩ ⟨cv,cw⟩ nn
    try dsimp only
    unfold Sq;refine AfF λaq=>AfG (E:=λ(g:Nat×Nat)=>[(1,.sl (f.map (eL Mk))),(5,.osl 5 g.1 0 u.length),(8,Av h.2),(9,Av i.2),(17,.osl 17 g.2 0 a.length),(18,Av (a.length:Int)),(19,Av t),(34,.bool true),(35,.osl 5 g.1 0 u.length),(36,.sl (f.map (eL Mk))),(37,Av h.2),(38,Av i.2),(39,.bool au)]) (O:=λg=>[(5,dW g.1 1 3 (u.map Mk)),(17,dW g.2 2 127 (a.map PN))]) (_,_) (hE ⟨rfl,(QH (q:=e.length) r aq),r,r,r,r,r,r,(QH (q:=e.length) r aq),r,r,r,r,trivial⟩ ⟨rfl,r,trivial⟩)<|?_
    rintro⟨cx,cy⟩ nn
    try dsimp only
    refine A 3 ?_;refine cD r ?_ ?_
    ·refine A 4 ?_;refine RN (E:=λ(g:Nat×Nat)=>[(1,.sl (f.map (eL Mk))),(5,.osl 1005 g.1 0 u.length),(17,.osl 1017 g.2 0 a.length),(18,Av (a.length:Int)),(19,Av t),(35,.osl 1005 g.1 0 u.length),(36,.sl (f.map (eL Mk))),(37,Av h.2),(38,Av i.2),(39,.bool au),(41,.osl 1005 g.1 0 u.length),(42,Av h.2),(43,Av i.2)]) (O:=λg=>[(1005,dW g.1 1 3 (u.map Mk)),(1017,dW g.2 2 127 (a.map PN))]) (_,_) ((Pz (λg=>bif aA 4096 g then g+20000 else g+1000) (by rfl) (hX)))<|?_
     rintro⟨ak,bi⟩ nn
     try dsimp only
     refine AdX (ds:=[.osl 1005 ak 0 u.length,Av h.2,Av i.2]) (caps:=[]) (E:=[(0,.osl 1005 ak 0 u.length),(1,Av h.2),(2,Av i.2)]) r r r r r r r r<|Um (c:=AqV)<|?_;refine A 4 ?_;refine cK λhq=>bD λac av=>AbP (l:=u) r r r r r r r hq (λ_ _ _=>Qv) av<|?_
     refine A 2 ?_;refine cK λhq=>bD λab bf=>AbP (l:=ac.1) r r r r r (by simp[Qv av]) r hq (λ_ _ _=>Qv) bf<|?_
     refine A 12 ?_;refine cK λhq=>iO (l:=ab.1) (en:=Mk) (by simp[Qv bf,Qv av]) r r r r hq<|bD λcz da=>?_
     refine A 2 ?_;refine AkC (d:=.tup []) (E:=[(1,.sl (f.map (eL Mk))),(5,.osl 5 _ 0 u.length),(17,.osl 17 _ 0 a.length),(18,Av (a.length:Int)),(19,Av t),(35,.osl 5 _ 0 u.length),(36,.sl (f.map (eL Mk))),(37,Av h.2),(38,Av i.2),(39,.bool au),(44,.tup [])]) (O:=[(5,dW _ 1 3 ((ab.1.set ((PJ ac.2 ab.2).toNat) (RI ac.2 ab.2)).map Mk)),(17,dW _ 2 127 (a.map PN))]) r (by first|rfl|(simp[Px,PA,rdA,raw,strip,PG,cells,PC];done)|(simp[Px,PA,rdA,raw,strip,PG,S.ge,S.go,look,Ub,cells,PC];done)) r ((Ql (E1:=[(1,.sl (f.map (eL Mk))),(5,.osl 1005 ak 0 u.length),(17,.osl 1017 bi 0 a.length),(18,Av (a.length:Int)),(19,Av t),(35,.osl 1005 ak 0 u.length),(36,.sl (f.map (eL Mk))),(37,Av h.2),(38,Av i.2),(39,.bool au),(44,.tup [])]) (O1:=[(1005,dW ak 1 3 ((ab.1.set ((PJ ac.2 ab.2).toNat) (RI ac.2 ab.2)).map Mk)),(1017,dW bi 2 127 (a.map PN))]) (hE ⟨rfl,(QH (q:=u.length) r (by simp)),r,r,r,(QH (q:=u.length) r (by simp)),r,r,r,r,r,trivial⟩ ⟨rfl,r,trivial⟩) (λ_=>Pz (λg=>bif aA 24096 g then g-20000 else bif (aA 1000 g&&aAB g 4096)then g-1000 else g) (by rfl) (hE ⟨rfl,(QH (q:=u.length) r (by simp)),r,r,r,(QH (q:=u.length) r (by simp)),r,r,r,r,r,trivial⟩ ⟨rfl,r,trivial⟩)))) λnn=>?_
     refine A 7 ?_;exact xL (s:=(ab.1.set ((PJ ac.2 ab.2).toNat) (RI ac.2 ab.2),i64.wrap (t+1))) (_,_) ((hE ⟨rfl,(QH (q:=u.length) r (by simp[Qv bf,Qv av])),r,r,r,trivial⟩ ⟨rfl,r,trivial⟩))
    ·refine A 7 ?_;exact xL (s:=(u,i64.wrap (t+1))) (_,_) ((hX))
  ·refine A 16 ?_;exact xL (s:=(i.1,i64.wrap (t+1))) (_,_) ((hE ⟨rfl,(QH (q:=e.length) r (by simp[Qv aw,Qv ao])),r,r,r,trivial⟩ ⟨rfl,r,trivial⟩))
 ·refine A 19 ?_;refine lP (E:=λ(s:(List Int)×(List Int)×Int) (g:Nat×Nat)=>[(5,.osl 5 g.1 0 s.2.1.length),(10,.osl 10 g.2 0 s.1.length),(47,Av (e.length:Int)),(48,Av s.2.2)]) (O:=λs g=>[(5,dW g.1 1 3 (s.2.1.map Mk)),(10,dW g.2 1 3 (s.1.map Mk))]) (body:=λs=>XP e s.1 s.2.1 s.2.2) (s:=(([]:List Int),e,0)) (_,_) ((hX))<|?_
  rintro⟨bp,bj,bq⟩ ⟨db,dc⟩ nn
  try dsimp only
  unfold XP;refine A 6 ?_;refine cD r ?_ ?_
  ·refine A 14 ?_;refine cK λhq=>bD λbk bl=>AbP (l:=bj) r r r r r r r hq (λ_ _ _=>Qv) bl<|?_
   refine A 10 ?_;exact xL (s:=(bp++([bk.2]:List Int),bk.1,i64.wrap (bq+1))) (_,_) ((hE ⟨(QH (q:=bj.length) r (by simp[Qv bl])),r,r,r,trivial⟩ ⟨rfl,r,trivial⟩))
  ·exact B

def AiK (b:PE):List D:=[SE b]
def AcQ:Dw.Spec:=Pe [(0,(12,75))] .val QZ RB (λa=>Wl a) UJ AiK
theorem AhP:Pb Tryz.prog 30 AcQ:=by
 refine fn2 1 (Pf (l:=[(61,Afl),(62,Aeq)]) (by simp[AjW,Ajl])) Tryz.func30<|?_
 intro a;unfold Wl;refine A 11 ?_;refine bD λc d=>?_
 refine A 15 ?_;refine bD λb e=>?_
 refine A 5 ?_;refine Aic (l:=b) (en:=Mk) (z':=.agg [.sl (a.p.Funcs.map Pk),Av a.i,Av a.f.Params,.sl (a.f.Slots.map Pu),.sl (a.f.Code.map Pl),.sl (a.x.Live.Out.map (eL Mk)),.row 1 3 (b.map Mk),.sl (a.x.Rename.Keep.map D.bool),.sl (a.x.LiveAfter.Out.map (eL Mk)),Av a.x.Layout.Args,Av a.x.Layout.Size,.sl (a.x.Layout.Off.map Mk)]) r r r r r r (λ_=>r) r r<|?_
 refine A 1 ?_;refine Aql (E:=[]) (O:=[(8192,dV 0 12 75 (.agg [.sl (a.p.Funcs.map Pk),Av a.i,Av a.f.Params,.sl (a.f.Slots.map Pu),.sl (a.f.Code.map Pl),.sl (a.x.Live.Out.map (eL Mk)),.sl (b.map Mk),.sl (a.x.Rename.Keep.map D.bool),.sl (a.x.LiveAfter.Out.map (eL Mk)),Av a.x.Layout.Args,Av a.x.Layout.Size,.sl (a.x.Layout.Off.map Mk)]))]) ((Acd (g:=8192) r (Aqr (by repeat' first|exact FrL.nil|apply FrL.row (ZJ λ_=>rfl)|apply FrL.same)) (hX))) (λ_ h=>by cases h) λnn=>?_
 exact B

end
end Go.Proofs.YtilmapojncgflaaGreatDoor
