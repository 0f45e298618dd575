/-
  Programs on typed data, and the proofs that the code does what they say; written by a program (dx.py).
-/
import Derived.Test.YtilmapojncgflaaGreatDoorProg
import Derived.Test.YtilmapojncgflaaGreatDoorDd
import Derived.KernelRfl
import Derived.Test.YtilmapojncgflaaGreatDoorSh
import Derived.Test.YtilmapojncgflaaGreatDoorDxP
import Derived.Test.YtilmapojncgflaaGreatDoorDxF1
import Derived.Test.YtilmapojncgflaaGreatDoorDxF2
open List renaming replicate->aAA
open Nat renaming ble->aA,blt->aAB
namespace Go.Proofs.YtilmapojncgflaaGreatDoor
open Go Go.Dw Go.Proofs
open Go.IntKind (i64)
set_option maxRecDepth 100000
set_option maxHeartbeats 40000000
open Go.Dw renaming Rv -> bD,Qj -> cK,AfI -> bS,Zn -> cV,Aav -> iO,AdA -> cD,Afa -> xC,Abp -> xL,YX -> hE,Afb -> lP,AcG -> sC,Ahn -> mF,rf -> r
noncomputable section
def TZ (a:Lo×Ph):List D:=[Pl a.1,WE a.2,.clo 105 []]
def TY (ds:List D):Lo×Ph:=(TT (ds.getD 0 .top),AcI (ds.getD 1 .top))
instance:PD TZ TY:=⟨λa=>by simp[TY,TZ]⟩
def SV (b:(List (List Int))×Int):D:=.tup [.sl (b.1.map (eL Le)),Av b.2]
def UB:Dw.Spec:=Pd [] .val TZ TY (λa=>TD a.1 a.2) SV noE
def Xf:Dw.Spec:=Vf (specs []) 1 [(.t 2)] Alm
theorem AcL:Pb Tryz.prog 142 Xf:=RY (Px) Tryz.func142 (by decide) Apb Apc (by decide)
theorem Aes:Pb Tryz.prog 104 UB:=by
 refine fn2 3 (Pg (l:=[(141,ZY),(142,Xf),(143,SN),(105,AcO),(144,Vw)]) (by simp[Aea,AcL,Tq,AhL,YY])) Tryz.func104<|?_
 rintro⟨a,e⟩;unfold TD;refine A 13 ?_;refine bD λr3 au=>?_
 refine A 10 ?_;refine cD r ?_ ?_
 ·exact B
 ·refine A 7 ?_;refine RT (E:=λ(g:Nat×Nat)=>[(2,.clo 105 []),(3,.optr 1003 g.1 0 0),(4,.optr 1004 g.2 0 0),(24,Av (a.Slots.length:Int))]) (O:=λg=>[(1003,dV g.1 3 36 (Pl a)),(1004,dV g.2 1 40 (.agg [.sl (e.Out.map (eL Le))]))]) (_,_) ((Py (λg=>bif aA 4096 g then g+20000 else g+1000) (by rfl) (hX)))<|?_
  rintro⟨y,aa⟩ nn
  try dsimp only
  refine Yh (ES:=λ(s:(List (List Bool))) (g:Nat×Nat×Nat)=>[(2,.clo 105 []),(3,.optr 3 g.1 0 0),(4,.optr 4 g.2.1 0 0),(25,.osl 4697 g.2.2 0 s.length)]) (OS:=λs g=>[(3,dV g.1 3 36 (Pl a)),(4,dV g.2.1 1 40 (.agg [.sl (e.Out.map (eL Le))])),(4697,dW g.2.2 1 42 (s.map (eR 1 4 D.bool)))]) (j:=λs=>Ry a e s) (ds:=[Av (a.Slots.length:Int)]) (caps:=[]) (E:=[(0,Av (a.Slots.length:Int))]) r r r r r r r r ?_ ?_
  ·refine Ur (c:=Alm)<|?_;refine A 8 ?_;refine cK λhq=>Aaw (α:=Bool) r r r hq r<|?_
   refine A 2 ?_;refine Qp (E:=[(0,Av (a.Slots.length:Int)),(3,.osl 4099 _ 0 ((aAA (a.Slots.length:Int).toNat ([]:(List Bool))).length))]) (O:=[(1003,dV y 3 36 (Pl a)),(1004,dV aa 1 40 (.agg [.sl (e.Out.map (eL Le))])),(4099,dW _ 1 42 ((aAA (a.Slots.length:Int).toNat ([]:(List Bool))).map (eR 1 4 D.bool)))]) ((AeM (g:=3) (g2:=4099) r r r (AhI (l:=aAA (a.Slots.length:Int).toNat ([]:(List Bool))) (s':=1) (ty':=4) D.bool (by decide) (λ_ h=>List.eq_of_mem_replicate h)) (hX))) λnn=>?_
   refine A 9 ?_;refine lP (E:=λ(s:(List (List Bool))×Int) (g:Nat)=>[(0,Av (a.Slots.length:Int)),(3,.osl 4099 g 0 s.1.length),(8,Av ((aAA (a.Slots.length:Int).toNat ([]:(List Bool))).length:Int)),(9,Av s.2)]) (O:=λs g=>[(1003,dV y 3 36 (Pl a)),(1004,dV aa 1 40 (.agg [.sl (e.Out.map (eL Le))])),(4099,dW g 1 42 (s.1.map (eR 1 4 D.bool)))]) (body:=λs=>SI a e s.1 s.2) (s:=(aAA (a.Slots.length:Int).toNat ([]:(List Bool)),0)) _ ((hX))<|?_
   rintro⟨w,av⟩ aw nn
   try dsimp only
   unfold SI;refine A 6 ?_;refine cD r ?_ ?_
   ·refine A 16 ?_;refine bD λag ah=>AdK (l:=w) (q:=ag) (q':=aAA (a.Slots.length:Int).toNat false) D.bool rfl rfl rfl rfl (.inl rfl) ah rfl rfl ⟨⟨rfl,rfl,by simp,Zh λ_=>rfl⟩,trivial,rfl⟩ (congrArg (λz=>[D.row _ _ z]) (RA _ _ rfl)) rfl<|?_
    exact B
   ·refine A 12 ?_;exact RK (d:=.osl 4099 _ 0 w.length) (s:=w) (_,_,_) r (by first|rfl|(simp[Pv,Pz,rdA,raw,strip,PG,cells,PA];done)|(simp[Pv,Pz,rdA,raw,strip,PG,S.ge,S.go,look,Ue,cells,PA];done)) r ((Qi (E1:=[(2,.clo 105 []),(3,.optr 1003 y 0 0),(4,.optr 1004 aa 0 0),(25,.osl 4099 _ 0 w.length)]) (O1:=[(1003,dV y 3 36 (Pl a)),(1004,dV aa 1 40 (.agg [.sl (e.Out.map (eL Le))])),(4099,dW _ 1 42 (w.map (eR 1 4 D.bool)))]) (hX) (λ_=>Py (λg=>bif aA 24096 g then g-20000 else bif (aA 1000 g&&aAB g 4096)then g-1000 else bif Nat.beq g 4099 then 4697 else g) (by rfl) (hX))))
  ·rintro x4 ⟨ax,ay,az⟩ nn
   try dsimp only
   unfold Ry;refine A 13 ?_;refine lP (E:=λ(s:(List (List Bool))×Int) (g:Nat×Nat)=>[(2,.clo 105 []),(4,.optr 4 g.1 0 0),(9,.osl 4697 g.2 0 s.1.length),(27,.sl (a.Code.map Pu)),(28,Av (a.Code.length:Int)),(29,Av s.2)]) (O:=λs g=>[(4,dV g.1 1 40 (.agg [.sl (e.Out.map (eL Le))])),(4697,dW g.2 1 42 (s.1.map (eR 1 4 D.bool)))]) (body:=λs=>SG a e s.1 s.2) (s:=(x4,0)) (_,_) ((hX))<|?_
   rintro⟨o,k⟩ ⟨ba,bb⟩ nn
   try dsimp only
   unfold SG;refine A 6 ?_;refine cD r ?_ ?_
   ·refine A 7 ?_;refine bD λb bc=>?_
    refine A 10 ?_;refine bD λf bd=>?_
    refine A 8 ?_;refine sC (E:=λ(s:Bool×Bool) (g:Nat×Nat×Nat)=>[(2,.clo 105 []),(4,.optr 4 g.1 0 0),(9,.osl 4697 g.2.2 0 o.length),(10,Av k),(11,.optr 11 g.2.1 0 0),(12,Av f.1),(27,.sl (a.Code.map Pu)),(28,Av (a.Code.length:Int)),(29,Av k),(42,.optr 11 g.2.1 0 0),(43,Av b.Op),(44,.bool (b.Op==17)),(45,.bool s.1),(51,.bool s.2)]) (O:=λ_ g=>[(4,dV g.1 1 40 (.agg [.sl (e.Out.map (eL Le))])),(11,dV g.2.1 5 63 (Pu b)),(4697,dW g.2.2 1 42 (o.map (eR 1 4 D.bool)))]) (j:=λs=>QK e k f b o s.1 s.2) ?_ ?_
    ·refine A 5 ?_;refine PM r ?_ ?_
     ·refine A 22 ?_;exact xL (s:=(o,i64.wrap (k+1))) (_,_) ((hX))
     ·refine A 4 ?_;refine PM r ?_ ?_
      ·refine A 9 ?_;refine cD r ?_ ?_
       ·refine A 8 ?_;exact xL (s:=(o,i64.wrap (k+1))) (_,_) ((hX))
       ·refine A 1 ?_;exact xC (s:=(true,(b.A==b.B))) (_,_,_) ((hX))
      ·refine A 11 ?_;exact xC (s:=(false,false)) (_,_,_) ((hX))
    ·rintro⟨x9,ac⟩ ⟨bf,bg,bh⟩ nn
     try dsimp only
     unfold QK;refine A 5 ?_;refine bD λp bi=>?_
     refine A 7 ?_;refine lP (E:=λ(s:(List (List Bool))×Int) (g:Nat×Nat×Nat)=>[(2,.clo 105 []),(4,.optr 4 g.1 0 0),(9,.osl 4697 g.2.2 0 s.1.length),(11,.optr 11 g.2.1 0 0),(12,Av f.1),(27,.sl (a.Code.map Pu)),(28,Av (a.Code.length:Int)),(29,Av k),(42,.optr 11 g.2.1 0 0),(43,Av b.Op),(44,.bool (b.Op==17)),(45,.bool x9),(51,.bool ac),(57,.sl (p.map Le)),(58,Av (p.length:Int)),(59,Av s.2)]) (O:=λs g=>[(4,dV g.1 1 40 (.agg [.sl (e.Out.map (eL Le))])),(11,dV g.2.1 5 63 (Pu b)),(4697,dW g.2.2 1 42 (s.1.map (eR 1 4 D.bool)))]) (body:=λs=>SH p f b k s.1 s.2) (s:=(o,0)) (_,_,_) ((hX))<|?_
     rintro⟨m,x⟩ ⟨bj,bk,bl⟩ nn
     try dsimp only
     unfold SH;refine A 6 ?_;refine cD r ?_ ?_
     ·refine A 6 ?_;refine bD λt bm=>?_
      refine A 5 ?_;refine sC (E:=λ(s:Bool) (g:Nat×Nat×Nat)=>[(2,.clo 105 []),(4,.optr 4 g.1 0 0),(9,.osl 4697 g.2.2 0 m.length),(11,.optr 11 g.2.1 0 0),(12,Av f.1),(15,Av t),(27,.sl (a.Code.map Pu)),(28,Av (a.Code.length:Int)),(29,Av k),(42,.optr 11 g.2.1 0 0),(43,Av b.Op),(44,.bool (b.Op==17)),(45,.bool x9),(51,.bool ac),(57,.sl (p.map Le)),(58,Av (p.length:Int)),(59,Av x),(72,.bool s)]) (O:=λ_ g=>[(4,dV g.1 1 40 (.agg [.sl (e.Out.map (eL Le))])),(11,dV g.2.1 5 63 (Pu b)),(4697,dW g.2.2 1 42 (m.map (eR 1 4 D.bool)))]) (j:=λs=>Qf m f t x s) ?_ ?_
      ·refine A 5 ?_;refine PM r ?_ ?_
       ·refine A 3 ?_;refine bD λaj bn=>?_
        refine A 4 ?_;exact xC (s:=(!aj)) (_,_,_) ((hX))
       ·refine A 7 ?_;exact xC (s:=false) (_,_,_) ((hX))
      ·rintro bo ⟨bp,bq,br⟩ nn
       try dsimp only
       unfold Qf;refine cD r ?_ ?_
       ·refine AjJ λu ad=>AjJ λv ae=>Arx λaf=>AlI (E:=[(2,.clo 105 []),(4,.optr 4 _ 0 0),(9,.osl 4697 _ 0 m.length),(11,.optr 11 _ 0 0),(12,Av f.1),(15,Av t),(27,.sl (a.Code.map Pu)),(28,Av (a.Code.length:Int)),(29,Av k),(42,.optr 11 _ 0 0),(43,Av b.Op),(44,.bool (b.Op==17)),(45,.bool x9),(51,.bool ac),(57,.sl (p.map Le)),(58,Av (p.length:Int)),(59,Av x)]) (O:=[(4,dV _ 1 40 (.agg [.sl (e.Out.map (eL Le))])),(11,dV _ 5 63 (Pu b)),(4697,dW _ 1 42 (((m.map (eR 1 4 D.bool)).set f.1.toNat (.hole 4717 _ u.length)).set t.toNat (.hole 4718 _ v.length))),(4717,dW _ 1 4 (u.map D.bool)),(4718,dW _ 1 4 (v.map D.bool))]) (Amq (g:=4697) (i:=f.1.toNat) (j:=t.toNat) (t1:=621) (t2:=622) D.bool r ad ae af (hX)) λnn=>?_
        refine A 2 ?_;refine cK λhq=>Yi (by simp) r r r r (by simpa using hq)<|AdJ (nm:=4717) (q:=u.length) r r r (Apg ad af)<|?_
        refine A 3 ?_;refine cK λhq=>Yi (by simp) r r r r (by simpa using hq)<|AdJ (nm:=4718) (q:=v.length) r r r (Aph ae)<|?_
        refine A 2 ?_;refine bD λak ao=>AaN (l:=u) (en:=D.bool) (q:=ak) (q':=true) r r r r r ao r (λ_=>r) r r r ⟨trivial,trivial,r⟩<|?_
        refine A 1 ?_;refine bD λap aq=>AaN (l:=v) (en:=D.bool) (q:=ap) (q':=true) r r r r r aq r (λ_=>r) r r r ⟨trivial,trivial,r⟩<|?_
        refine A 2 ?_;refine Qp (E:=[(2,.clo 105 []),(4,.optr 4 _ 0 0),(9,.osl 4697 _ 0 m.length),(11,.optr 11 _ 0 0),(12,Av f.1),(27,.sl (a.Code.map Pu)),(28,Av (a.Code.length:Int)),(29,Av k),(42,.optr 11 _ 0 0),(43,Av b.Op),(44,.bool (b.Op==17)),(45,.bool x9),(51,.bool ac),(57,.sl (p.map Le)),(58,Av (p.length:Int)),(59,Av x)]) (O:=[(4,dV _ 1 40 (.agg [.sl (e.Out.map (eL Le))])),(11,dV _ 5 63 (Pu b)),(4697,dW _ 1 42 (((m.set f.1.toNat (u.set t.toNat true)).set t.toNat (v.set f.1.toNat true)).map (eR 1 4 D.bool)))]) ((Als (g:=4697) (g1:=4717) (g2:=4718) (l:=m) (en:=D.bool) (i:=f.1.toNat) (j:=t.toNat) (q1:=u) (q2:=v) (q1':=u.set t.toNat true) (q2':=v.set f.1.toNat true) ad ae af r r r (by simp) (by simp) (λ_=>r) (hE ⟨rfl,r,(QD (q:=m.length) r (by simp)),r,r,r,r,r,r,r,r,r,r,r,r,r,trivial⟩ ⟨rfl,r,r,trivial⟩))) λnn=>?_
        exact B
       ·refine A 7 ?_;exact xL (s:=(m,i64.wrap (x+1))) (_,_,_) ((hX))
     ·refine A 10 ?_;exact xL (s:=(m,i64.wrap (k+1))) (_,_) ((hX))
   ·refine A 4 ?_;refine Qp (E:=[(9,.osl 4697 _ 0 o.length)]) (O:=[(4697,dW _ 1 42 (o.map (eL D.bool)))]) ((AbC (g:=4697) r (AhJ (l:=o) D.bool (λ_=>r)) (hX))) λnn=>?_
    exact B

def AeE:Dw.Spec:=Pd [] .val QS QQ (λa=>Uk a.1 a.2) SV noE
theorem AiX:Pb Tryz.prog 61 AeE:=by
 refine fn2 2 (Pg (l:=[(434280,UB)]) (by simp[Aes])) Tryz.func61<|?_
 rintro⟨a,b⟩;unfold Uk;refine A 12 ?_;refine bD λd c=>cV (a,b) rfl rfl (show _=some UB from by kernel_rfl) PD.ok rfl rfl (by simp) r c<|?_
 exact B

def AdT:Dw.Spec:=Pd [] (.row 1 3) Qh Qg (λa=>AaR a) PX noE
theorem Aiz:Pb Tryz.prog 106 AdT:=by
 refine fn2 1 (Px) Tryz.func106<|?_;intro a;unfold AaR;refine A 21 ?_;refine lP (E:=λ(s:(List Int)×Int) (g:Nat)=>[(3,.osl 3 g 0 s.1.length),(8,Av ((aAA a.toNat (0:Int)).length:Int)),(9,Av s.2)]) (O:=λs g=>[(3,dW g 1 3 (s.1.map Le))]) (body:=λs=>Yq a s.1 s.2) (s:=(aAA a.toNat (0:Int),0)) _ ((hX))<|?_
 rintro⟨b,c⟩ d nn
 try dsimp only
 unfold Yq;exact B

def Sn (a:(List Pn)×Pn):List D:=[.sl (a.1.map PN),PN a.2]
def Sm (ds:List D):(List Pn)×Pn:=((uL Ahq) (ds.getD 0 .top),Ahq (ds.getD 1 .top))
instance:PD Sn Sm:=⟨λa=>by simp[Sm,Sn,Qo (u:=Ahq) (en:=PN) ArB]⟩
def Ye:Dw.Spec:=Pd [] .ground Sn Sm (λa=>Tl a.1 a.2) Pf noE
theorem Aeg:Pb Tryz.prog 188 Ye:=by
 refine fn2 2 (Px) Tryz.func188<|?_;rintro⟨a,b⟩;unfold Tl;refine A 15 ?_;refine lP (E:=λ(s:Int) (g:Nat)=>[(0,.sl (a.map PN)),(3,.optr 3 g 0 0),(7,Av (a.length:Int)),(8,Av s)]) (O:=λ_ g=>[(3,dV g 2 127 (.agg [Av b.a0,Av b.a1]))]) (body:=λs=>Qc a b s) (s:=0) _ ((hX))<|?_
 rintro c d nn
 try dsimp only
 unfold Qc;refine A 6 ?_;refine cD r ?_ ?_
 ·refine A 15 ?_;refine bD λe f=>?_
  refine A 5 ?_;refine cD r ?_ ?_
  ·exact B
  ·refine A 7 ?_;exact xL (s:=i64.wrap (c+1)) _ ((hX))
 ·exact B

def Wy:Dw.Spec:=Pd [] .ground Sn Sm (λa=>Rr a.1 a.2) Pm noE
theorem AcE:Pb Tryz.prog 145 Wy:=by
 refine fn2 2 (Pg (l:=[(188,Ye)]) (by simp[Aeg])) Tryz.func145<|?_
 intro a;unfold Rr;exact B

def AjT (b:(List Pn)):D:=.sl (b.map PN)
def AeF:Dw.Spec:=Pd [] (.row 2 127) VM VL (λa=>VO a) AjT noE
theorem AiY:Pb Tryz.prog 107 AeF:=by
 refine fn2 1 (Pg (l:=[(145,Wy)]) (by simp[AcE])) Tryz.func107<|?_
 intro d;unfold VO;refine A 21 ?_;refine lP (E:=λ(s:(List Pn)×Int) (g:Nat)=>[(3,.osl 3 g 0 s.1.length),(8,.sl (d.Code.map Pu)),(9,Av (d.Code.length:Int)),(10,Av s.2)]) (O:=λs g=>[(3,dW g 2 127 (s.1.map PN))]) (body:=λs=>QO d s.1 s.2) (s:=(([]:List Pn),0)) _ ((hX))<|?_
 rintro⟨a,b⟩ e nn
 try dsimp only
 unfold QO;refine A 6 ?_;refine cD r ?_ ?_
 ·refine A 6 ?_;refine bD λc f=>?_
  refine A 23 ?_;refine PM r ?_ ?_
  ·refine A 7 ?_;refine PM r ?_ ?_
   ·refine A 2 ?_;refine bD λh i=>?_
    refine A 5 ?_;refine cD r ?_ ?_
    ·refine A 3 ?_;refine bS ([(Pn.mk c.A c.B)]:List Pn) PN r r r (by simp) r r r<|?_
     refine A 9 ?_;exact xL (s:=(a++([(Pn.mk c.A c.B)]:List Pn),i64.wrap (b+1))) _ ((hX))
    ·refine A 7 ?_;exact xL (s:=(a,i64.wrap (b+1))) _ ((hX))
   ·refine A 15 ?_;exact xL (s:=(a,i64.wrap (b+1))) _ ((hX))
  ·refine A 22 ?_;exact xL (s:=(a,i64.wrap (b+1))) _ ((hX))
 ·exact B

def ApI:PZ:=(Tryz.f109.body.bind (PS Tryz.prog Tryz.f109.ntmps)).getD .skip
theorem AsR:(Tryz.f109.body.bind (PS Tryz.prog Tryz.f109.ntmps))=some ApI:=by kernel_rfl
theorem AsS:Tryz.f109.results.toList.mapM (TH Tryz.prog)=some [(.t 8)]:=by kernel_rfl

def Ana:PZ:=(Tryz.f146.body.bind (PS Tryz.prog Tryz.f146.ntmps)).getD .skip
theorem AsV:(Tryz.f146.body.bind (PS Tryz.prog Tryz.f146.ntmps))=some Ana:=by kernel_rfl
theorem AsW:Tryz.f146.results.toList.mapM (TH Tryz.prog)=some [(.t 4)]:=by kernel_rfl

def ApK:PZ:=(Tryz.f147.body.bind (PS Tryz.prog Tryz.f147.ntmps)).getD .skip
theorem AsX:(Tryz.f147.body.bind (PS Tryz.prog Tryz.f147.ntmps))=some ApK:=by kernel_rfl
theorem AsY:Tryz.f147.results.toList.mapM (TH Tryz.prog)=some [(.t 4)]:=by kernel_rfl

def ApO:PZ:=(Tryz.f189.body.bind (PS Tryz.prog Tryz.f189.ntmps)).getD .skip
theorem Atf:(Tryz.f189.body.bind (PS Tryz.prog Tryz.f189.ntmps))=some ApO:=by kernel_rfl
theorem Atg:Tryz.f189.results.toList.mapM (TH Tryz.prog)=some [(.t 4)]:=by kernel_rfl

def ApL:PZ:=(Tryz.f148.body.bind (PS Tryz.prog Tryz.f148.ntmps)).getD .skip
theorem AsZ:(Tryz.f148.body.bind (PS Tryz.prog Tryz.f148.ntmps))=some ApL:=by kernel_rfl
theorem Ata:Tryz.f148.results.toList.mapM (TH Tryz.prog)=some [(.t 3)]:=by kernel_rfl

def ApJ:PZ:=(Tryz.f110.body.bind (PS Tryz.prog Tryz.f110.ntmps)).getD .skip
theorem AsT:(Tryz.f110.body.bind (PS Tryz.prog Tryz.f110.ntmps))=some ApJ:=by kernel_rfl
theorem AsU:Tryz.f110.results.toList.mapM (TH Tryz.prog)=some []:=by kernel_rfl

def Xy (a:Lo×(List (List Int))):List D:=[Pl a.1,.sl (a.2.map (eL Le))]
def Xx (ds:List D):Lo×(List (List Int)):=(TT (ds.getD 0 .top),(uL (uL uI)) (ds.getD 1 .top))
instance:PD Xy Xx:=⟨λa=>by simp[Xx,Xy,Qo (u:=(uL uI)) (en:=(eL Le)) (Qo (u:=uI) (en:=Le) (λ_=>rfl))]⟩
def AdR:Dw.Spec:=Pd [] (.row 1 3) Xy Xx (λa=>UZ a.1 a.2) PX noE
def WQ:Dw.Spec:=Vf (specs [(108,RB)]) 2 [(.t 4)] Ana
theorem Agp:Pb Tryz.prog 146 WQ:=RY (Pg (l:=[(108,RB)]) (by simp[Vt])) Tryz.func146 (by decide) AsV AsW (by decide)
def WR:Dw.Spec:=Vf (specs []) 2 [(.t 3)] ApL
theorem Ags:Pb Tryz.prog 148 WR:=RY (Px) Tryz.func148 (by decide) AsZ Ata (by decide)
def Abu:Dw.Spec:=Vf (specs [(108,RB)]) 3 [] ApJ
theorem Agt:Pb Tryz.prog 110 Abu:=RY (Pg (l:=[(108,RB)]) (by simp[Vt])) Tryz.func110 (by decide) AsT AsU (by decide)
def Ui:Dw.Spec:=Vf (specs [(148,WR)]) 2 [(.t 4)] ApO
theorem Agr:Pb Tryz.prog 189 Ui:=RY (Pg (l:=[(148,WR)]) (by simp[Ags])) Tryz.func189 (by decide) Atf Atg (by decide)
def Uh:Dw.Spec:=Vf (specs [(610493,Ui)]) 2 [(.t 4)] ApK
theorem Agq:Pb Tryz.prog 147 Uh:=RY (Pg (l:=[(610493,Ui)]) (by simp[Agr])) Tryz.func147 (by decide) AsX AsY (by decide)
def Abt:Dw.Spec:=Vf (specs [(146,WQ),(610451,Uh)]) 4 [(.t 8)] ApI
theorem Ago:Pb Tryz.prog 109 Abt:=RY (Pg (l:=[(146,WQ),(610451,Uh)]) (by simp[Agp,Agq])) Tryz.func109 (by decide) AsR AsS (by decide)
theorem Aix:Pb Tryz.prog 62 AdR:=by
 refine fn2 2 (Pg (l:=[(106,AdT),(107,AeF),(108,RB),(109,Abt),(110,Abu)]) (by simp[Aiz,AiY,Vt,Ago,Agt])) Tryz.func62<|?_
 rintro⟨f1,f⟩;unfold UZ;refine A 11 ?_;refine bD λr3 bs=>?_
 refine A 8 ?_;refine bD λa bt=>?_
 refine A 6 ?_;refine lP (E:=λ(s:(List Int)×Int) (g:Nat×Nat)=>[(1,.sl (f.map (eL Le))),(5,.osl 5 g.1 0 s.1.length),(17,.osl 17 g.2 0 a.length),(18,Av (a.length:Int)),(19,Av s.2)]) (O:=λs g=>[(5,dW g.1 1 3 (s.1.map Le)),(17,dW g.2 2 127 (a.map PN))]) (body:=λs=>Yj a f s.1 s.2) (s:=(r3,0)) (_,_) ((hX))<|?_
 rintro⟨e,t⟩ ⟨bu,bv⟩ nn
 try dsimp only
 unfold Yj;refine A 6 ?_;refine cD r ?_ ?_
 ·refine A 7 ?_;refine bD λbw bx=>?_
  refine A 8 ?_;refine Uq r r r (by decide)<|?_
  refine A 1 ?_;refine cK λhq=>bD λh ao=>Abo (l:=e) r r r r r r r hq (λ_ _ _=>Qu) ao<|?_
  refine A 1 ?_;refine Uq r r r (by decide)<|?_
  refine A 1 ?_;refine cK λhq=>bD λi aw=>Abo (l:=h.1) r r r r r (by simp[Qu ao]) r hq (λ_ _ _=>Qu) aw<|?_
  refine A 10 ?_;refine PM r ?_ ?_
  ·refine A 4 ?_;refine RT (E:=λ(g:Nat×Nat)=>[(1,.sl (f.map (eL Le))),(5,.osl 1005 g.1 0 e.length),(8,Av h.2),(9,Av i.2),(17,.osl 1017 g.2 0 a.length),(18,Av (a.length:Int)),(19,Av t),(34,.bool true),(35,.osl 1005 g.1 0 e.length),(36,.sl (f.map (eL Le))),(37,Av h.2),(38,Av i.2)]) (O:=λg=>[(1005,dW g.1 1 3 (i.1.map Le)),(1017,dW g.2 2 127 (a.map PN))]) (_,_) ((Py (λg=>bif aA 4096 g then g+20000 else g+1000) (by rfl) (hE ⟨rfl,(QD (q:=e.length) r (by simp)),r,r,r,r,r,r,(QD (q:=e.length) r (by simp)),r,r,r,trivial⟩ ⟨rfl,r,trivial⟩)))<|?_
   rintro⟨b,k⟩ nn
   try dsimp only
   refine Aif (ES:=λ(s:(List Int)×Bool) (g:Nat×Nat)=>[(1,.sl (f.map (eL Le))),(5,.osl 5 g.1 0 e.length),(8,Av h.2),(9,Av i.2),(17,.osl 17 g.2 0 a.length),(18,Av (a.length:Int)),(19,Av t),(34,.bool true),(35,.osl 5 g.1 0 e.length),(36,.sl (f.map (eL Le))),(37,Av h.2),(38,Av i.2),(39,.bool s.2)]) (OS:=λs g=>[(5,dW g.1 1 3 (s.1.map Le)),(17,dW g.2 2 127 (a.map PN))]) (j:=λs=>Sz e h i t s.1 s.2) (ds:=[.osl 1005 b 0 e.length,.sl (f.map (eL Le)),Av h.2,Av i.2]) (caps:=[]) (E:=[(0,.osl 1005 b 0 e.length),(1,.sl (f.map (eL Le))),(2,Av h.2),(3,Av i.2)]) r r r r r r r r ?_ ?_
   ·refine Ur (c:=ApI)<|?_;refine A 7 ?_;refine Apq λnn=>?_
    refine A 9 ?_;refine RT (E:=λ(g:Nat×Nat)=>[(0,.osl 2005 b 0 e.length),(1,.sl (f.map (eL Le))),(2,Av h.2),(9,.optr 1009 g.1 0 0),(15,.osl 2005 b 0 e.length),(16,Av i.2)]) (O:=λg=>[(1009,dV g.1 1 142 (.mref 1014 g.2)),(1014,some (g.2,⟨true,false,0,0,([]:List (Int×Bool)).map (Qa D.bool)⟩)),(2005,dW b 1 3 (i.1.map Le)),(2017,dW k 2 127 (a.map PN))]) (_,_) ((Py (λg=>bif aA 4096 g then g+20000 else g+1000) (by rfl) (hE ⟨(QD (q:=e.length) r (by simp)),r,r,r,(QD (q:=e.length) r (by simp)),r,trivial⟩ ⟨rfl,r,r,r,trivial⟩)))<|?_
    rintro⟨ax,ap⟩ nn
    try dsimp only
    refine Aif (ES:=λ(s:(List Int)×(List Int)) (g:Nat×Nat×Nat)=>[(0,.osl 1005 b 0 e.length),(1,.sl (f.map (eL Le))),(2,Av h.2),(9,.optr 9 g.1 0 0),(17,.osl 621 g.2.2 0 s.2.length)]) (OS:=λs g=>[(9,dV g.1 1 142 (.mref 14 g.2.1)),(14,some (g.2.1,⟨true,false,0,0,([]:List (Int×Bool)).map (Qa D.bool)⟩)),(621,dW g.2.2 1 3 (s.2.map Le)),(1005,dW b 1 3 (s.1.map Le)),(1017,dW k 2 127 (a.map PN))]) (j:=λs=>Yn e h f i t s.1 s.2) (ds:=[.osl 2005 b 0 e.length,Av i.2]) (caps:=[]) (E:=[(0,.osl 2005 b 0 e.length),(1,Av i.2)]) r r r r r r r r ?_ ?_
    ·refine Ur (c:=Ana)<|?_;refine A 19 ?_;refine lP (E:=λ(s:(List Int)×(List Int)×Int) (g:Nat)=>[(0,.osl 2005 b 0 s.1.length),(1,Av i.2),(5,.osl 5 g 0 s.2.1.length),(8,Av (e.length:Int)),(9,Av s.2.2)]) (O:=λs g=>[(5,dW g 1 3 (s.2.1.map Le)),(1009,dV ax 1 142 (.mref 1014 ap)),(1014,some (ap,⟨true,false,0,0,([]:List (Int×Bool)).map (Qa D.bool)⟩)),(2005,dW b 1 3 (s.1.map Le)),(2017,dW k 2 127 (a.map PN))]) (body:=λs=>UA e i h f t s.1 s.2.1 s.2.2) (s:=(i.1,([]:List Int),0)) _ ((hE ⟨(QD (q:=e.length) r (by simp[Qu aw,Qu ao])),r,r,r,r,trivial⟩ ⟨rfl,r,r,r,r,trivial⟩))<|?_
     rintro⟨ai,ad,ay⟩ bz nn
     try dsimp only
     unfold UA;refine A 6 ?_;refine cD r ?_ ?_
     ·refine A 14 ?_;refine cK λhq=>bD λbg az=>Abo (l:=ai) r r r r r r r hq (λ_ _ _=>Qu) az<|?_
      refine A 4 ?_;refine cD r ?_ ?_
      ·refine A 13 ?_;exact xL (s:=(bg.1,ad++([ay]:List Int),i64.wrap (ay+1))) _ ((hE ⟨(QD (q:=ai.length) r (by simp[Qu az])),r,r,r,r,trivial⟩ ⟨rfl,r,r,r,r,trivial⟩))
      ·refine A 7 ?_;exact xL (s:=(bg.1,ad,i64.wrap (ay+1))) _ ((hE ⟨(QD (q:=ai.length) r (by simp[Qu az])),r,r,r,r,trivial⟩ ⟨rfl,r,r,r,r,trivial⟩))
     ·refine A 12 ?_;exact RK (d:=.osl 4 _ 0 ad.length) (s:=(ai,ad)) (_,_,_) r (by first|rfl|(simp[Pv,Pz,rdA,raw,strip,PG,cells,PA];done)|(simp[Pv,Pz,rdA,raw,strip,PG,S.ge,S.go,look,Ue,cells,PA];done)) r ((Qi (E1:=[(0,.osl 2005 b 0 e.length),(1,.sl (f.map (eL Le))),(2,Av h.2),(9,.optr 1009 ax 0 0),(17,.osl 4 _ 0 ad.length)]) (O1:=[(4,dW _ 1 3 (ad.map Le)),(1009,dV ax 1 142 (.mref 1014 ap)),(1014,some (ap,⟨true,false,0,0,([]:List (Int×Bool)).map (Qa D.bool)⟩)),(2005,dW b 1 3 (ai.map Le)),(2017,dW k 2 127 (a.map PN))]) (hX) (λ_=>Py (λg=>bif aA 24096 g then g-20000 else bif (aA 1000 g&&aAB g 4096)then g-1000 else bif Nat.beq g 4 then 621 else g) (by rfl) (hX))))
    ·rintro⟨y,ae⟩ ⟨ca,cb,cc⟩ nn
     try dsimp only
     unfold Yn;refine AeY λaq=>AeZ (E:=λ(g:Nat×Nat×Nat)=>[(0,.osl 1005 b 0 y.length),(1,.sl (f.map (eL Le))),(2,Av h.2),(9,.optr 9 g.1 0 0),(17,.osl 621 g.2.2 0 ae.length)]) (O:=λg=>[(9,dV g.1 1 142 (.mref 14 g.2.1)),(14,some (g.2.1,⟨true,false,0,0,([]:List (Int×Bool)).map (Qa D.bool)⟩)),(621,dW g.2.2 1 3 (ae.map Le)),(1005,dW b 1 3 (y.map Le)),(1017,dW k 2 127 (a.map PN))]) (_,_,_) (hE ⟨(QD (q:=e.length) r aq),r,r,r,r,trivial⟩ ⟨rfl,r,r,r,r,trivial⟩)<|?_
     rintro⟨cd,ce,cf⟩ nn
     try dsimp only
     refine A 5 ?_;refine lP (E:=λ(s:(List (Int×Bool))×Int) (g:Nat×Nat×Nat)=>[(0,.osl 1005 b 0 y.length),(1,.sl (f.map (eL Le))),(2,Av h.2),(9,.optr 9 g.1 0 0),(17,.osl 621 g.2.2 0 ae.length),(18,Av (ae.length:Int)),(19,Av s.2)]) (O:=λs g=>[(9,dV g.1 1 142 (.mref 14 g.2.1)),(14,some (g.2.1,⟨true,false,0,0,s.1.map (Qa D.bool)⟩)),(621,dW g.2.2 1 3 (ae.map Le)),(1005,dW b 1 3 (y.map Le)),(1017,dW k 2 127 (a.map PN))]) (body:=λs=>Yk ae y h f e i t s.1 s.2) (s:=(([]:List (Int×Bool)),0)) (_,_,_) ((hX))<|?_
     rintro⟨m,bn⟩ ⟨cg,ch,ci⟩ nn
     try dsimp only
     unfold Yk;refine A 6 ?_;refine cD r ?_ ?_
     ·refine A 7 ?_;refine bD λbo cj=>?_
      refine A 7 ?_;refine AkY (en:=D.bool) (l:=m) r r r true r r r r<|?_;refine A 7 ?_;exact xL (s:=(RN bo true m,i64.wrap (bn+1))) (_,_,_) ((hX))
     ·refine A 10 ?_;refine RT (E:=λ(g:Nat×Nat)=>[(1,.sl (f.map (eL Le))),(9,.optr 1009 g.1 0 0),(26,.osl 2005 b 0 y.length),(27,Av h.2)]) (O:=λg=>[(1009,dV g.1 1 142 (.mref 1014 g.2)),(1014,some (g.2,⟨true,false,0,0,m.map (Qa D.bool)⟩)),(2005,dW b 1 3 (y.map Le)),(2017,dW k 2 127 (a.map PN))]) (_,_) ((Py (λg=>bif aA 4096 g then g+20000 else g+1000) (by rfl) (hX)))<|?_
      rintro⟨ba,ar⟩ nn
      try dsimp only
      refine Yh (ES:=λ(s:(List Int)×(List Int)) (g:Nat×Nat×Nat)=>[(1,.sl (f.map (eL Le))),(9,.optr 9 g.1 0 0),(28,.osl 641 g.2.2 0 s.2.length)]) (OS:=λs g=>[(9,dV g.1 1 142 (.mref 14 g.2.1)),(14,some (g.2.1,⟨true,false,0,0,m.map (Qa D.bool)⟩)),(641,dW g.2.2 1 3 (s.2.map Le)),(1005,dW b 1 3 (s.1.map Le)),(1017,dW k 2 127 (a.map PN))]) (j:=λs=>Yo f m e h i t s.1 s.2) (ds:=[.osl 2005 b 0 y.length,Av h.2]) (caps:=[]) (E:=[(0,.osl 2005 b 0 y.length),(1,Av h.2)]) r r r r r r r r ?_ ?_
      ·refine Ur (c:=Ana)<|?_;refine A 19 ?_;refine lP (E:=λ(s:(List Int)×(List Int)×Int) (g:Nat)=>[(0,.osl 2005 b 0 s.1.length),(1,Av h.2),(5,.osl 5 g 0 s.2.1.length),(8,Av (y.length:Int)),(9,Av s.2.2)]) (O:=λs g=>[(5,dW g 1 3 (s.2.1.map Le)),(1009,dV ba 1 142 (.mref 1014 ar)),(1014,some (ar,⟨true,false,0,0,m.map (Qa D.bool)⟩)),(2005,dW b 1 3 (s.1.map Le)),(2017,dW k 2 127 (a.map PN))]) (body:=λs=>Ym y h f m e i t s.1 s.2.1 s.2.2) (s:=(y,([]:List Int),0)) _ ((hX))<|?_
       rintro⟨aj,af,bb⟩ ck nn
       try dsimp only
       unfold Ym;refine A 6 ?_;refine cD r ?_ ?_
       ·refine A 14 ?_;refine cK λhq=>bD λbh bc=>Abo (l:=aj) r r r r r r r hq (λ_ _ _=>Qu) bc<|?_
        refine A 4 ?_;refine cD r ?_ ?_
        ·refine A 13 ?_;exact xL (s:=(bh.1,af++([bb]:List Int),i64.wrap (bb+1))) _ ((hE ⟨(QD (q:=aj.length) r (by simp[Qu bc])),r,r,r,r,trivial⟩ ⟨rfl,r,r,r,r,trivial⟩))
        ·refine A 7 ?_;exact xL (s:=(bh.1,af,i64.wrap (bb+1))) _ ((hE ⟨(QD (q:=aj.length) r (by simp[Qu bc])),r,r,r,r,trivial⟩ ⟨rfl,r,r,r,r,trivial⟩))
       ·refine A 12 ?_;exact RK (d:=.osl 4 _ 0 af.length) (s:=(aj,af)) (_,_,_) r (by first|rfl|(simp[Pv,Pz,rdA,raw,strip,PG,cells,PA];done)|(simp[Pv,Pz,rdA,raw,strip,PG,S.ge,S.go,look,Ue,cells,PA];done)) r ((Qi (E1:=[(1,.sl (f.map (eL Le))),(9,.optr 1009 ba 0 0),(28,.osl 4 _ 0 af.length)]) (O1:=[(4,dW _ 1 3 (af.map Le)),(1009,dV ba 1 142 (.mref 1014 ar)),(1014,some (ar,⟨true,false,0,0,m.map (Qa D.bool)⟩)),(2005,dW b 1 3 (aj.map Le)),(2017,dW k 2 127 (a.map PN))]) (hX) (λ_=>Py (λg=>bif aA 24096 g then g-20000 else bif (aA 1000 g&&aAB g 4096)then g-1000 else bif Nat.beq g 4 then 641 else g) (by rfl) (hX))))
      ·rintro⟨v,p⟩ ⟨cl,cm,cn⟩ nn
       try dsimp only
       unfold Yo;refine A 5 ?_;refine lP (E:=λ(s:Int) (g:Nat×Nat×Nat)=>[(1,.sl (f.map (eL Le))),(9,.optr 9 g.1 0 0),(28,.osl 641 g.2.2 0 p.length),(29,Av (p.length:Int)),(30,Av s)]) (O:=λ_ g=>[(9,dV g.1 1 142 (.mref 14 g.2.1)),(14,some (g.2.1,⟨true,false,0,0,m.map (Qa D.bool)⟩)),(641,dW g.2.2 1 3 (p.map Le)),(1005,dW b 1 3 (v.map Le)),(1017,dW k 2 127 (a.map PN))]) (body:=λs=>Vk p f m e h i t v s) (s:=0) (_,_,_) ((hX))<|?_
       rintro ag ⟨co,cp,cq⟩ nn
       try dsimp only
       unfold Vk;refine A 6 ?_;refine cD r ?_ ?_
       ·refine A 7 ?_;refine bD λcr cs=>?_
        refine A 8 ?_;refine bD λx ct=>?_
        refine A 2 ?_;refine mF (caps:=[.optr 9 _ 0 0]) r r (by simp[UX])<|RT (E:=λ(g:Nat×Nat×Nat)=>[(1,.sl (f.map (eL Le))),(9,.optr 1009 g.1 0 0),(28,.osl 1641 g.2.2 0 p.length),(29,Av (p.length:Int)),(30,Av ag),(37,.sl (x.map Le)),(38,.clo 148 [.optr 1009 g.1 0 0])]) (O:=λg=>[(1009,dV g.1 1 142 (.mref 1014 g.2.1)),(1014,some (g.2.1,⟨true,false,0,0,m.map (Qa D.bool)⟩)),(1641,dW g.2.2 1 3 (p.map Le)),(2005,dW b 1 3 (v.map Le)),(2017,dW k 2 127 (a.map PN))]) (_,_,_) ((Py (λg=>bif aA 4096 g then g+20000 else g+1000) (by rfl) (hX)))<|?_
        rintro⟨o,w,z⟩ nn
        try dsimp only
        refine Ady (ds:=[.sl (x.map Le),.clo 148 [.optr 1009 o 0 0]]) (caps:=[]) (E:=[(0,.sl (x.map Le)),(1,.clo 148 [.optr 1009 o 0 0])]) rfl rfl rfl rfl rfl (show _=some Uh from by kernel_rfl) rfl rfl<|Ur (c:=ApK)<|?_
        refine A 9 ?_;refine RT (E:=λ(g:Unit)=>[(5,.sl (x.map Le)),(6,.clo 148 [.optr 2009 o 0 0])]) (O:=λg=>[(2009,dV o 1 142 (.mref 2014 w)),(2014,some (w,⟨true,false,0,0,m.map (Qa D.bool)⟩)),(2641,dW z 1 3 (p.map Le)),(3005,dW b 1 3 (v.map Le)),(3017,dW k 2 127 (a.map PN))]) () ((Py (λg=>bif aA 4096 g then g+20000 else g+1000) (by rfl) (hX)))<|?_
        rintro⟨⟩ nn
        try dsimp only
        refine Yh (ES:=λ(s:Int) (_g:Unit)=>[(7,Av s)]) (OS:=λ_ _=>[(1009,dV o 1 142 (.mref 1014 w)),(1014,some (w,⟨true,false,0,0,m.map (Qa D.bool)⟩)),(1641,dW z 1 3 (p.map Le)),(2005,dW b 1 3 (v.map Le)),(2017,dW k 2 127 (a.map PN))]) (j:=λs=>SA e h i t v ag s) (ds:=[.sl (x.map Le),.clo 148 [.optr 2009 o 0 0]]) (caps:=[]) (E:=[(0,.sl (x.map Le)),(1,.clo 148 [.optr 2009 o 0 0])]) rfl rfl rfl rfl rfl (show _=some Ui from by kernel_rfl) rfl rfl ?_ ?_
        ·refine Ur (c:=ApO)<|?_;refine A 14 ?_;refine lP (E:=λ(s:Int) (_g:Unit)=>[(0,.sl (x.map Le)),(1,.clo 148 [.optr 2009 o 0 0]),(7,Av (x.length:Int)),(8,Av s)]) (O:=λ_ _=>[(2009,dV o 1 142 (.mref 2014 w)),(2014,some (w,⟨true,false,0,0,m.map (Qa D.bool)⟩)),(2641,dW z 1 3 (p.map Le)),(3005,dW b 1 3 (v.map Le)),(3017,dW k 2 127 (a.map PN))]) (body:=λs=>Yl x m e h i t v ag s) (s:=0) () ((hX))<|?_
         rintro aa ⟨⟩ nn
         try dsimp only
         unfold Yl;refine A 6 ?_;refine cD r ?_ ?_
         ·refine A 15 ?_;refine bD λah cu=>?_
          refine A 2 ?_;refine RT (E:=λ(g:Unit)=>[(0,.sl (x.map Le)),(1,.clo 148 [.optr 3009 o 0 0]),(5,Av aa),(7,Av (x.length:Int)),(8,Av aa),(11,.clo 148 [.optr 3009 o 0 0]),(15,Av ah)]) (O:=λg=>[(3009,dV o 1 142 (.mref 3014 w)),(3014,some (w,⟨true,false,0,0,m.map (Qa D.bool)⟩)),(3641,dW z 1 3 (p.map Le)),(4005,dW b 1 3 (v.map Le)),(4017,dW k 2 127 (a.map PN))]) () ((Py (λg=>bif aA 4096 g then g+20000 else g+1000) (by rfl) (hX)))<|?_
          rintro⟨⟩ nn
          try dsimp only
          refine Ady (ds:=[Av ah]) (caps:=[.optr 3009 o 0 0]) (E:=[(0,Av ah),(1,.optr 3009 o 0 0)]) r r r r r r r r<|Ur (c:=ApL)<|?_;refine A 9 ?_;refine AkX (en:=D.bool) (l:=m) r r r r false r<|?_;refine A 4 ?_;refine AjI (d:=.bool (Qz false ah m)) (E:=[(0,.sl (x.map Le)),(1,.clo 148 [.optr 2009 o 0 0]),(5,Av aa),(7,Av (x.length:Int)),(8,Av aa),(16,.bool (Qz false ah m))]) (O:=[(2009,dV o 1 142 (.mref 2014 w)),(2014,some (w,⟨true,false,0,0,m.map (Qa D.bool)⟩)),(2641,dW z 1 3 (p.map Le)),(3005,dW b 1 3 (v.map Le)),(3017,dW k 2 127 (a.map PN))]) r (by first|rfl|(simp[Pv,Pz,rdA,raw,strip,PG,cells,PA];done)|(simp[Pv,Pz,rdA,raw,strip,PG,S.ge,S.go,look,Ue,cells,PA];done)) r ((Qi (E1:=[(0,.sl (x.map Le)),(1,.clo 148 [.optr 3009 o 0 0]),(5,Av aa),(7,Av (x.length:Int)),(8,Av aa),(16,.bool (Qz false ah m))]) (O1:=[(3009,dV o 1 142 (.mref 3014 w)),(3014,some (w,⟨true,false,0,0,m.map (Qa D.bool)⟩)),(3641,dW z 1 3 (p.map Le)),(4005,dW b 1 3 (v.map Le)),(4017,dW k 2 127 (a.map PN))]) (hX) (λ_=>Py (λg=>bif aA 24096 g then g-20000 else bif (aA 1000 g&&aAB g 4096)then g-1000 else g) (by rfl) (hX)))) λnn=>?_
          refine A 2 ?_;refine cD r ?_ ?_
          ·refine A 12 ?_;exact RK (d:=Av aa) (s:=aa) () r (by first|rfl|(simp[Pv,Pz,rdA,raw,strip,PG,cells,PA];done)|(simp[Pv,Pz,rdA,raw,strip,PG,S.ge,S.go,look,Ue,cells,PA];done)) r ((Qi (E1:=[(7,Av aa)]) (O1:=[(2009,dV o 1 142 (.mref 2014 w)),(2014,some (w,⟨true,false,0,0,m.map (Qa D.bool)⟩)),(2641,dW z 1 3 (p.map Le)),(3005,dW b 1 3 (v.map Le)),(3017,dW k 2 127 (a.map PN))]) (hX) (λ_=>Py (λg=>bif aA 24096 g then g-20000 else bif (aA 1000 g&&aAB g 4096)then g-1000 else g) (by rfl) (hX))))
          ·refine A 7 ?_;exact xL (s:=i64.wrap (aa+1)) () ((hX))
         ·refine A 11 ?_;exact RK (d:=Av (-1)) (s:=(-1)) () r (by first|rfl|(simp[Pv,Pz,rdA,raw,strip,PG,cells,PA];done)|(simp[Pv,Pz,rdA,raw,strip,PG,S.ge,S.go,look,Ue,cells,PA];done)) r ((Qi (E1:=[(7,Av (-1))]) (O1:=[(2009,dV o 1 142 (.mref 2014 w)),(2014,some (w,⟨true,false,0,0,m.map (Qa D.bool)⟩)),(2641,dW z 1 3 (p.map Le)),(3005,dW b 1 3 (v.map Le)),(3017,dW k 2 127 (a.map PN))]) (hX) (λ_=>Py (λg=>bif aA 24096 g then g-20000 else bif (aA 1000 g&&aAB g 4096)then g-1000 else g) (by rfl) (hX))))
        ·rintro bd ⟨⟩ nn
         try dsimp only
         unfold SA;refine A 5 ?_;refine AjI (d:=.bool (decide (bd>=0))) (E:=[(1,.sl (f.map (eL Le))),(9,.optr 9 _ 0 0),(28,.osl 641 _ 0 p.length),(29,Av (p.length:Int)),(30,Av ag),(39,.bool (decide (bd>=0)))]) (O:=[(9,dV _ 1 142 (.mref 14 _)),(14,some (_,⟨true,false,0,0,m.map (Qa D.bool)⟩)),(641,dW _ 1 3 (p.map Le)),(1005,dW b 1 3 (v.map Le)),(1017,dW k 2 127 (a.map PN))]) r (by first|rfl|(simp[Pv,Pz,rdA,raw,strip,PG,cells,PA];done)|(simp[Pv,Pz,rdA,raw,strip,PG,S.ge,S.go,look,Ue,cells,PA];done)) r ((Qi (E1:=[(1,.sl (f.map (eL Le))),(9,.optr 1009 o 0 0),(28,.osl 1641 z 0 p.length),(29,Av (p.length:Int)),(30,Av ag),(39,.bool (decide (bd>=0)))]) (O1:=[(1009,dV o 1 142 (.mref 1014 w)),(1014,some (w,⟨true,false,0,0,m.map (Qa D.bool)⟩)),(1641,dW z 1 3 (p.map Le)),(2005,dW b 1 3 (v.map Le)),(2017,dW k 2 127 (a.map PN))]) (hX) (λ_=>Py (λg=>bif aA 24096 g then g-20000 else bif (aA 1000 g&&aAB g 4096)then g-1000 else g) (by rfl) (hX)))) λnn=>?_
         refine A 2 ?_;refine cD r ?_ ?_
         ·refine A 11 ?_;exact RK (d:=.bool false) (s:=(v,false)) (_,_) r (by first|rfl|(simp[Pv,Pz,rdA,raw,strip,PG,cells,PA];done)|(simp[Pv,Pz,rdA,raw,strip,PG,S.ge,S.go,look,Ue,cells,PA];done)) r ((Qi (E1:=[(1,.sl (f.map (eL Le))),(5,.osl 1005 b 0 e.length),(8,Av h.2),(9,Av i.2),(17,.osl 1017 k 0 a.length),(18,Av (a.length:Int)),(19,Av t),(34,.bool true),(35,.osl 1005 b 0 e.length),(36,.sl (f.map (eL Le))),(37,Av h.2),(38,Av i.2),(39,.bool false)]) (O1:=[(1005,dW b 1 3 (v.map Le)),(1017,dW k 2 127 (a.map PN))]) (hX) (λ_=>Py (λg=>bif aA 24096 g then g-20000 else bif (aA 1000 g&&aAB g 4096)then g-1000 else g) (by rfl) (hX))))
         ·refine A 7 ?_;exact xL (s:=i64.wrap (ag+1)) (_,_,_) ((hX))
       ·refine A 11 ?_;exact RK (d:=.bool true) (s:=(v,true)) (_,_) r (by first|rfl|(simp[Pv,Pz,rdA,raw,strip,PG,cells,PA];done)|(simp[Pv,Pz,rdA,raw,strip,PG,S.ge,S.go,look,Ue,cells,PA];done)) r ((Qi (E1:=[(1,.sl (f.map (eL Le))),(5,.osl 1005 b 0 e.length),(8,Av h.2),(9,Av i.2),(17,.osl 1017 k 0 a.length),(18,Av (a.length:Int)),(19,Av t),(34,.bool true),(35,.osl 1005 b 0 e.length),(36,.sl (f.map (eL Le))),(37,Av h.2),(38,Av i.2),(39,.bool true)]) (O1:=[(1005,dW b 1 3 (v.map Le)),(1017,dW k 2 127 (a.map PN))]) (hX) (λ_=>Py (λg=>bif aA 24096 g then g-20000 else bif (aA 1000 g&&aAB g 4096)then g-1000 else g) (by rfl) (hX))))
   ·rintro⟨u,au⟩ ⟨cv,cw⟩ nn
    try dsimp only
    unfold Sz;refine AeY λaq=>AeZ (E:=λ(g:Nat×Nat)=>[(1,.sl (f.map (eL Le))),(5,.osl 5 g.1 0 u.length),(8,Av h.2),(9,Av i.2),(17,.osl 17 g.2 0 a.length),(18,Av (a.length:Int)),(19,Av t),(34,.bool true),(35,.osl 5 g.1 0 u.length),(36,.sl (f.map (eL Le))),(37,Av h.2),(38,Av i.2),(39,.bool au)]) (O:=λg=>[(5,dW g.1 1 3 (u.map Le)),(17,dW g.2 2 127 (a.map PN))]) (_,_) (hE ⟨rfl,(QD (q:=e.length) r aq),r,r,r,r,r,r,(QD (q:=e.length) r aq),r,r,r,r,trivial⟩ ⟨rfl,r,trivial⟩)<|?_
    rintro⟨cx,cy⟩ nn
    try dsimp only
    refine A 3 ?_;refine cD r ?_ ?_
    ·refine A 4 ?_;refine RT (E:=λ(g:Nat×Nat)=>[(1,.sl (f.map (eL Le))),(5,.osl 1005 g.1 0 u.length),(17,.osl 1017 g.2 0 a.length),(18,Av (a.length:Int)),(19,Av t),(35,.osl 1005 g.1 0 u.length),(36,.sl (f.map (eL Le))),(37,Av h.2),(38,Av i.2),(39,.bool au),(41,.osl 1005 g.1 0 u.length),(42,Av h.2),(43,Av i.2)]) (O:=λg=>[(1005,dW g.1 1 3 (u.map Le)),(1017,dW g.2 2 127 (a.map PN))]) (_,_) ((Py (λg=>bif aA 4096 g then g+20000 else g+1000) (by rfl) (hX)))<|?_
     rintro⟨ak,bi⟩ nn
     try dsimp only
     refine Ady (ds:=[.osl 1005 ak 0 u.length,Av h.2,Av i.2]) (caps:=[]) (E:=[(0,.osl 1005 ak 0 u.length),(1,Av h.2),(2,Av i.2)]) r r r r r r r r<|Ur (c:=ApJ)<|?_;refine A 4 ?_;refine cK λhq=>bD λac av=>Abo (l:=u) r r r r r r r hq (λ_ _ _=>Qu) av<|?_
     refine A 2 ?_;refine cK λhq=>bD λab bf=>Abo (l:=ac.1) r r r r r (by simp[Qu av]) r hq (λ_ _ _=>Qu) bf<|?_
     refine A 12 ?_;refine cK λhq=>iO (l:=ab.1) (en:=Le) (by simp[Qu bf,Qu av]) r r r r hq<|bD λcz da=>?_
     refine A 2 ?_;refine AjI (d:=.tup []) (E:=[(1,.sl (f.map (eL Le))),(5,.osl 5 _ 0 u.length),(17,.osl 17 _ 0 a.length),(18,Av (a.length:Int)),(19,Av t),(35,.osl 5 _ 0 u.length),(36,.sl (f.map (eL Le))),(37,Av h.2),(38,Av i.2),(39,.bool au),(44,.tup [])]) (O:=[(5,dW _ 1 3 ((ab.1.set ((PF ac.2 ab.2).toNat) (SO ac.2 ab.2)).map Le)),(17,dW _ 2 127 (a.map PN))]) r (by first|rfl|(simp[Pv,Pz,rdA,raw,strip,PG,cells,PA];done)|(simp[Pv,Pz,rdA,raw,strip,PG,S.ge,S.go,look,Ue,cells,PA];done)) r ((Qi (E1:=[(1,.sl (f.map (eL Le))),(5,.osl 1005 ak 0 u.length),(17,.osl 1017 bi 0 a.length),(18,Av (a.length:Int)),(19,Av t),(35,.osl 1005 ak 0 u.length),(36,.sl (f.map (eL Le))),(37,Av h.2),(38,Av i.2),(39,.bool au),(44,.tup [])]) (O1:=[(1005,dW ak 1 3 ((ab.1.set ((PF ac.2 ab.2).toNat) (SO ac.2 ab.2)).map Le)),(1017,dW bi 2 127 (a.map PN))]) (hE ⟨rfl,(QD (q:=u.length) r (by simp)),r,r,r,(QD (q:=u.length) r (by simp)),r,r,r,r,r,trivial⟩ ⟨rfl,r,trivial⟩) (λ_=>Py (λg=>bif aA 24096 g then g-20000 else bif (aA 1000 g&&aAB g 4096)then g-1000 else g) (by rfl) (hE ⟨rfl,(QD (q:=u.length) r (by simp)),r,r,r,(QD (q:=u.length) r (by simp)),r,r,r,r,r,trivial⟩ ⟨rfl,r,trivial⟩)))) λnn=>?_
     refine A 7 ?_;exact xL (s:=(ab.1.set ((PF ac.2 ab.2).toNat) (SO ac.2 ab.2),i64.wrap (t+1))) (_,_) ((hE ⟨rfl,(QD (q:=u.length) r (by simp[Qu bf,Qu av])),r,r,r,trivial⟩ ⟨rfl,r,trivial⟩))
    ·refine A 7 ?_;exact xL (s:=(u,i64.wrap (t+1))) (_,_) ((hX))
  ·refine A 16 ?_;exact xL (s:=(i.1,i64.wrap (t+1))) (_,_) ((hE ⟨rfl,(QD (q:=e.length) r (by simp[Qu aw,Qu ao])),r,r,r,trivial⟩ ⟨rfl,r,trivial⟩))
 ·refine A 19 ?_;refine lP (E:=λ(s:(List Int)×(List Int)×Int) (g:Nat×Nat)=>[(5,.osl 5 g.1 0 s.2.1.length),(10,.osl 10 g.2 0 s.1.length),(47,Av (e.length:Int)),(48,Av s.2.2)]) (O:=λs g=>[(5,dW g.1 1 3 (s.2.1.map Le)),(10,dW g.2 1 3 (s.1.map Le))]) (body:=λs=>Xw e s.1 s.2.1 s.2.2) (s:=(([]:List Int),e,0)) (_,_) ((hX))<|?_
  rintro⟨bp,bj,bq⟩ ⟨db,dc⟩ nn
  try dsimp only
  unfold Xw;refine A 6 ?_;refine cD r ?_ ?_
  ·refine A 14 ?_;refine cK λhq=>bD λbk bl=>Abo (l:=bj) r r r r r r r hq (λ_ _ _=>Qu) bl<|?_
   refine A 10 ?_;exact xL (s:=(bp++([bk.2]:List Int),bk.1,i64.wrap (bq+1))) (_,_) ((hE ⟨(QD (q:=bj.length) r (by simp[Qu bl])),r,r,r,trivial⟩ ⟨rfl,r,trivial⟩))
  ·exact B

def AhR (b:PC):List D:=[SR b]
def Acm:Dw.Spec:=Pd [(0,(12,75))] .val QW RD (λa=>VS a) UH AhR
theorem Ahd:Pb Tryz.prog 30 Acm:=by
 refine fn2 1 (Pg (l:=[(61,AeE),(62,AdR)]) (by simp[AiX,Aix])) Tryz.func30<|?_
 intro a;unfold VS;refine A 11 ?_;refine bD λc d=>?_
 refine A 15 ?_;refine bD λb e=>?_
 refine A 5 ?_;refine Aho (l:=b) (en:=Le) (z':=.agg [.sl (a.p.Funcs.map Pl),Av a.i,Av a.f.Params,.sl (a.f.Slots.map Pt),.sl (a.f.Code.map Pu),.sl (a.x.Live.Out.map (eL Le)),.row 1 3 (b.map Le),.sl (a.x.Rename.Keep.map D.bool),.sl (a.x.LiveAfter.Out.map (eL Le)),Av a.x.Layout.Args,Av a.x.Layout.Size,.sl (a.x.Layout.Off.map Le)]) r r r r r r (λ_=>r) r r<|?_
 refine A 1 ?_;refine AoY (E:=[]) (O:=[(8192,dV 0 12 75 (.agg [.sl (a.p.Funcs.map Pl),Av a.i,Av a.f.Params,.sl (a.f.Slots.map Pt),.sl (a.f.Code.map Pu),.sl (a.x.Live.Out.map (eL Le)),.sl (b.map Le),.sl (a.x.Rename.Keep.map D.bool),.sl (a.x.LiveAfter.Out.map (eL Le)),Av a.x.Layout.Args,Av a.x.Layout.Size,.sl (a.x.Layout.Off.map Le)]))]) ((AbC (g:=8192) r (Apf (by repeat' first|exact FrL.nil|apply FrL.row (Zh λ_=>rfl)|apply FrL.same)) (hX))) (λ_ h=>by cases h) λnn=>?_
 exact B

end
end Go.Proofs.YtilmapojncgflaaGreatDoor
