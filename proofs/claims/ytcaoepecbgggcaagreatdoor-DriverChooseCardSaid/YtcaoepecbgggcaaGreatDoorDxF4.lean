/-
 The code does what its typed programs say.
-/
import Derived.Test.YtcaoepecbgggcaaGreatDoorProg
import Derived.Test.YtcaoepecbgggcaaGreatDoorDc
import Derived.KernelRfl
import Derived.Test.YtcaoepecbgggcaaGreatDoorSh
import Derived.Test.YtcaoepecbgggcaaGreatDoorDxP
import Derived.Test.YtcaoepecbgggcaaGreatDoorDxF1
import Derived.Test.YtcaoepecbgggcaaGreatDoorCl
import Derived.Test.YtcaoepecbgggcaaGreatDoorDxF3
import Derived.Test.YtcaoepecbgggcaaGreatDoorTrl
namespace Go.Proofs.YtcaoepecbgggcaaGreatDoor
open Go Go.Dw Go.Proofs
open Go.IntKind (i64)
set_option maxRecDepth 100000
set_option maxHeartbeats 40000000
open Go.Dw renaming Ql -> bD,Qo -> cK,YJ -> sE,AaX -> iO,UZ -> cD,Xt -> xC,Ui -> xL,AbZ -> hE,Xu -> lP,Tt -> sC,rf -> r
def Agt (a:NG×Int×NN):List D:=[Ps a.1,Av a.2.1,OB a.2.2]
def Ags (ds:List D):NG×Int×NN:=(Rn (ds.getD 0 .top),uI (ds.getD 1 .top),AaY (ds.getD 2 .top))
instance:Oc Agt Ags:=⟨λa=>by simp[Ags,Agt,uI]⟩
def Aog (b:OI):D:=OK b
noncomputable def Ajs:Dw.Spec:=NI [] .val Agt Ags (λa=>AaQ a.1 a.2.1 a.2.2) Aog noE
theorem Asx:ND Tryz.prog 112 Ajs:=by
 refine fn2 3 (NJ (l:=[(176,Aun),(177,VL),(236,Aej),(237,Aek),(238,Ael),(239,Aem),(240,Aen),(235,Apz)]) (by simp[Axo,AmX,Alq,Alr,Als,Alu,Alv,Atu])) Tryz.func112<|?_
 rintro⟨p1,i2,d⟩;unfold AaQ;refine Ab 12 λe ak=>?_
 refine Ab 14 λh ao=>?_
 refine Ab 8 λr6 aq=>?_
 refine A 15 ?_;refine lP (E:=λ(s:(List Lo)×Int) (g:Nat×Nat×Nat×Nat×Nat×Nat)=>[(5,.optr 5 g.1 0 0),(6,.optr 6 g.2.1 0 0),(7,.optr 7 g.2.2.1 0 0),(8,.optr 8 g.2.2.2.1 0 0),(9,.optr 9 g.2.2.2.2.1 0 0),(27,.osl 23 g.2.2.2.2.2 0 s.1.length),(28,Av (h.length:Int)),(29,Av s.2)]) (O:=λs g=>[(5,dV g.1 3 39 (OB d)),(6,dV g.2.1 3 75 (.agg [Av 0,Av 0,.nils])),(7,dV g.2.2.1 3 36 (NM e)),(8,dV g.2.2.2.1 3 75 (.agg [Av e.Params,Av d.Size,.osl 23 g.2.2.2.2.2 0 s.1.length])),(9,dV g.2.2.2.2.1 25 196 (.agg (Adr.map AnD))),(23,dW g.2.2.2.2.2 5 90 (s.1.map NX))]) (body:=λs=>AcM h e d s.1 s.2) (s:=(h,0)) (_,_,_,_,_,_) hX<|?_
 rintro⟨a,c⟩ ⟨ar,au,av,aw,ax,ay⟩ nn
 try dsimp only
 unfold AcM;refine Ac 6 ?_ ?_
 ·refine A 7 ?_;refine cK λhq=>iO (l:=a) (en:=NX) r r r r r hq<|bD λf az=>?_
  refine A 12 ?_;refine cK λhq=>Qx r r r hq<|Ans (λi=>?_) (λi=>?_)
  ·refine Qs (q:=236) (l:=Adr) (en:=AnD) (j:=f.Op.toNat) (by simp) r r r (Anr (k:=15) i r) r (λ_=>r)<|?_
   refine Ab 3 λm ba=>?_
   refine A 2 ?_;refine bD λbb ac=>sE (l:=a) (en:=NX) (q':=m) r r r r r r r (by simp) ac r r r r r<|?_
   refine A 7 ?_;exact xL (s:=(a.set c.toNat m,i64.wrap (c+1))) (_,_,_,_,_,_) ((hE ⟨rfl,r,r,r,r,(AhJ (q:=a.length) r (by simp)),r,r,trivial⟩ ⟨rfl,r,r,(Eq.trans (b:=dV _ 3 75 (.agg [Av e.Params,Av d.Size,.osl 23 _ 0 a.length])) r (by simp)),r,r,trivial⟩))
  ·refine Ans (λo=>?_) (λo=>?_)
   ·refine Qs (q:=237) (l:=Adr) (en:=AnD) (j:=f.Op.toNat) (by simp) r r r (Anr (k:=16) o r) r (λ_=>r)<|?_
    refine Ab 3 λp bc=>?_
    refine A 2 ?_;refine bD λbd ad=>sE (l:=a) (en:=NX) (q':=p) r r r r r r r (by simp) ad r r r r r<|?_
    refine A 7 ?_;exact xL (s:=(a.set c.toNat p,i64.wrap (c+1))) (_,_,_,_,_,_) ((hE ⟨rfl,r,r,r,r,(AhJ (q:=a.length) r (by simp)),r,r,trivial⟩ ⟨rfl,r,r,(Eq.trans (b:=dV _ 3 75 (.agg [Av e.Params,Av d.Size,.osl 23 _ 0 a.length])) r (by simp)),r,r,trivial⟩))
   ·refine Ans (λt=>?_) (λt=>?_)
    ·refine Qs (q:=238) (l:=Adr) (en:=AnD) (j:=f.Op.toNat) (by simp) r r r (Anr (k:=17) t r) r (λ_=>r)<|?_
     refine Ab 3 λu bf=>?_
     refine A 2 ?_;refine bD λbg ae=>sE (l:=a) (en:=NX) (q':=u) r r r r r r r (by simp) ae r r r r r<|?_
     refine A 7 ?_;exact xL (s:=(a.set c.toNat u,i64.wrap (c+1))) (_,_,_,_,_,_) ((hE ⟨rfl,r,r,r,r,(AhJ (q:=a.length) r (by simp)),r,r,trivial⟩ ⟨rfl,r,r,(Eq.trans (b:=dV _ 3 75 (.agg [Av e.Params,Av d.Size,.osl 23 _ 0 a.length])) r (by simp)),r,r,trivial⟩))
    ·refine Ans (λv=>?_) (λv=>?_)
     ·refine Qs (q:=239) (l:=Adr) (en:=AnD) (j:=f.Op.toNat) (by simp) r r r (Anr (k:=18) v r) r (λ_=>r)<|?_
      refine Ab 3 λx bh=>?_
      refine A 2 ?_;refine bD λbi af=>sE (l:=a) (en:=NX) (q':=x) r r r r r r r (by simp) af r r r r r<|?_
      refine A 7 ?_;exact xL (s:=(a.set c.toNat x,i64.wrap (c+1))) (_,_,_,_,_,_) ((hE ⟨rfl,r,r,r,r,(AhJ (q:=a.length) r (by simp)),r,r,trivial⟩ ⟨rfl,r,r,(Eq.trans (b:=dV _ 3 75 (.agg [Av e.Params,Av d.Size,.osl 23 _ 0 a.length])) r (by simp)),r,r,trivial⟩))
     ·refine Ans (λz=>?_) (λz=>?_)
      ·refine Qs (q:=240) (l:=Adr) (en:=AnD) (j:=f.Op.toNat) (by simp) r r r (Anr (k:=19) z r) r (λ_=>r)<|?_
       refine Ab 3 λaa bj=>?_
       refine A 2 ?_;refine bD λbk ag=>sE (l:=a) (en:=NX) (q':=aa) r r r r r r r (by simp) ag r r r r r<|?_
       refine A 7 ?_;exact xL (s:=(a.set c.toNat aa,i64.wrap (c+1))) (_,_,_,_,_,_) ((hE ⟨rfl,r,r,r,r,(AhJ (q:=a.length) r (by simp)),r,r,trivial⟩ ⟨rfl,r,r,(Eq.trans (b:=dV _ 3 75 (.agg [Av e.Params,Av d.Size,.osl 23 _ 0 a.length])) r (by simp)),r,r,trivial⟩))
      ·refine Qs (q:=235) (l:=Adr) (en:=AnD) (j:=f.Op.toNat) (by simp) r r r (AAe [15,16,17,18,19] (by assumption) (by simp_all) (by decide)) r (λ_=>r)<|?_
       refine Ab 3 λab bl=>?_
       refine A 2 ?_;refine bD λbm ah=>sE (l:=a) (en:=NX) (q':=ab) r r r r r r r (by simp) ah r r r r r<|?_
       refine A 7 ?_;exact xL (s:=(a.set c.toNat ab,i64.wrap (c+1))) (_,_,_,_,_,_) ((hE ⟨rfl,r,r,r,r,(AhJ (q:=a.length) r (by simp)),r,r,trivial⟩ ⟨rfl,r,r,(Eq.trans (b:=dV _ 3 75 (.agg [Av e.Params,Av d.Size,.osl 23 _ 0 a.length])) r (by simp)),r,r,trivial⟩))
 ·refine A 12 ?_;refine UX (b:=(OI.mk e.Params d.Size a)) r ?_ r r ?_ (by first|rfl|(simp only[NH];rfl)|(simp only[NK];rfl)|(simp only[NH,NK];rfl)|(simp[Aog,OK];try rfl))
  all_goals first|(simp;done)|(simp;omega)|rfl|(simp[OJ,OG];done)|(simp[cells];done)

def YM (a:OP):List D:=[Ahy a]
def YL (ds:List D):OP:=Aiw (ds.getD 0 .top)
instance:Oc YM YL:=⟨λa=>by simp[YL,YM]⟩
noncomputable def Aga:Dw.Spec:=NI [] (.row 1 3) YM YL (λa=>AaB a) OC noE
theorem Arc:ND Tryz.prog 113 Aga:=by
 refine fn2 1 (NZ) Tryz.func113<|?_;intro a;unfold AaB;refine A 21 ?_;refine lP (E:=λ(s:(List Int)×Int) (g:Nat)=>[(3,.osl 3 g 0 s.1.length),(7,.sl (a.Frames.map OK)),(8,Av (a.Frames.length:Int)),(9,Av s.2)]) (O:=λs g=>[(3,dW g 1 3 (s.1.map NA))]) (body:=λs=>ZV a s.1 s.2) (s:=(([]:List Int),0)) _ hX<|?_
 rintro⟨b,c⟩ e nn
 try dsimp only
 unfold ZV;refine Ac 6 ?_ ?_
 ·refine Ab 6 λd f=>?_
  refine A 20 ?_;exact xL (s:=(b++([d.Size]:List Int),i64.wrap (c+1))) _ hX
 ·exact B

noncomputable def Ahk:Dw.Spec:=NI [] .ground Pq Pp (λa=>Rf a) NW noE
theorem Agf:ND Tryz.prog 241 Ahk:=by
 refine fn2 1 (NZ) Tryz.func241<|?_;intro a;unfold Rf;exact B

def RY (a:(List (List Int))×(List Int)×(List Int)):List D:=[.sl (a.1.map (eL NA)),.sl (a.2.1.map NA),.sl (a.2.2.map NA)]
def TI (ds:List D):(List (List Int))×(List Int)×(List Int):=((uL (uL uI)) (ds.getD 0 .top),(uL uI) (ds.getD 1 .top),(uL uI) (ds.getD 2 .top))
instance:Oc RY TI:=⟨λa=>by simp[TI,RY,Oy (u:=(uL uI)) (en:=(eL NA)) (Oy (u:=uI) (en:=NA) (λ_=>rfl)),Oy (u:=uI) (en:=NA) (λ_=>rfl)]⟩
noncomputable def Afy:Dw.Spec:=NI [] .ground RY TI (λa=>Rk a.1 a.2.1 a.2.2) NW noE
theorem AdZ:ND Tryz.prog 178 Afy:=by
 refine fn2 3 (NJ (l:=[(174,Adq),(241,Ahk)]) (by simp[AiP,Agf])) Tryz.func178<|?_
 rintro⟨c,a,c3⟩;unfold Rk;refine A 5 ?_;refine sC (E:=λ(_s:Unit) (_g:Unit)=>[(1,.sl (a.map NA))]) (O:=λ_ _=>[]) (j:=λ_=>QU a) ?_ ?_
 ·refine Ab 3 λd e=>?_
  refine A 3 ?_;refine NS r ?_ ?_
  ·exact B
  ·refine A 7 ?_;refine NS r ?_ ?_
   ·exact B
   ·refine Ac 8 ?_ ?_
    ·exact B
    ·refine A 1 ?_;exact xC (s:=()) () hX
 ·rintro⟨⟩ ⟨⟩ nn
  try dsimp only
  unfold QU;refine A 9 ?_;refine lP (E:=λ(s:Int) (_g:Unit)=>[(26,.sl (a.map NA)),(27,Av (a.length:Int)),(28,Av s)]) (O:=λ_ _=>[]) (body:=λs=>Sk a s) (s:=0) () hX<|?_
  rintro b ⟨⟩ nn
  try dsimp only
  unfold Sk;refine Ac 6 ?_ ?_
  ·refine Ab 6 λf g=>?_
   refine Ab 8 λh i=>?_
   refine Ac 4 ?_ ?_
   ·exact B
   ·refine A 7 ?_;exact xL (s:=i64.wrap (b+1)) () hX
  ·exact B

end Go.Proofs.YtcaoepecbgggcaaGreatDoor
