/-
  Programs on typed data, and the proofs that the code does what they say; written by a program (dx.py).
-/
import Derived.Test.YtpagjjmondojpaaGreatDoorProg
import Derived.Test.YtpagjjmondojpaaGreatDoorDc
import Derived.Test.YtpagjjmondojpaaGreatDoorDd
import Derived.KernelRfl
import Derived.Test.YtpagjjmondojpaaGreatDoorSh
import Derived.Test.YtpagjjmondojpaaGreatDoorDxP
namespace Go.Proofs.YtpagjjmondojpaaGreatDoor
open Go Go.Dw Go.Proofs
set_option maxRecDepth 100000
set_option maxHeartbeats 4000000
open Go.Dw renaming QG → bD,PA → cK,AbZ → cV,Aai → cG,Abz → cD,Zw → hE,AbY → cP,Adi → lP,Aaj → sC,AkC → mF,rf → r
def PL (a : Int) : List D:=[.int .i64 a]
def PK (ds : List D) : Int:=uI (ds.getD 0 .top)
theorem Adq (a : Int) : PK (PL a) = a:=by simp [PK,PL,uI]
instance : Pn PL PK:=⟨Adq⟩
def AdZ (b : Bool) : D:=.bool b
noncomputable def Wz : Dw.Spec:=OT [] .ground PL PK (fun a=>QA a) AdZ noE
theorem ZI : OR Tryz.prog 109 Wz:=by
 refine fn2 1 (Pm) Tryz.func109<|?_
 intro a
 unfold QA
 exact B

def Rs (a : (List Int)) : List D:=[.sl (a.map OK)]
def Rr (ds : List D) : (List Int):=(uL uI) (ds.getD 0 .top)
theorem Agv (a : (List Int)) : Rr (Rs a) = a:=by simp [Rr,Rs,PQ (u:=uI) (en:=OK) (fun _=>rfl)]
instance : Pn Rs Rr:=⟨Agv⟩
def Ahd (b : Bool) : D:=.bool b
noncomputable def AcL : Dw.Spec:=OT [] .ground Rs Rr (fun a=>Xc a) Ahd noE
theorem Agw : OR Tryz.prog 82 AcL:=by
 refine fn2 1 (OX (l:=[(109,Wz)]) (by simp [ZI])) Tryz.func82<|?_
 intro s1
 unfold Xc
 refine A 14 ?_
 refine lP (E:=fun (s : Int) (_g : Unit)=>[(0,.sl (s1.map OK)),(5,.sl (s1.map OK)),(6,.int .i64 (s1.length : Int)),(7,.int .i64 s)]) (O:=fun _ _=>[]) (body:=fun s=>Rl s1 s) (s:=0) () ((hE ⟨rfl,r,r,r,trivial⟩ trivial))<|?_
 rintro x2 ⟨⟩ nn
 try dsimp only
 unfold Rl
 exact B

def RK (a : (List Int) × OJ) : List D:=[.sl (a.1.map OK),.fptr (PO a.2) 0]
def RJ (ds : List D) : (List Int) × OJ:=((uL uI) (ds.getD 0 .top),RV (fpD (ds.getD 1 .top)))
theorem AbI (a : (List Int) × OJ) : RJ (RK a) = a:=by simp [RJ,RK,fpD,PQ (u:=uI) (en:=OK) (fun _=>rfl)]
instance : Pn RK RJ:=⟨AbI⟩
def Aca (b : Bool) : D:=.bool b
noncomputable def Yq : Dw.Spec:=OT [] .ground RK RJ (fun a=>RF a.1 a.2) Aca noE
theorem AbJ : OR Tryz.prog 81 Yq:=by
 refine fn2 2 (OX (l:=[(82,AcL)]) (by simp [Agw])) Tryz.func81<|?_
 intro a
 unfold RF
 exact B

def PJ (a : (List (List Int)) × OJ) : List D:=[.sl (a.1.map (eL OK)),.clo 81 [.fptr (PO a.2) 0]]
def PI (ds : List D) : (List (List Int)) × OJ:=((uL (uL uI)) (ds.getD 0 .top),RV (fpD (AfP (ds.getD 1 .top) 0)))
theorem QT (a : (List (List Int)) × OJ) : PI (PJ a) = a:=by simp [PI,PJ,fpD,AfP,PQ (u:=(uL uI)) (en:=(eL OK)) (PQ (u:=uI) (en:=OK) (fun _=>rfl))]
instance : Pn PJ PI:=⟨QT⟩
def Ym (b : Int) : D:=.int .i64 b
noncomputable def Rg : Dw.Spec:=OT [] .ground PJ PI (fun a=>PU a.1 a.2) Ym noE
theorem Xs : OR Tryz.prog 110 Rg:=by
 refine fn2 2 (OX (l:=[(81,Yq)]) (by simp [AbJ])) Tryz.func110<|?_
 rintro ⟨s1,f2⟩
 unfold PU
 refine A 14 ?_
 refine lP (E:=fun (s : Int) (_g : Unit)=>[(0,.sl (s1.map (eL OK))),(1,.clo 81 [.fptr (.agg [.int .i64 f2.Params,.sl (f2.Slots.map OV),.sl (f2.Code.map OU)]) 0]),(7,.int .i64 (s1.length : Int)),(8,.int .i64 s)]) (O:=fun _ _=>[]) (body:=fun s=>Qg s1 f2 s) (s:=0) () ((hE ⟨rfl,r,r,r,trivial⟩ trivial))<|?_
 rintro x3 ⟨⟩ nn
 try dsimp only
 unfold Qg
 exact B

def WB (b : Bool) : D:=.bool b
noncomputable def QF : Dw.Spec:=OT [] .ground PJ PI (fun a=>Qf a.1 a.2) WB noE
theorem Wo : OR Tryz.prog 83 QF:=by
 refine fn2 2 (OX (l:=[(335982,Rg)]) (by simp [Xs])) Tryz.func83<|?_
 rintro ⟨s1,f2⟩
 unfold Qf
 refine A 9 ?_
 refine bD fun r3 hr3=>cG (s1,f2) rfl rfl (show _ = some Rg from by kernel_rfl) QT rfl rfl (by simp) r hr3 r<|?_
 exact B

def Ps (a : OJ × OO) : List D:=[PO a.1,PX a.2]
def Pr (ds : List D) : OJ × OO:=(RV (ds.getD 0 .top),UP (ds.getD 1 .top))
theorem Aef (a : OJ × OO) : Pr (Ps a) = a:=by simp [Pr,Ps]
instance : Pn Ps Pr:=⟨Aef⟩
def Aex (b : Bool) : D:=.bool b
noncomputable def Xk : Dw.Spec:=OT [] .ground Ps Pr (fun a=>Sv a.1 a.2) Aex noE
theorem Aar : OR Tryz.prog 47 Xk:=by
 refine fn2 2 (OX (l:=[(335955,QF)]) (by simp [Wo])) Tryz.func47<|?_
 rintro ⟨f1,l2⟩
 unfold Sv
 refine A 6 ?_
 refine TJ (E:=[(2,.fptr (.agg [.int .i64 f1.Params,.sl (f1.Slots.map OV),.sl (f1.Code.map OU)]) 0),(3,.optr 3 _ 0 0)]) (O:=[(3,some (_,⟨false,true,1,29,[.agg [.sl (l2.Out.map (eL OK))]]⟩))]) ((Zk (g:=2) r (by first | rfl | (simp [cells,frp,Pg,Pv]; done)) (hE ⟨(by first | rfl | (simp [OZ,frp]; done) | (simp [OZ,frp,Pg]; done) | (simp [OZ,frp,Pg,nbq]; done) | (simp [OZ,lkO,frp,Pg,frO]; done) | (simp [OZ,lkO,frp,Pg,frO]; rfl) | (simp [OZ,lkO,frp,Pg,frO,nbq]; done)),(by first | rfl | (simp [OZ,frp]; done) | (simp [OZ,frp,Pg]; done) | (simp [OZ,frp,Pg,nbq]; done) | (simp [OZ,lkO,frp,Pg,frO]; done) | (simp [OZ,lkO,frp,Pg,frO]; rfl) | (simp [OZ,lkO,frp,Pg,frO,nbq]; done)),trivial⟩ ⟨(by first | rfl | (simp [OZ,frp]; done) | (simp [OZ,frp,Pg]; done) | (simp [OZ,frp,Pg,nbq]; done) | (simp [OZ,lkO,frp,Pg,frO]; done) | (simp [OZ,lkO,frp,Pg,frO]; rfl) | (simp [OZ,lkO,frp,Pg,frO,nbq]; done)),trivial⟩))) fun nn=>?_
 refine A 2 ?_
 refine mF (caps:=[.fptr (.agg [.int .i64 f1.Params,.sl (f1.Slots.map OV),.sl (f1.Code.map OU)]) 0]) r r (by simp [AaJ])<|?_
 refine A 13 ?_
 refine Abw r ?_ ?_
 ·refine A 3 ?_
  refine bD fun r3 hr3=>cG (l2.Out,f1) rfl rfl (show _ = some QF from by kernel_rfl) QT rfl rfl (by simp) r hr3 r<|?_
  exact B
 ·exact B

def UI (a : OO) : List D:=[PX a]
def UH (ds : List D) : OO:=UP (ds.getD 0 .top)
theorem Afs (a : OO) : UH (UI a) = a:=by simp [UH,UI]
instance : Pn UI UH:=⟨Afs⟩
def AfW (b : OO) : D:=.clo 113 [.fptr (PX b) 0]
noncomputable def AbK : Dw.Spec:=OT [] .val UI UH (fun a=>Xy a) AfW noE
theorem Aft : OR Tryz.prog 85 AbK:=by
 refine fn2 1 (Pm) Tryz.func85<|?_
 intro l1
 unfold Xy
 refine A 5 ?_
 refine TJ (E:=[(1,.fptr (.agg [.sl (l1.Out.map (eL OK))]) 0)]) (O:=[]) ((Zk (g:=1) r (by first | rfl | (simp [cells,frp,Pg,Pv]; done)) (hE ⟨(by first | rfl | (simp [OZ,frp]; done) | (simp [OZ,frp,Pg]; done) | (simp [OZ,frp,Pg,nbq]; done) | (simp [OZ,lkO,frp,Pg,frO]; done) | (simp [OZ,lkO,frp,Pg,frO]; rfl) | (simp [OZ,lkO,frp,Pg,frO,nbq]; done)),trivial⟩ trivial))) fun nn=>?_
 refine A 2 ?_
 refine mF (caps:=[.fptr (.agg [.sl (l1.Out.map (eL OK))]) 0]) r r (by simp [AaJ])<|?_
 exact B

def Ags (b : Bool) : D:=.bool b
noncomputable def AbV : Dw.Spec:=OT [] .ground PL PK (fun a=>Yl a) Ags noE
theorem Afx : OR Tryz.prog 132 AbV:=by
 refine fn2 1 (Pm) Tryz.func132<|?_
 intro a
 unfold Yl
 exact B

def Wf (a : OJ × Int) : List D:=[PO a.1,.int .i64 a.2]
def We (ds : List D) : OJ × Int:=(RV (ds.getD 0 .top),uI (ds.getD 1 .top))
theorem Ajo (a : OJ × Int) : We (Wf a) = a:=by simp [We,Wf,uI]
instance : Pn Wf We:=⟨Ajo⟩
def Akm (b : (List Int)) : D:=.sl (b.map OK)
noncomputable def AfC : Dw.Spec:=OT [] (.row 1 3) Wf We (fun a=>AaU a.1 a.2) Akm noE
theorem Ajp : OR Tryz.prog 111 AfC:=by
 refine fn2 2 (OX (l:=[(132,AbV),(133,Zz),(134,Xr)]) (by simp [Afx,AcF,Abu])) Tryz.func111<|?_
 rintro ⟨f1,k2⟩
 unfold AaU
 refine A 6 ?_
 refine sC (E:=fun (_s : Unit) (g : Nat)=>[(1,.int .i64 k2),(2,.optr 2 g 0 0)]) (O:=fun _ g=>[(2,some (g,⟨false,true,3,40,[.agg [.int .i64 f1.Params,.sl (f1.Slots.map OV),.sl (f1.Code.map OU)]]⟩))]) (j:=fun _=>ZM f1 k2) ?_ ?_
 ·exact B
 ·rintro ⟨⟩ v2x1 nn
  try dsimp only
  unfold ZM
  refine A 10 ?_
  refine bD fun x_x3 hx_x3=>?_
  refine A 6 ?_
  refine sC (E:=fun (s : (List Int)) (g : Nat × Nat)=>[(5,.osl 5 g.1 0 s.length),(6,.optr 6 g.2 0 0)]) (O:=fun s g=>[(5,some (g.1,⟨false,false,1,3,s.map OK⟩)),(6,some (g.2,⟨false,true,5,69,[.agg [.int .i64 x_x3.Op,.int .i64 x_x3.A,.int .i64 x_x3.B,.int .i64 x_x3.C,.int .u64 x_x3.Imm]]⟩))]) (j:=fun s=>Xi x_x3 s) ?_ ?_
  ·exact B
  ·rintro l4 ⟨v5x2,v6x2⟩ nn
   try dsimp only
   unfold Xi
   exact B

def Sm (a : Int × OO) : List D:=[.int .i64 a.1,.fptr (PX a.2) 0]
def Sl (ds : List D) : Int × OO:=(uI (ds.getD 0 .top),UP (fpD (ds.getD 1 .top)))
theorem AcC (a : Int × OO) : Sl (Sm a) = a:=by simp [Sl,Sm,uI,fpD]
instance : Pn Sm Sl:=⟨AcC⟩
def AcX (b : (List Int)) : D:=.sl (b.map OK)
noncomputable def Zy : Dw.Spec:=OT [] .val Sm Sl (fun a=>Ug a.1 a.2) AcX noE
theorem AcD : OR Tryz.prog 113 Zy:=by
 refine fn2 2 (Pm) Tryz.func113<|?_
 intro a
 unfold Ug
 exact B

def Qe (a : OM) : List D:=[OU a]
def Qd (ds : List D) : OM:=Adj (ds.getD 0 .top)
theorem Afp (a : OM) : Qd (Qe a) = a:=by simp [Qd,Qe]
instance : Pn Qe Qd:=⟨Afp⟩
def AfV (b : Int × Bool) : D:=.tup [.int .i64 b.1,.bool b.2]
noncomputable def VJ : Dw.Spec:=OT [] .ground Qe Qd (fun a=>Su a) AfV noE
theorem Yu : OR Tryz.prog 56 VJ:=by
 refine fn2 1 (Pm) Tryz.func56<|?_
 intro a
 unfold Su
 exact B

def SH (a : OL × Int × Bool) : List D:=[Po a.1,.int .i64 a.2.1,.bool a.2.2]
def SG (ds : List D) : OL × Int × Bool:=(QV (ds.getD 0 .top),uI (ds.getD 1 .top),uBo (ds.getD 2 .top))
theorem AcP (a : OL × Int × Bool) : SG (SH a) = a:=by simp [SG,SH,uI,uBo]
instance : Pn SH SG:=⟨AcP⟩
def Adp (_b : OL) : D:=.tup []
def Ado (b : OL) : List D:=[Po b]
noncomputable def VI : Dw.Spec:=OT [(0,(8,185))] .val SH SG (fun a=>Rv a.1 a.2.1 a.2.2) Adp Ado
theorem Zq : OR Tryz.prog 138 VI:=by
 refine fn2 3 (OX (l:=[(109,Wz)]) (by simp [ZI])) Tryz.func138<|?_
 rintro ⟨s1,n2,in3⟩
 unfold Rv
 refine A 13 ?_
 refine bD fun r4 hr4=>?_
 refine A 5 ?_
 refine cD r ?_ ?_
 ·exact B
 ·refine A 6 ?_
  refine cD r ?_ ?_
  ·refine A 5 ?_
   refine cK fun hq=>TS r r r hq<|bD fun s_e5 hs_e5=>Wd (q:=s_e5) (l:=s1.toList) (en:=Yt) (j:=(IntKind.i64.wrap (n2.tdiv 64)).toNat) (by simp) r r r hs_e5 r (fun _=>r)<|?_
   refine A 3 ?_
   refine cK fun hq=>TS r r r hq<|bD fun s_o6 hs_o6=>Acu (q:=s_o6) (q':=IntKind.u64.wrap ((BitVec.ofInt IntKind.u64.bits s_e5 ||| BitVec.ofInt IntKind.u64.bits (IntKind.u64.wrap (1 * 2 ^ (Nat.min ((IntKind.u64.wrap (n2)).tmod 64).toNat IntKind.u64.bits)))).toNat)) (l:=s1.toList) (en:=Yt) (j:=(IntKind.i64.wrap (n2.tdiv 64)).toNat) (z':=.agg [.int .u64 ((s1.set ((IntKind.i64.wrap (n2.tdiv 64)).toNat) (IntKind.u64.wrap ((BitVec.ofInt IntKind.u64.bits s_e5 ||| BitVec.ofInt IntKind.u64.bits (IntKind.u64.wrap (1 * 2 ^ (Nat.min ((IntKind.u64.wrap (n2)).tmod 64).toNat IntKind.u64.bits)))).toNat))).a0),.int .u64 ((s1.set ((IntKind.i64.wrap (n2.tdiv 64)).toNat) (IntKind.u64.wrap ((BitVec.ofInt IntKind.u64.bits s_e5 ||| BitVec.ofInt IntKind.u64.bits (IntKind.u64.wrap (1 * 2 ^ (Nat.min ((IntKind.u64.wrap (n2)).tmod 64).toNat IntKind.u64.bits)))).toNat))).a1),.int .u64 ((s1.set ((IntKind.i64.wrap (n2.tdiv 64)).toNat) (IntKind.u64.wrap ((BitVec.ofInt IntKind.u64.bits s_e5 ||| BitVec.ofInt IntKind.u64.bits (IntKind.u64.wrap (1 * 2 ^ (Nat.min ((IntKind.u64.wrap (n2)).tmod 64).toNat IntKind.u64.bits)))).toNat))).a2),.int .u64 ((s1.set ((IntKind.i64.wrap (n2.tdiv 64)).toNat) (IntKind.u64.wrap ((BitVec.ofInt IntKind.u64.bits s_e5 ||| BitVec.ofInt IntKind.u64.bits (IntKind.u64.wrap (1 * 2 ^ (Nat.min ((IntKind.u64.wrap (n2)).tmod 64).toNat IntKind.u64.bits)))).toNat))).a3),.int .u64 ((s1.set ((IntKind.i64.wrap (n2.tdiv 64)).toNat) (IntKind.u64.wrap ((BitVec.ofInt IntKind.u64.bits s_e5 ||| BitVec.ofInt IntKind.u64.bits (IntKind.u64.wrap (1 * 2 ^ (Nat.min ((IntKind.u64.wrap (n2)).tmod 64).toNat IntKind.u64.bits)))).toNat))).a4),.int .u64 ((s1.set ((IntKind.i64.wrap (n2.tdiv 64)).toNat) (IntKind.u64.wrap ((BitVec.ofInt IntKind.u64.bits s_e5 ||| BitVec.ofInt IntKind.u64.bits (IntKind.u64.wrap (1 * 2 ^ (Nat.min ((IntKind.u64.wrap (n2)).tmod 64).toNat IntKind.u64.bits)))).toNat))).a5),.int .u64 ((s1.set ((IntKind.i64.wrap (n2.tdiv 64)).toNat) (IntKind.u64.wrap ((BitVec.ofInt IntKind.u64.bits s_e5 ||| BitVec.ofInt IntKind.u64.bits (IntKind.u64.wrap (1 * 2 ^ (Nat.min ((IntKind.u64.wrap (n2)).tmod 64).toNat IntKind.u64.bits)))).toNat))).a6),.int .u64 ((s1.set ((IntKind.i64.wrap (n2.tdiv 64)).toNat) (IntKind.u64.wrap ((BitVec.ofInt IntKind.u64.bits s_e5 ||| BitVec.ofInt IntKind.u64.bits (IntKind.u64.wrap (1 * 2 ^ (Nat.min ((IntKind.u64.wrap (n2)).tmod 64).toNat IntKind.u64.bits)))).toNat))).a7)]) (by simp) r r r r r hs_o6 r r (congrArg (fun l=>D.agg (l.map Yt)) (QZ s1 ((IntKind.i64.wrap (n2.tdiv 64)).toNat) (IntKind.u64.wrap ((BitVec.ofInt IntKind.u64.bits s_e5 ||| BitVec.ofInt IntKind.u64.bits (IntKind.u64.wrap (1 * 2 ^ (Nat.min ((IntKind.u64.wrap (n2)).tmod 64).toNat IntKind.u64.bits)))).toNat))).symm) r r<|?_
   exact B
  ·refine A 5 ?_
   refine cK fun hq=>TS r r r hq<|bD fun s_e7 hs_e7=>Wd (q:=s_e7) (l:=s1.toList) (en:=Yt) (j:=(IntKind.i64.wrap (n2.tdiv 64)).toNat) (by simp) r r r hs_e7 r (fun _=>r)<|?_
   refine A 3 ?_
   refine cK fun hq=>TS r r r hq<|bD fun s_o8 hs_o8=>Acu (q:=s_o8) (q':=IntKind.u64.wrap ((BitVec.ofInt IntKind.u64.bits s_e7 &&& ~~~ BitVec.ofInt IntKind.u64.bits (IntKind.u64.wrap (1 * 2 ^ (Nat.min ((IntKind.u64.wrap (n2)).tmod 64).toNat IntKind.u64.bits)))).toNat)) (l:=s1.toList) (en:=Yt) (j:=(IntKind.i64.wrap (n2.tdiv 64)).toNat) (z':=.agg [.int .u64 ((s1.set ((IntKind.i64.wrap (n2.tdiv 64)).toNat) (IntKind.u64.wrap ((BitVec.ofInt IntKind.u64.bits s_e7 &&& ~~~ BitVec.ofInt IntKind.u64.bits (IntKind.u64.wrap (1 * 2 ^ (Nat.min ((IntKind.u64.wrap (n2)).tmod 64).toNat IntKind.u64.bits)))).toNat))).a0),.int .u64 ((s1.set ((IntKind.i64.wrap (n2.tdiv 64)).toNat) (IntKind.u64.wrap ((BitVec.ofInt IntKind.u64.bits s_e7 &&& ~~~ BitVec.ofInt IntKind.u64.bits (IntKind.u64.wrap (1 * 2 ^ (Nat.min ((IntKind.u64.wrap (n2)).tmod 64).toNat IntKind.u64.bits)))).toNat))).a1),.int .u64 ((s1.set ((IntKind.i64.wrap (n2.tdiv 64)).toNat) (IntKind.u64.wrap ((BitVec.ofInt IntKind.u64.bits s_e7 &&& ~~~ BitVec.ofInt IntKind.u64.bits (IntKind.u64.wrap (1 * 2 ^ (Nat.min ((IntKind.u64.wrap (n2)).tmod 64).toNat IntKind.u64.bits)))).toNat))).a2),.int .u64 ((s1.set ((IntKind.i64.wrap (n2.tdiv 64)).toNat) (IntKind.u64.wrap ((BitVec.ofInt IntKind.u64.bits s_e7 &&& ~~~ BitVec.ofInt IntKind.u64.bits (IntKind.u64.wrap (1 * 2 ^ (Nat.min ((IntKind.u64.wrap (n2)).tmod 64).toNat IntKind.u64.bits)))).toNat))).a3),.int .u64 ((s1.set ((IntKind.i64.wrap (n2.tdiv 64)).toNat) (IntKind.u64.wrap ((BitVec.ofInt IntKind.u64.bits s_e7 &&& ~~~ BitVec.ofInt IntKind.u64.bits (IntKind.u64.wrap (1 * 2 ^ (Nat.min ((IntKind.u64.wrap (n2)).tmod 64).toNat IntKind.u64.bits)))).toNat))).a4),.int .u64 ((s1.set ((IntKind.i64.wrap (n2.tdiv 64)).toNat) (IntKind.u64.wrap ((BitVec.ofInt IntKind.u64.bits s_e7 &&& ~~~ BitVec.ofInt IntKind.u64.bits (IntKind.u64.wrap (1 * 2 ^ (Nat.min ((IntKind.u64.wrap (n2)).tmod 64).toNat IntKind.u64.bits)))).toNat))).a5),.int .u64 ((s1.set ((IntKind.i64.wrap (n2.tdiv 64)).toNat) (IntKind.u64.wrap ((BitVec.ofInt IntKind.u64.bits s_e7 &&& ~~~ BitVec.ofInt IntKind.u64.bits (IntKind.u64.wrap (1 * 2 ^ (Nat.min ((IntKind.u64.wrap (n2)).tmod 64).toNat IntKind.u64.bits)))).toNat))).a6),.int .u64 ((s1.set ((IntKind.i64.wrap (n2.tdiv 64)).toNat) (IntKind.u64.wrap ((BitVec.ofInt IntKind.u64.bits s_e7 &&& ~~~ BitVec.ofInt IntKind.u64.bits (IntKind.u64.wrap (1 * 2 ^ (Nat.min ((IntKind.u64.wrap (n2)).tmod 64).toNat IntKind.u64.bits)))).toNat))).a7)]) (by simp) r r r r r hs_o8 r r (congrArg (fun l=>D.agg (l.map Yt)) (QZ s1 ((IntKind.i64.wrap (n2.tdiv 64)).toNat) (IntKind.u64.wrap ((BitVec.ofInt IntKind.u64.bits s_e7 &&& ~~~ BitVec.ofInt IntKind.u64.bits (IntKind.u64.wrap (1 * 2 ^ (Nat.min ((IntKind.u64.wrap (n2)).tmod 64).toNat IntKind.u64.bits)))).toNat))).symm) r r<|?_
   exact B

def AgA (b : OL) : D:=Po b
noncomputable def Us : Dw.Spec:=OT [] (.ptr 8 185) Rs Rr (fun a=>QW a) AgA noE
theorem VH : OR Tryz.prog 114 Us:=by
 refine fn2 1 (OX (l:=[(138,VI)]) (by simp [Zq])) Tryz.func114<|?_
 intro l1
 unfold QW
 refine A 21 ?_
 refine lP (E:=fun (s : OL × Int) (g : Nat)=>[(3,.optr 7 g 0 0),(8,.sl (l1.map OK)),(9,.int .i64 (l1.length : Int)),(10,.int .i64 s.2)]) (O:=fun s g=>[(7,some (g,⟨false,true,8,185,[.agg [.int .u64 s.1.a0,.int .u64 s.1.a1,.int .u64 s.1.a2,.int .u64 s.1.a3,.int .u64 s.1.a4,.int .u64 s.1.a5,.int .u64 s.1.a6,.int .u64 s.1.a7]]⟩))]) (body:=fun s=>VG l1 s.1 s.2) (s:=((OL.mk 0 0 0 0 0 0 0 0),0)) _ ((hE ⟨rfl,r,r,r,trivial⟩ ⟨rfl,trivial⟩))<|?_
 rintro ⟨x2,x3⟩ v7x1 nn
 try dsimp only
 unfold VG
 exact B

def Sg (a : OL) : List D:=[Po a]
def Sf (ds : List D) : OL:=QV (ds.getD 0 .top)
theorem Acv (a : OL) : Sf (Sg a) = a:=by simp [Sf,Sg]
instance : Pn Sg Sf:=⟨Acv⟩
def AcO (b : (List Int) × OL) : D:=.sl (b.1.map OK)
def AcN (b : (List Int) × OL) : List D:=[Po b.2]
noncomputable def Ru : Dw.Spec:=OT [(0,(8,185))] (.row 1 3) Sg Sf (fun a=>Qh a) AcO AcN
theorem SF : OR Tryz.prog 117 Ru:=by
 refine fn2 1 (OX (l:=[(139,AjY)]) (by simp [AmP])) Tryz.func117<|?_
 intro s1
 unfold Qh
 refine A 18 ?_
 refine lP (E:=fun (s : (List Int) × Int) (g : Nat)=>[(3,.osl 3 g 0 s.1.length),(6,.optr 8192 0 0 0),(7,.int .i64 s.2)]) (O:=fun s g=>[(3,some (g,⟨false,false,1,3,s.1.map OK⟩)),(8192,some (0,⟨false,true,8,185,[.agg [.int .u64 s1.a0,.int .u64 s1.a1,.int .u64 s1.a2,.int .u64 s1.a3,.int .u64 s1.a4,.int .u64 s1.a5,.int .u64 s1.a6,.int .u64 s1.a7]]⟩))]) (body:=fun s=>SD s1 s.1 s.2) (s:=(([] : List Int),0)) _ ((hE ⟨rfl,r,r,trivial⟩ ⟨rfl,r,trivial⟩))<|?_
 rintro ⟨l2,x3⟩ v3x1 nn
 try dsimp only
 unfold SD
 refine A 6 ?_
 refine cD r ?_ ?_
 ·refine A 8 ?_
  refine cK fun hq=>TS r r r hq<|bD fun s_e4 hs_e4=>Wd (q:=s_e4) (l:=s1.toList) (en:=Yt) (j:=x3.toNat) (by simp) r r r hs_e4 r (fun _=>r)<|?_
  refine A 5 ?_
  refine lP (E:=fun (s : (List Int) × Int) (g : Nat)=>[(3,.osl 3 g 0 s.1.length),(4,.int .i64 x3),(5,.int .u64 s.2),(6,.optr 8192 0 0 0),(7,.int .i64 x3)]) (O:=fun s g=>[(3,some (g,⟨false,false,1,3,s.1.map OK⟩)),(8192,some (0,⟨false,true,8,185,[.agg [.int .u64 s1.a0,.int .u64 s1.a1,.int .u64 s1.a2,.int .u64 s1.a3,.int .u64 s1.a4,.int .u64 s1.a5,.int .u64 s1.a6,.int .u64 s1.a7]]⟩))]) (body:=fun s=>SE x3 s.1 s.2) (s:=(l2,s_e4)) _ ((hE ⟨rfl,r,r,r,r,trivial⟩ ⟨rfl,r,trivial⟩))<|?_
  rintro ⟨l5,x6⟩ v3x2 nn
  try dsimp only
  unfold SE
  exact B
 ·exact B

def Qz (a : (List Int) × Int) : List D:=[.sl (a.1.map OK),.int .i64 a.2]
def Qy (ds : List D) : (List Int) × Int:=((uL uI) (ds.getD 0 .top),uI (ds.getD 1 .top))
theorem AfM (a : (List Int) × Int) : Qy (Qz a) = a:=by simp [Qy,Qz,uI,PQ (u:=uI) (en:=OK) (fun _=>rfl)]
instance : Pn Qz Qy:=⟨AfM⟩
def Agy (b : (List Int)) : D:=.sl (b.map OK)
noncomputable def Ace : Dw.Spec:=OT [] .val Qz Qy (fun a=>Uj a.1 a.2) Agy noE
theorem AfN : OR Tryz.prog 135 Ace:=by
 refine fn2 2 (OX (l:=[(114,Us),(138,VI),(117,Ru)]) (by simp [VH,Zq,SF])) Tryz.func135<|?_
 intro a
 unfold Uj
 exact B

def Aif (b : (List Int)) : D:=.sl (b.map OK)
noncomputable def AdF : Dw.Spec:=OT [] (.row 1 3) Qe Qd (fun a=>Wp a) Aif noE
theorem Ahg : OR Tryz.prog 137 AdF:=by
 refine fn2 1 (Pm) Tryz.func137<|?_
 intro a
 unfold Wp
 exact B

def Akd (b : (List Int)) : D:=.sl (b.map OK)
noncomputable def Afy : Dw.Spec:=OT [] (.row 1 3) Rs Rr (fun a=>Xd a) Akd noE
theorem Ajd : OR Tryz.prog 136 Afy:=by
 refine fn2 1 (OX (l:=[(114,Us),(117,Ru)]) (by simp [VH,SF])) Tryz.func136<|?_
 intro a
 unfold Xd
 exact B

def SX (a : Int × Int) : List D:=[.int .u64 a.1,.int .u64 a.2]
def SW (ds : List D) : Int × Int:=(uI (ds.getD 0 .top),uI (ds.getD 1 .top))
theorem AeY (a : Int × Int) : SW (SX a) = a:=by simp [SW,SX,uI]
instance : Pn SX SW:=⟨AeY⟩
def AfO (b : Int) : D:=.int .u64 b
noncomputable def AbE : Dw.Spec:=OT [] .ground SX SW (fun a=>Vs a.1 a.2) AfO noE
theorem AeZ : OR Tryz.prog 116 AbE:=by
 refine fn2 2 (Pm) Tryz.func116<|?_
 intro a
 unfold Vs
 exact B

def Qu (a : OL × OL) : List D:=[Po a.1,Po a.2,.clo 116 []]
def Qt (ds : List D) : OL × OL:=(QV (ds.getD 0 .top),QV (ds.getD 1 .top))
theorem Uu (a : OL × OL) : Qt (Qu a) = a:=by simp [Qt,Qu]
instance : Pn Qu Qt:=⟨Uu⟩
def Aao (b : OL × OL × OL) : D:=Po b.1
def Aan (b : OL × OL × OL) : List D:=[Po b.2.1,Po b.2.2]
noncomputable def Se : Dw.Spec:=OT [(0,(8,185)),(1,(8,185))] (.ptr 8 185) Qu Qt (fun a=>Qn a.1 a.2) Aao Aan
theorem ZH : OR Tryz.prog 115 Se:=by
 refine fn2 3 (OX (l:=[(116,AbE)]) (by simp [AeZ])) Tryz.func115<|?_
 rintro ⟨s1,t2⟩
 unfold Qn
 refine A 19 ?_
 refine lP (E:=fun (s : OL × Int) (g : Nat)=>[(0,.optr 8192 0 0 0),(1,.optr 8193 1 0 0),(2,.clo 116 []),(7,.optr 10 g 0 0),(11,.int .i64 s.2)]) (O:=fun s g=>[(10,some (g,⟨false,true,8,185,[.agg [.int .u64 s.1.a0,.int .u64 s.1.a1,.int .u64 s.1.a2,.int .u64 s.1.a3,.int .u64 s.1.a4,.int .u64 s.1.a5,.int .u64 s.1.a6,.int .u64 s.1.a7]]⟩)),(8192,some (0,⟨false,true,8,185,[.agg [.int .u64 s1.a0,.int .u64 s1.a1,.int .u64 s1.a2,.int .u64 s1.a3,.int .u64 s1.a4,.int .u64 s1.a5,.int .u64 s1.a6,.int .u64 s1.a7]]⟩)),(8193,some (1,⟨false,true,8,185,[.agg [.int .u64 t2.a0,.int .u64 t2.a1,.int .u64 t2.a2,.int .u64 t2.a3,.int .u64 t2.a4,.int .u64 t2.a5,.int .u64 t2.a6,.int .u64 t2.a7]]⟩))]) (body:=fun s=>Qb s1 t2 s.1 s.2) (s:=((OL.mk 0 0 0 0 0 0 0 0),0)) _ ((hE ⟨rfl,r,r,r,r,trivial⟩ ⟨rfl,r,r,trivial⟩))<|?_
 rintro ⟨x3,x4⟩ v10x1 nn
 try dsimp only
 unfold Qb
 refine A 6 ?_
 refine cD r ?_ ?_
 ·refine A 17 ?_
  refine cK fun hq=>TS r r r hq<|bD fun s_e5 hs_e5=>Wd (q:=s_e5) (l:=s1.toList) (en:=Yt) (j:=x4.toNat) (by simp) r r r hs_e5 r (fun _=>r)<|?_
  refine A 3 ?_
  refine cK fun hq=>TS r r r hq<|bD fun t_e6 ht_e6=>Wd (q:=t_e6) (l:=t2.toList) (en:=Yt) (j:=x4.toNat) (by simp) r r r ht_e6 r (fun _=>r)<|bD fun r7 hr7=>?_
  refine A 2 ?_
  refine cK fun hq=>TS r r r hq<|bD fun x_o8 hx_o8=>AgZ (q:=x_o8) (q':=r7) (l:=x3.toList) (en:=Yt) (j:=x4.toNat) (z':=.agg [.int .u64 ((x3.set x4.toNat r7).a0),.int .u64 ((x3.set x4.toNat r7).a1),.int .u64 ((x3.set x4.toNat r7).a2),.int .u64 ((x3.set x4.toNat r7).a3),.int .u64 ((x3.set x4.toNat r7).a4),.int .u64 ((x3.set x4.toNat r7).a5),.int .u64 ((x3.set x4.toNat r7).a6),.int .u64 ((x3.set x4.toNat r7).a7)]) (by simp) r r r r r hx_o8 r r (congrArg (fun l=>D.agg (l.map Yt)) (QZ x3 x4.toNat r7).symm)<|?_
  exact B
 ·exact B

def QN (a : (List Int) × (List Int)) : List D:=[.sl (a.1.map OK),.sl (a.2.map OK)]
def QM (ds : List D) : (List Int) × (List Int):=((uL uI) (ds.getD 0 .top),(uL uI) (ds.getD 1 .top))
theorem Agz (a : (List Int) × (List Int)) : QM (QN a) = a:=by simp [QM,QN,PQ (u:=uI) (en:=OK) (fun _=>rfl)]
instance : Pn QN QM:=⟨Agz⟩
def Ahf (b : (List Int)) : D:=.sl (b.map OK)
noncomputable def Aat : Dw.Spec:=OT [] .val QN QM (fun a=>SV a.1 a.2) Ahf noE
theorem Acf : OR Tryz.prog 87 Aat:=by
 refine fn2 2 (OX (l:=[(114,Us),(479347,Se),(117,Ru)]) (by simp [VH,ZH,SF])) Tryz.func87<|?_
 rintro ⟨a1,b2⟩
 unfold SV
 refine A 8 ?_
 refine bD fun r3 hr3=>?_
 refine A 2 ?_
 refine bD fun r4 hr4=>?_
 refine A 1 ?_
 refine bD fun r5 hr5=>cP (r3,r4) rfl rfl (show _ = some Se from by kernel_rfl) Uu rfl rfl (by simp) r hr5<|?_
 exact B

def Ul (a : OM × (List Int)) : List D:=[OU a.1,.sl (a.2.map OK)]
def Uk (ds : List D) : OM × (List Int):=(Adj (ds.getD 0 .top),(uL uI) (ds.getD 1 .top))
theorem Ajm (a : OM × (List Int)) : Uk (Ul a) = a:=by simp [Uk,Ul,PQ (u:=uI) (en:=OK) (fun _=>rfl)]
instance : Pn Ul Uk:=⟨Ajm⟩
def Akl (b : (List Int)) : D:=.sl (b.map OK)
noncomputable def AfB : Dw.Spec:=OT [] .val Ul Uk (fun a=>AaS a.1 a.2) Akl noE
theorem Ajn : OR Tryz.prog 112 AfB:=by
 refine fn2 2 (OX (l:=[(56,VJ),(135,Ace),(137,AdF),(136,Afy),(87,Aat)]) (by simp [Yu,AfN,Ahg,Ajd,Acf])) Tryz.func112<|?_
 intro a
 unfold AaS
 exact B

def AfL (b : Int) : D:=.int .u64 b
noncomputable def AbD : Dw.Spec:=OT [] .ground SX SW (fun a=>Vr a.1 a.2) AfL noE
theorem AeX : OR Tryz.prog 118 AbD:=by
 refine fn2 2 (Pm) Tryz.func118<|?_
 intro a
 unfold Vr
 exact B

def Qs (a : OL × OL) : List D:=[Po a.1,Po a.2,.clo 118 []]
def Qr (ds : List D) : OL × OL:=(QV (ds.getD 0 .top),QV (ds.getD 1 .top))
theorem Ut (a : OL × OL) : Qr (Qs a) = a:=by simp [Qr,Qs]
instance : Pn Qs Qr:=⟨Ut⟩
def Aam (b : OL × OL × OL) : D:=Po b.1
def Aal (b : OL × OL × OL) : List D:=[Po b.2.1,Po b.2.2]
noncomputable def Sd : Dw.Spec:=OT [(0,(8,185)),(1,(8,185))] (.ptr 8 185) Qs Qr (fun a=>Qm a.1 a.2) Aam Aal
theorem ZG : OR Tryz.prog 115 Sd:=by
 refine fn2 3 (OX (l:=[(118,AbD)]) (by simp [AeX])) Tryz.func115<|?_
 rintro ⟨s1,t2⟩
 unfold Qm
 refine A 19 ?_
 refine lP (E:=fun (s : OL × Int) (g : Nat)=>[(0,.optr 8192 0 0 0),(1,.optr 8193 1 0 0),(2,.clo 118 []),(7,.optr 10 g 0 0),(11,.int .i64 s.2)]) (O:=fun s g=>[(10,some (g,⟨false,true,8,185,[.agg [.int .u64 s.1.a0,.int .u64 s.1.a1,.int .u64 s.1.a2,.int .u64 s.1.a3,.int .u64 s.1.a4,.int .u64 s.1.a5,.int .u64 s.1.a6,.int .u64 s.1.a7]]⟩)),(8192,some (0,⟨false,true,8,185,[.agg [.int .u64 s1.a0,.int .u64 s1.a1,.int .u64 s1.a2,.int .u64 s1.a3,.int .u64 s1.a4,.int .u64 s1.a5,.int .u64 s1.a6,.int .u64 s1.a7]]⟩)),(8193,some (1,⟨false,true,8,185,[.agg [.int .u64 t2.a0,.int .u64 t2.a1,.int .u64 t2.a2,.int .u64 t2.a3,.int .u64 t2.a4,.int .u64 t2.a5,.int .u64 t2.a6,.int .u64 t2.a7]]⟩))]) (body:=fun s=>Qa s1 t2 s.1 s.2) (s:=((OL.mk 0 0 0 0 0 0 0 0),0)) _ ((hE ⟨rfl,r,r,r,r,trivial⟩ ⟨rfl,r,r,trivial⟩))<|?_
 rintro ⟨x3,x4⟩ v10x1 nn
 try dsimp only
 unfold Qa
 refine A 6 ?_
 refine cD r ?_ ?_
 ·refine A 17 ?_
  refine cK fun hq=>TS r r r hq<|bD fun s_e5 hs_e5=>Wd (q:=s_e5) (l:=s1.toList) (en:=Yt) (j:=x4.toNat) (by simp) r r r hs_e5 r (fun _=>r)<|?_
  refine A 3 ?_
  refine cK fun hq=>TS r r r hq<|bD fun t_e6 ht_e6=>Wd (q:=t_e6) (l:=t2.toList) (en:=Yt) (j:=x4.toNat) (by simp) r r r ht_e6 r (fun _=>r)<|bD fun r7 hr7=>?_
  refine A 2 ?_
  refine cK fun hq=>TS r r r hq<|bD fun x_o8 hx_o8=>AgZ (q:=x_o8) (q':=r7) (l:=x3.toList) (en:=Yt) (j:=x4.toNat) (z':=.agg [.int .u64 ((x3.set x4.toNat r7).a0),.int .u64 ((x3.set x4.toNat r7).a1),.int .u64 ((x3.set x4.toNat r7).a2),.int .u64 ((x3.set x4.toNat r7).a3),.int .u64 ((x3.set x4.toNat r7).a4),.int .u64 ((x3.set x4.toNat r7).a5),.int .u64 ((x3.set x4.toNat r7).a6),.int .u64 ((x3.set x4.toNat r7).a7)]) (by simp) r r r r r hx_o8 r r (congrArg (fun l=>D.agg (l.map Yt)) (QZ x3 x4.toNat r7).symm)<|?_
  exact B
 ·exact B

def Ahe (b : (List Int)) : D:=.sl (b.map OK)
noncomputable def AcM : Dw.Spec:=OT [] .val QN QM (fun a=>Vq a.1 a.2) Ahe noE
theorem Agx : OR Tryz.prog 88 AcM:=by
 refine fn2 2 (OX (l:=[(114,Us),(487539,Sd),(117,Ru)]) (by simp [VH,ZG,SF])) Tryz.func88<|?_
 rintro ⟨a1,b2⟩
 unfold Vq
 refine A 8 ?_
 refine bD fun r3 hr3=>?_
 refine A 2 ?_
 refine bD fun r4 hr4=>?_
 refine A 1 ?_
 refine bD fun r5 hr5=>cP (r3,r4) rfl rfl (show _ = some Sd from by kernel_rfl) Ut rfl rfl (by simp) r hr5<|?_
 exact B

def QL (a : (List Int) × (List Int) × OO × Int) : List D:=[.sl (a.1.map OK),.sl (a.2.1.map OK),.fptr (PX a.2.2.1) 0,.fptr (.int .i64 a.2.2.2) 0]
def QK (ds : List D) : (List Int) × (List Int) × OO × Int:=((uL uI) (ds.getD 0 .top),(uL uI) (ds.getD 1 .top),UP (fpD (ds.getD 2 .top)),uI (fpD (ds.getD 3 .top)))
theorem Aaw (a : (List Int) × (List Int) × OO × Int) : QK (QL a) = a:=by simp [QK,QL,uI,fpD,PQ (u:=uI) (en:=OK) (fun _=>rfl)]
instance : Pn QL QK:=⟨Aaw⟩
def AaY (b : Bool × (List Int)) : D:=.bool b.1
def AaX (b : Bool × (List Int)) : List D:=[.sl (b.2.map OK)]
noncomputable def VF : Dw.Spec:=OT [(1,(1,30))] .val QL QK (fun a=>RI a.1 a.2.1 a.2.2.1 a.2.2.2) AaY AaX
theorem Aax : OR Tryz.prog 86 VF:=by
 refine fn2 4 (OX (l:=[(88,AcM),(87,Aat)]) (by simp [Agx,Acf])) Tryz.func86<|?_
 rintro ⟨need1,cap2,cap3,cap4⟩
 unfold RI
 refine A 12 ?_
 refine bD fun x_x5 hx_x5=>?_
 refine A 2 ?_
 refine bD fun r6 hr6=>?_
 refine A 1 ?_
 refine bD fun r7 hr7=>?_
 refine A 1 ?_
 refine Wy (i:=0) (es':=[.sl (r7.map OK)]) r r r r r r r (by first | trivial | (simp; done) | (simp; omega)) r r r r r r<|?_
 exact B

def PH (a : OJ × Int × OO × (List Int) × OO × Int) : List D:=[PO a.1,.int .i64 a.2.1,.clo 113 [.fptr (PX a.2.2.1) 0],.clo 86 [.sl (a.2.2.2.1.map OK),.fptr (PX a.2.2.2.2.1) 0,.fptr (.int .i64 a.2.2.2.2.2) 0]]
def PZ (ds : List D) : OJ × Int × OO × (List Int) × OO × Int:=(RV (ds.getD 0 .top),uI (ds.getD 1 .top),UP (fpD (AfP (ds.getD 2 .top) 0)),(uL uI) (AfP (ds.getD 3 .top) 0),UP (fpD (AfP (ds.getD 3 .top) 1)),uI (fpD (AfP (ds.getD 3 .top) 2)))
theorem Tb (a : OJ × Int × OO × (List Int) × OO × Int) : PZ (PH a) = a:=by simp [PZ,PH,uI,fpD,AfP,PQ (u:=uI) (en:=OK) (fun _=>rfl)]
instance : Pn PH PZ:=⟨Tb⟩
def Xx (b : Bool × (List Int)) : D:=.bool b.1
def Xw (b : Bool × (List Int)) : List D:=[.sl (b.2.map OK)]
noncomputable def Rf : Dw.Spec:=OT [(256,(1,30))] .val PH PZ (fun a=>PT a.1 a.2.1 a.2.2.1 a.2.2.2.1 a.2.2.2.2.1 a.2.2.2.2.2) Xx Xw
theorem Xj : OR Tryz.prog 84 Rf:=by
 refine fn2 4 (OX (l:=[(111,AfC),(113,Zy),(112,AfB),(86,VF)]) (by simp [Ajp,AcD,Ajn,Aax])) Tryz.func84<|?_
 rintro ⟨f1,k2,set3,visit4,visit5,visit6⟩
 unfold PT
 refine A 11 ?_
 refine bD fun r7 hr7=>?_
 refine A 6 ?_
 refine lP (E:=fun (s : (List Int) × Int) (g : Nat × Nat)=>[(2,.clo 113 [.fptr (.agg [.sl (set3.Out.map (eL OK))]) 0]),(3,.clo 86 [.optr 8448 256 0 0,.fptr (.agg [.sl (visit5.Out.map (eL OK))]) 0,.fptr (.int .i64 visit6) 0]),(4,.optr 4 g.1 0 0),(13,.osl 13 g.2 0 r7.length),(14,.int .i64 (r7.length : Int)),(15,.int .i64 s.2)]) (O:=fun s g=>[(4,some (g.1,⟨false,true,3,40,[.agg [.int .i64 f1.Params,.sl (f1.Slots.map OV),.sl (f1.Code.map OU)]]⟩)),(13,some (g.2,⟨false,false,1,3,r7.map OK⟩)),(8448,some (256,⟨false,true,1,30,[.sl (s.1.map OK)]⟩))]) (body:=fun s=>Pu r7 f1 set3 visit5 visit6 s.1 s.2) (s:=(visit4,0)) (_,_) ((hE ⟨rfl,r,r,r,r,r,trivial⟩ ⟨rfl,r,r,trivial⟩))<|?_
 rintro ⟨x8,x9⟩ ⟨v4x1,v13x1⟩ nn
 try dsimp only
 unfold Pu
 exact B

def Afr (b : Int × Int × Bool) : D:=.tup [.int .i64 b.1,.int .i64 b.2.1,.bool b.2.2]
noncomputable def Abn : Dw.Spec:=OT [] .ground Ps Pr (fun a=>UF a.1 a.2) Afr noE
theorem Aew : OR Tryz.prog 48 Abn:=by
 refine fn2 2 (OX (l:=[(47,Xk),(85,AbK),(1460084820,Rf)]) (by simp [Aar,Aft,Xj])) Tryz.func48<|?_
 rintro ⟨f1,l2⟩
 unfold UF
 refine A 8 ?_
 refine TJ (E:=[(2,.optr 2 _ 0 0),(3,.fptr (.agg [.sl (l2.Out.map (eL OK))]) 0)]) (O:=[(2,some (_,⟨false,true,3,40,[.agg [.int .i64 f1.Params,.sl (f1.Slots.map OV),.sl (f1.Code.map OU)]]⟩))]) ((Zk (g:=3) r (by first | rfl | (simp [cells,frp,Pg,Pv]; done)) (hE ⟨(by first | rfl | (simp [OZ,frp]; done) | (simp [OZ,frp,Pg]; done) | (simp [OZ,frp,Pg,nbq]; done) | (simp [OZ,lkO,frp,Pg,frO]; done) | (simp [OZ,lkO,frp,Pg,frO]; rfl) | (simp [OZ,lkO,frp,Pg,frO,nbq]; done)),(by first | rfl | (simp [OZ,frp]; done) | (simp [OZ,frp,Pg]; done) | (simp [OZ,frp,Pg,nbq]; done) | (simp [OZ,lkO,frp,Pg,frO]; done) | (simp [OZ,lkO,frp,Pg,frO]; rfl) | (simp [OZ,lkO,frp,Pg,frO,nbq]; done)),trivial⟩ ⟨(by first | rfl | (simp [OZ,frp]; done) | (simp [OZ,frp,Pg]; done) | (simp [OZ,frp,Pg,nbq]; done) | (simp [OZ,lkO,frp,Pg,frO]; done) | (simp [OZ,lkO,frp,Pg,frO]; rfl) | (simp [OZ,lkO,frp,Pg,frO,nbq]; done)),trivial⟩))) fun nn=>?_
 refine A 5 ?_
 refine bD fun r3 hr3=>?_
 refine A 4 ?_
 refine cD r ?_ ?_
 ·exact B
 ·refine A 12 ?_
  refine lP (E:=fun (s : Int) (g : Nat)=>[(2,.optr 2 g 0 0),(3,.fptr (.agg [.sl (l2.Out.map (eL OK))]) 0),(15,.int .i64 (f1.Code.length : Int)),(16,.int .i64 s)]) (O:=fun _ g=>[(2,some (g,⟨false,true,3,40,[.agg [.int .i64 f1.Params,.sl (f1.Slots.map OV),.sl (f1.Code.map OU)]]⟩))]) (body:=fun s=>UG f1 l2 s) (s:=0) _ ((hE ⟨rfl,r,r,r,trivial⟩ ⟨rfl,trivial⟩))<|?_
  rintro x4 v2x1 nn
  try dsimp only
  unfold UG
  refine A 6 ?_
  refine cD r ?_ ?_
  ·refine A 10 ?_
   refine TJ (E:=[(2,.optr 2 _ 0 0),(3,.fptr (.agg [.sl (l2.Out.map (eL OK))]) 0),(7,.fptr (.int .i64 x4) 0),(15,.int .i64 (f1.Code.length : Int)),(16,.int .i64 x4)]) (O:=[(2,some (_,⟨false,true,3,40,[.agg [.int .i64 f1.Params,.sl (f1.Slots.map OV),.sl (f1.Code.map OU)]]⟩))]) ((Zk (g:=7) r (by first | rfl | (simp [cells,frp,Pg,Pv]; done)) (hE ⟨(by first | rfl | (simp [OZ,frp]; done) | (simp [OZ,frp,Pg]; done) | (simp [OZ,frp,Pg,nbq]; done) | (simp [OZ,lkO,frp,Pg,frO]; done) | (simp [OZ,lkO,frp,Pg,frO]; rfl) | (simp [OZ,lkO,frp,Pg,frO,nbq]; done)),(by first | rfl | (simp [OZ,frp]; done) | (simp [OZ,frp,Pg]; done) | (simp [OZ,frp,Pg,nbq]; done) | (simp [OZ,lkO,frp,Pg,frO]; done) | (simp [OZ,lkO,frp,Pg,frO]; rfl) | (simp [OZ,lkO,frp,Pg,frO,nbq]; done)),(by first | rfl | (simp [OZ,frp]; done) | (simp [OZ,frp,Pg]; done) | (simp [OZ,frp,Pg,nbq]; done) | (simp [OZ,lkO,frp,Pg,frO]; done) | (simp [OZ,lkO,frp,Pg,frO]; rfl) | (simp [OZ,lkO,frp,Pg,frO,nbq]; done)),(by first | rfl | (simp [OZ,frp]; done) | (simp [OZ,frp,Pg]; done) | (simp [OZ,frp,Pg,nbq]; done) | (simp [OZ,lkO,frp,Pg,frO]; done) | (simp [OZ,lkO,frp,Pg,frO]; rfl) | (simp [OZ,lkO,frp,Pg,frO,nbq]; done)),(by first | rfl | (simp [OZ,frp]; done) | (simp [OZ,frp,Pg]; done) | (simp [OZ,frp,Pg,nbq]; done) | (simp [OZ,lkO,frp,Pg,frO]; done) | (simp [OZ,lkO,frp,Pg,frO]; rfl) | (simp [OZ,lkO,frp,Pg,frO,nbq]; done)),trivial⟩ ⟨(by first | rfl | (simp [OZ,frp]; done) | (simp [OZ,frp,Pg]; done) | (simp [OZ,frp,Pg,nbq]; done) | (simp [OZ,lkO,frp,Pg,frO]; done) | (simp [OZ,lkO,frp,Pg,frO]; rfl) | (simp [OZ,lkO,frp,Pg,frO,nbq]; done)),trivial⟩))) fun nn=>?_
   refine A 10 ?_
   refine bD fun r5 hr5=>?_
   refine A 1 ?_
   refine mF (caps:=[.optr 8 _ 0 0,.fptr (.agg [.sl (l2.Out.map (eL OK))]) 0,.fptr (.int .i64 x4) 0]) r r (by simp [AaJ])<|bD fun r6 hr6=>cV (f1,x4,r5,[],l2,x4) rfl rfl (show _ = some Rf from by kernel_rfl) Tb rfl rfl (by simp) (by first | rfl | (simp only [OH]; rfl) | (simp only [OI]; rfl) | (simp only [OH,OI]; rfl) | simp [PH,PO,PX,PX]) hr6<|?_
   exact B
  ·exact B

def Afq (b : Int) : D:=.int .i64 b
noncomputable def Yv : Dw.Spec:=OT [] .ground Ps Pr (fun a=>Tm a.1 a.2) Afq noE
theorem AaW : OR Tryz.prog 25 Yv:=by
 refine fn2 2 (OX (l:=[(47,Xk),(48,Abn)]) (by simp [Aar,Aew])) Tryz.func25<|?_
 intro a
 unfold Tm
 exact B

def SZ (a : OJ × (List Int)) : List D:=[PO a.1,.sl (a.2.map OK)]
def SY (ds : List D) : OJ × (List Int):=(RV (ds.getD 0 .top),(uL uI) (ds.getD 1 .top))
theorem Afa (a : OJ × (List Int)) : SY (SZ a) = a:=by simp [SY,SZ,PQ (u:=uI) (en:=OK) (fun _=>rfl)]
instance : Pn SZ SY:=⟨Afa⟩
def AfR (b : Bool) : D:=.bool b
noncomputable def AbF : Dw.Spec:=OT [] .ground SZ SY (fun a=>Vt a.1 a.2) AfR noE
theorem Afb : OR Tryz.prog 49 AbF:=by
 refine fn2 2 (Pm) Tryz.func49<|?_
 rintro ⟨f1,to2⟩
 unfold Vt
 refine A 17 ?_
 refine cD r ?_ ?_
 ·exact B
 ·refine A 11 ?_
  refine lP (E:=fun (s : Int) (g : Nat)=>[(1,.sl (to2.map OK)),(2,.optr 2 g 0 0),(13,.sl (to2.map OK)),(14,.int .i64 (to2.length : Int)),(15,.int .i64 s)]) (O:=fun _ g=>[(2,some (g,⟨false,true,3,40,[.agg [.int .i64 f1.Params,.sl (f1.Slots.map OV),.sl (f1.Code.map OU)]]⟩))]) (body:=fun s=>Vb to2 f1 s) (s:=0) _ ((hE ⟨rfl,r,r,r,r,trivial⟩ ⟨rfl,trivial⟩))<|?_
  rintro x3 v2x1 nn
  try dsimp only
  unfold Vb
  exact B

def Aet (b : Bool) : D:=.bool b
noncomputable def AaT : Dw.Spec:=OT [] .ground Qe Qd (fun a=>VK a) Aet noE
theorem Aee : OR Tryz.prog 50 AaT:=by
 refine fn2 1 (OX (l:=[(56,VJ)]) (by simp [Yu])) Tryz.func50<|?_
 intro a
 unfold VK
 exact B

def Rk (a : OJ × OP) : List D:=[PO a.1,RD a.2]
def Rj (ds : List D) : OJ × OP:=(RV (ds.getD 0 .top),Yp (ds.getD 1 .top))
theorem Agr (a : OJ × OP) : Rj (Rk a) = a:=by simp [Rj,Rk]
instance : Pn Rk Rj:=⟨Agr⟩
def AgW (b : Int) : D:=.int .i64 b
noncomputable def Aah : Dw.Spec:=OT [] .ground Rk Rj (fun a=>Ur a.1 a.2) AgW noE
theorem AbT : OR Tryz.prog 26 Aah:=by
 refine fn2 2 (OX (l:=[(49,AbF),(50,AaT)]) (by simp [Afb,Aee])) Tryz.func26<|?_
 rintro ⟨f1,r2⟩
 unfold Ur
 refine A 7 ?_
 refine sC (E:=fun (_s : Unit) (g : Nat × Nat)=>[(2,.optr 2 g.1 0 0),(3,.optr 3 g.2 0 0)]) (O:=fun _ g=>[(2,some (g.1,⟨false,true,3,40,[.agg [.int .i64 f1.Params,.sl (f1.Slots.map OV),.sl (f1.Code.map OU)]]⟩)),(3,some (g.2,⟨false,true,2,33,[.agg [.sl (r2.To.map OK),.sl (r2.Keep.map D.bool)]]⟩))]) (j:=fun _=>Wc f1 r2) ?_ ?_
 ·exact B
 ·rintro ⟨⟩ ⟨v2x1,v3x1⟩ nn
  try dsimp only
  unfold Wc
  refine A 10 ?_
  refine lP (E:=fun (s : Int) (g : Nat)=>[(3,.optr 3 g 0 0),(22,.sl (f1.Code.map OU)),(23,.int .i64 (f1.Code.length : Int)),(24,.int .i64 s)]) (O:=fun _ g=>[(3,some (g,⟨false,true,2,33,[.agg [.sl (r2.To.map OK),.sl (r2.Keep.map D.bool)]]⟩))]) (body:=fun s=>Wb f1 r2 s) (s:=0) _ ((hE ⟨rfl,r,r,r,trivial⟩ ⟨rfl,trivial⟩))<|?_
  rintro x4 v3x2 nn
  try dsimp only
  unfold Wb
  exact B

def Ql (a : Int × OJ × OP × OO) : List D:=[.int .i64 a.1,.fptr (PO a.2.1) 0,.fptr (RD a.2.2.1) 0,.fptr (PX a.2.2.2) 0]
def Qk (ds : List D) : Int × OJ × OP × OO:=(uI (ds.getD 0 .top),RV (fpD (ds.getD 1 .top)),Yp (fpD (ds.getD 2 .top)),UP (fpD (ds.getD 3 .top)))
theorem Zo (a : Int × OJ × OP × OO) : Qk (Ql a) = a:=by simp [Qk,Ql,uI,fpD]
instance : Pn Ql Qk:=⟨Zo⟩
def ZB (b : Int × Bool) : D:=.tup [.int .i64 b.1,.bool b.2]
noncomputable def Uh : Dw.Spec:=OT [] .ground Ql Qk (fun a=>PE a.1 a.2.1 a.2.2.1 a.2.2.2) ZB noE
theorem Zp : OR Tryz.prog 55 Uh:=by
 refine fn2 4 (OX (l:=[(56,VJ)]) (by simp [Yu])) Tryz.func55<|?_
 rintro ⟨k1,cap2,cap3,cap4⟩
 unfold PE
 refine A 11 ?_
 refine bD fun x_x5 hx_x5=>?_
 refine A 9 ?_
 refine bD fun r6 hr6=>?_
 refine A 8 ?_
 refine sC (E:=fun (_s : Unit) (_g : Unit)=>[(0,.int .i64 k1),(2,.fptr (.agg [.sl (cap3.To.map OK),.sl (cap3.Keep.map D.bool)]) 0),(3,.fptr (.agg [.sl (cap4.Out.map (eL OK))]) 0),(8,.int .i64 r6.1)]) (O:=fun _ _=>[]) (j:=fun _=>Pp cap4 k1 cap3 r6) ?_ ?_
 ·exact B
 ·rintro ⟨⟩ ⟨⟩ nn
  try dsimp only
  unfold Pp
  refine A 6 ?_
  refine bD fun x_x9 hx_x9=>?_
  refine A 7 ?_
  refine lP (E:=fun (s : Int) (_g : Unit)=>[(0,.int .i64 k1),(2,.fptr (.agg [.sl (cap3.To.map OK),.sl (cap3.Keep.map D.bool)]) 0),(8,.int .i64 r6.1),(48,.sl (x_x9.map OK)),(49,.int .i64 (x_x9.length : Int)),(50,.int .i64 s)]) (O:=fun _ _=>[]) (body:=fun s=>PV x_x9 cap3 k1 r6 s) (s:=0) () ((hE ⟨rfl,r,r,r,r,r,trivial⟩ trivial))<|?_
  rintro x10 ⟨⟩ nn
  try dsimp only
  unfold PV
  exact B

def AlR : QJ:=(.seq (.reg [P 3 (.box (T 0) 3 40),P 4 (.box (T 1) 1 29),P 5 (.box (T 2) 2 33),P 6 (.asg (.c .nilf) none)] false) (.seq (.reg [P 7 (.mkf 55 [(T 3),(T 5),(T 4)]),P 6 (.asg (T 7) none)] false) .ret))
theorem AmZ : (Tryz.f29.body.bind (SI Tryz.prog Tryz.f29.ntmps)) = some AlR:=by kernel_rfl
theorem Ana : Tryz.f29.results.toList.mapM (Abd Tryz.prog) = some [(.t 6)]:=by kernel_rfl

end Go.Proofs.YtpagjjmondojpaaGreatDoor
