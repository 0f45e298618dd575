/-
  Programs on typed data, and the proofs that the code does what they say; written by a program (dx.py).
-/
import Derived.Test.YtpagjjmondojpaaGreatDoorProg
import Derived.Test.YtpagjjmondojpaaGreatDoorDc
import Derived.Test.YtpagjjmondojpaaGreatDoorDd
import Derived.KernelRfl
import Derived.Test.YtpagjjmondojpaaGreatDoorSh
import Derived.Test.YtpagjjmondojpaaGreatDoorDxP
namespace Go.Proofs.YtpagjjmondojpaaGreatDoor
open Go Go.Dw Go.Proofs
set_option maxRecDepth 100000
set_option maxHeartbeats 4000000
open Go.Dw renaming QE → bD,Py → cK,AbE → cV,ZS → cG,Abf → cD,Zf → hE,AbD → cP,AcI → lP,ZT → sC,AjW → mF,rf → r
def PJ (a : Int) : List D:=[.int .i64 a]
def PI (ds : List D) : Int:=uI (ds.getD 0 .top)
theorem AcQ (a : Int) : PI (PJ a) = a:=by simp [PI,PJ,uI]
instance : Pn PJ PI:=⟨AcQ⟩
def AdA (b : Bool) : D:=.bool b
noncomputable def Wh : Dw.Spec:=OQ [] .ground PJ PI (fun a=>QA a) AdA noE
theorem Zs : OP Tryz.prog 109 Wh:=by
 refine fn2 1 (Pm) Tryz.func109<|?_
 intro a
 unfold QA
 exact B

def Ro (a : (List Int)) : List D:=[.sl (a.map OM)]
def Rn (ds : List D) : (List Int):=(uL uI) (ds.getD 0 .top)
theorem AfO (a : (List Int)) : Rn (Ro a) = a:=by simp [Rn,Ro,PN (u:=uI) (en:=OM) (fun _=>rfl)]
instance : Pn Ro Rn:=⟨AfO⟩
def Agw (b : Bool) : D:=.bool b
noncomputable def Acn : Dw.Spec:=OQ [] .ground Ro Rn (fun a=>WK a) Agw noE
theorem AfP : OP Tryz.prog 82 Acn:=by
 refine fn2 1 (OW (l:=[(109,Wh)]) (by simp [Zs])) Tryz.func82<|?_
 intro s1
 unfold WK
 refine A 14 ?_
 refine lP (E:=fun (s : Int) (_g : Unit)=>[(0,.sl (s1.map OM)),(5,.sl (s1.map OM)),(6,.int .i64 (s1.length : Int)),(7,.int .i64 s)]) (O:=fun _ _=>[]) (body:=fun s=>Rh s1 s) (s:=0) () ((hE ⟨rfl,r,r,r,trivial⟩ trivial))<|?_
 rintro x2 ⟨⟩ nn
 try dsimp only
 unfold Rh
 exact B

def RI (a : (List Int) × OJ) : List D:=[.sl (a.1.map OM),.fptr (PS a.2) 0]
def RH (ds : List D) : (List Int) × OJ:=((uL uI) (ds.getD 0 .top),Se (fpD (ds.getD 1 .top)))
theorem Abo (a : (List Int) × OJ) : RH (RI a) = a:=by simp [RH,RI,fpD,PN (u:=uI) (en:=OM) (fun _=>rfl)]
instance : Pn RI RH:=⟨Abo⟩
def AbF (b : Bool) : D:=.bool b
noncomputable def Yc : Dw.Spec:=OQ [] .ground RI RH (fun a=>RA a.1 a.2) AbF noE
theorem Abp : OP Tryz.prog 81 Yc:=by
 refine fn2 2 (OW (l:=[(82,Acn)]) (by simp [AfP])) Tryz.func81<|?_
 intro a
 unfold RA
 exact B

def PG (a : (List (List Int)) × OJ) : List D:=[.sl (a.1.map (eL OM)),.clo 81 [.fptr (PS a.2) 0]]
def PF (ds : List D) : (List (List Int)) × OJ:=((uL (uL uI)) (ds.getD 0 .top),Se (fpD (Afk (ds.getD 1 .top) 0)))
theorem QP (a : (List (List Int)) × OJ) : PF (PG a) = a:=by simp [PF,PG,fpD,Afk,PN (u:=(uL uI)) (en:=(eL OM)) (PN (u:=uI) (en:=OM) (fun _=>rfl))]
instance : Pn PG PF:=⟨QP⟩
def XZ (b : Int) : D:=.int .i64 b
noncomputable def Rc : Dw.Spec:=OQ [] .ground PG PF (fun a=>PR a.1 a.2) XZ noE
theorem Xd : OP Tryz.prog 110 Rc:=by
 refine fn2 2 (OW (l:=[(81,Yc)]) (by simp [Abp])) Tryz.func110<|?_
 rintro ⟨s1,f2⟩
 unfold PR
 refine A 14 ?_
 refine lP (E:=fun (s : Int) (_g : Unit)=>[(0,.sl (s1.map (eL OM))),(1,.clo 81 [.fptr (.agg [.int .i64 f2.Params,.sl (f2.Slots.map OV),.sl (f2.Code.map OT)]) 0]),(7,.int .i64 (s1.length : Int)),(8,.int .i64 s)]) (O:=fun _ _=>[]) (body:=fun s=>Qf s1 f2 s) (s:=0) () ((hE ⟨rfl,r,r,r,trivial⟩ trivial))<|?_
 rintro x3 ⟨⟩ nn
 try dsimp only
 unfold Qf
 exact B

def Wj (b : Bool) : D:=.bool b
noncomputable def QD : Dw.Spec:=OQ [] .ground PG PF (fun a=>Qe a.1 a.2) Wj noE
theorem VV : OP Tryz.prog 83 QD:=by
 refine fn2 2 (OW (l:=[(335982,Rc)]) (by simp [Xd])) Tryz.func83<|?_
 rintro ⟨s1,f2⟩
 unfold Qe
 refine A 9 ?_
 refine bD fun r3 hr3=>cG (s1,f2) rfl rfl (show _ = some Rc from by kernel_rfl) QP rfl rfl (by simp) r hr3 r<|?_
 exact B

def Pr (a : OJ × OR) : List D:=[PS a.1,Qo a.2]
def Pq (ds : List D) : OJ × OR:=(Se (ds.getD 0 .top),VK (ds.getD 1 .top))
theorem AdG (a : OJ × OR) : Pq (Pr a) = a:=by simp [Pq,Pr]
instance : Pn Pr Pq:=⟨AdG⟩
def AdZ (b : Bool) : D:=.bool b
noncomputable def WT : Dw.Spec:=OQ [] .ground Pr Pq (fun a=>Sm a.1 a.2) AdZ noE
theorem Aaa : OP Tryz.prog 47 WT:=by
 refine fn2 2 (OW (l:=[(335955,QD)]) (by simp [VV])) Tryz.func47<|?_
 rintro ⟨f1,l2⟩
 unfold Sm
 refine A 6 ?_
 refine Tz (E:=[(2,.fptr (.agg [.int .i64 f1.Params,.sl (f1.Slots.map OV),.sl (f1.Code.map OT)]) 0),(3,.optr 3 _ 0 0)]) (O:=[(3,some (_,⟨false,true,1,29,[.agg [.sl (l2.Out.map (eL OM))]]⟩))]) ((YU (g:=2) r (by first | rfl | (simp [cells,frp,Pg,Pu]; done)) (hE ⟨(by first | rfl | (simp [OY,frp]; done) | (simp [OY,frp,Pg]; done) | (simp [OY,frp,Pg,nbq]; done) | (simp [OY,lkO,frp,Pg,frO]; done) | (simp [OY,lkO,frp,Pg,frO]; rfl) | (simp [OY,lkO,frp,Pg,frO,nbq]; done)),(by first | rfl | (simp [OY,frp]; done) | (simp [OY,frp,Pg]; done) | (simp [OY,frp,Pg,nbq]; done) | (simp [OY,lkO,frp,Pg,frO]; done) | (simp [OY,lkO,frp,Pg,frO]; rfl) | (simp [OY,lkO,frp,Pg,frO,nbq]; done)),trivial⟩ ⟨(by first | rfl | (simp [OY,frp]; done) | (simp [OY,frp,Pg]; done) | (simp [OY,frp,Pg,nbq]; done) | (simp [OY,lkO,frp,Pg,frO]; done) | (simp [OY,lkO,frp,Pg,frO]; rfl) | (simp [OY,lkO,frp,Pg,frO,nbq]; done)),trivial⟩))) fun nn=>?_
 refine A 2 ?_
 refine mF (caps:=[.fptr (.agg [.int .i64 f1.Params,.sl (f1.Slots.map OV),.sl (f1.Code.map OT)]) 0]) r r (by simp [Aaq])<|?_
 refine A 13 ?_
 refine Abc r ?_ ?_
 ·refine A 3 ?_
  refine bD fun r3 hr3=>cG (l2.Out,f1) rfl rfl (show _ = some QD from by kernel_rfl) QP rfl rfl (by simp) r hr3 r<|?_
  exact B
 ·exact B

def Uy (a : OR) : List D:=[Qo a]
def Ux (ds : List D) : OR:=VK (ds.getD 0 .top)
theorem AeP (a : OR) : Ux (Uy a) = a:=by simp [Ux,Uy]
instance : Pn Uy Ux:=⟨AeP⟩
def Afq (b : OR) : D:=.clo 113 [.fptr (Qo b) 0]
noncomputable def Abq : Dw.Spec:=OQ [] .val Uy Ux (fun a=>Xk a) Afq noE
theorem AeQ : OP Tryz.prog 85 Abq:=by
 refine fn2 1 (Pm) Tryz.func85<|?_
 intro l1
 unfold Xk
 refine A 5 ?_
 refine Tz (E:=[(1,.fptr (.agg [.sl (l1.Out.map (eL OM))]) 0)]) (O:=[]) ((YU (g:=1) r (by first | rfl | (simp [cells,frp,Pg,Pu]; done)) (hE ⟨(by first | rfl | (simp [OY,frp]; done) | (simp [OY,frp,Pg]; done) | (simp [OY,frp,Pg,nbq]; done) | (simp [OY,lkO,frp,Pg,frO]; done) | (simp [OY,lkO,frp,Pg,frO]; rfl) | (simp [OY,lkO,frp,Pg,frO,nbq]; done)),trivial⟩ trivial))) fun nn=>?_
 refine A 2 ?_
 refine mF (caps:=[.fptr (.agg [.sl (l1.Out.map (eL OM))]) 0]) r r (by simp [Aaq])<|?_
 exact B

def AfK (b : Bool) : D:=.bool b
noncomputable def AbA : Dw.Spec:=OQ [] .ground PJ PI (fun a=>XY a) AfK noE
theorem AeS : OP Tryz.prog 132 AbA:=by
 refine fn2 1 (Pm) Tryz.func132<|?_
 intro a
 unfold XY
 exact B

def VM (a : OJ × Int) : List D:=[PS a.1,.int .i64 a.2]
def VL (ds : List D) : OJ × Int:=(Se (ds.getD 0 .top),uI (ds.getD 1 .top))
theorem AiI (a : OJ × Int) : VL (VM a) = a:=by simp [VL,VM,uI]
instance : Pn VM VL:=⟨AiI⟩
def AjF (b : (List Int)) : D:=.sl (b.map OM)
noncomputable def AeX : Dw.Spec:=OQ [] (.row 1 3) VM VL (fun a=>AaC a.1 a.2) AjF noE
theorem AiJ : OP Tryz.prog 111 AeX:=by
 refine fn2 2 (OW (l:=[(132,AbA),(133,Zi),(134,Xc)]) (by simp [AeS,Ach,Aba])) Tryz.func111<|?_
 rintro ⟨f1,k2⟩
 unfold AaC
 refine A 6 ?_
 refine sC (E:=fun (_s : Unit) (g : Nat)=>[(1,.int .i64 k2),(2,.optr 2 g 0 0)]) (O:=fun _ g=>[(2,some (g,⟨false,true,3,40,[.agg [.int .i64 f1.Params,.sl (f1.Slots.map OV),.sl (f1.Code.map OT)]]⟩))]) (j:=fun _=>Zw f1 k2) ?_ ?_
 ·exact B
 ·rintro ⟨⟩ v2x1 nn
  try dsimp only
  unfold Zw
  refine A 10 ?_
  refine bD fun x_x3 hx_x3=>?_
  refine A 6 ?_
  refine sC (E:=fun (s : (List Int)) (g : Nat × Nat)=>[(5,.osl 5 g.1 0 s.length),(6,.optr 6 g.2 0 0)]) (O:=fun s g=>[(5,some (g.1,⟨false,false,1,3,s.map OM⟩)),(6,some (g.2,⟨false,true,5,69,[.agg [.int .i64 x_x3.Op,.int .i64 x_x3.A,.int .i64 x_x3.B,.int .i64 x_x3.C,.int .u64 x_x3.Imm]]⟩))]) (j:=fun s=>WR x_x3 s) ?_ ?_
  ·exact B
  ·rintro l4 ⟨v5x2,v6x2⟩ nn
   try dsimp only
   unfold WR
   exact B

def Sd (a : Int × OR) : List D:=[.int .i64 a.1,.fptr (Qo a.2) 0]
def Sc (ds : List D) : Int × OR:=(uI (ds.getD 0 .top),VK (fpD (ds.getD 1 .top)))
theorem Acf (a : Int × OR) : Sc (Sd a) = a:=by simp [Sc,Sd,uI,fpD]
instance : Pn Sd Sc:=⟨Acf⟩
def Acy (b : (List Int)) : D:=.sl (b.map OM)
noncomputable def Zh : Dw.Spec:=OQ [] .val Sd Sc (fun a=>TV a.1 a.2) Acy noE
theorem Acg : OP Tryz.prog 113 Zh:=by
 refine fn2 2 (Pm) Tryz.func113<|?_
 intro a
 unfold TV
 exact B

def Qb (a : OL) : List D:=[OT a]
def Qa (ds : List D) : OL:=AcJ (ds.getD 0 .top)
theorem AeM (a : OL) : Qa (Qb a) = a:=by simp [Qa,Qb]
instance : Pn Qb Qa:=⟨AeM⟩
def Afp (b : Int × Bool) : D:=.tup [.int .i64 b.1,.bool b.2]
noncomputable def Vo : Dw.Spec:=OQ [] .ground Qb Qa (fun a=>Sk a) Afp noE
theorem Yh : OP Tryz.prog 56 Vo:=by
 refine fn2 1 (Pm) Tryz.func56<|?_
 intro a
 unfold Sk
 exact B

def Sy (a : OK × Int × Bool) : List D:=[Po a.1,.int .i64 a.2.1,.bool a.2.2]
def Sx (ds : List D) : OK × Int × Bool:=(QQ (ds.getD 0 .top),uI (ds.getD 1 .top),uBo (ds.getD 2 .top))
theorem Acr (a : OK × Int × Bool) : Sx (Sy a) = a:=by simp [Sx,Sy,uI,uBo]
instance : Pn Sy Sx:=⟨Acr⟩
def AcP (_b : OK) : D:=.tup []
def AcO (b : OK) : List D:=[Po b]
noncomputable def Vn : Dw.Spec:=OQ [(0,(8,185))] .val Sy Sx (fun a=>Rs a.1 a.2.1 a.2.2) AcP AcO
theorem YZ : OP Tryz.prog 138 Vn:=by
 refine fn2 3 (OW (l:=[(109,Wh)]) (by simp [Zs])) Tryz.func138<|?_
 rintro ⟨s1,n2,in3⟩
 unfold Rs
 refine A 13 ?_
 refine bD fun r4 hr4=>?_
 refine A 5 ?_
 refine cD r ?_ ?_
 ·exact B
 ·refine A 6 ?_
  refine cD r ?_ ?_
  ·refine A 5 ?_
   refine cK fun hq=>TH r r r hq<|bD fun s_e5 hs_e5=>VJ (q:=s_e5) (l:=s1.toList) (en:=Yg) (j:=(IntKind.i64.wrap (n2.tdiv 64)).toNat) (by simp) r r r hs_e5 r (fun _=>r)<|?_
   refine A 3 ?_
   refine cK fun hq=>TH r r r hq<|bD fun s_o6 hs_o6=>AbX (q:=s_o6) (q':=IntKind.u64.wrap ((BitVec.ofInt IntKind.u64.bits s_e5 ||| BitVec.ofInt IntKind.u64.bits (IntKind.u64.wrap (1 * 2 ^ (Nat.min ((IntKind.u64.wrap (n2)).tmod 64).toNat IntKind.u64.bits)))).toNat)) (l:=s1.toList) (en:=Yg) (j:=(IntKind.i64.wrap (n2.tdiv 64)).toNat) (z':=.agg [.int .u64 ((s1.set ((IntKind.i64.wrap (n2.tdiv 64)).toNat) (IntKind.u64.wrap ((BitVec.ofInt IntKind.u64.bits s_e5 ||| BitVec.ofInt IntKind.u64.bits (IntKind.u64.wrap (1 * 2 ^ (Nat.min ((IntKind.u64.wrap (n2)).tmod 64).toNat IntKind.u64.bits)))).toNat))).a0),.int .u64 ((s1.set ((IntKind.i64.wrap (n2.tdiv 64)).toNat) (IntKind.u64.wrap ((BitVec.ofInt IntKind.u64.bits s_e5 ||| BitVec.ofInt IntKind.u64.bits (IntKind.u64.wrap (1 * 2 ^ (Nat.min ((IntKind.u64.wrap (n2)).tmod 64).toNat IntKind.u64.bits)))).toNat))).a1),.int .u64 ((s1.set ((IntKind.i64.wrap (n2.tdiv 64)).toNat) (IntKind.u64.wrap ((BitVec.ofInt IntKind.u64.bits s_e5 ||| BitVec.ofInt IntKind.u64.bits (IntKind.u64.wrap (1 * 2 ^ (Nat.min ((IntKind.u64.wrap (n2)).tmod 64).toNat IntKind.u64.bits)))).toNat))).a2),.int .u64 ((s1.set ((IntKind.i64.wrap (n2.tdiv 64)).toNat) (IntKind.u64.wrap ((BitVec.ofInt IntKind.u64.bits s_e5 ||| BitVec.ofInt IntKind.u64.bits (IntKind.u64.wrap (1 * 2 ^ (Nat.min ((IntKind.u64.wrap (n2)).tmod 64).toNat IntKind.u64.bits)))).toNat))).a3),.int .u64 ((s1.set ((IntKind.i64.wrap (n2.tdiv 64)).toNat) (IntKind.u64.wrap ((BitVec.ofInt IntKind.u64.bits s_e5 ||| BitVec.ofInt IntKind.u64.bits (IntKind.u64.wrap (1 * 2 ^ (Nat.min ((IntKind.u64.wrap (n2)).tmod 64).toNat IntKind.u64.bits)))).toNat))).a4),.int .u64 ((s1.set ((IntKind.i64.wrap (n2.tdiv 64)).toNat) (IntKind.u64.wrap ((BitVec.ofInt IntKind.u64.bits s_e5 ||| BitVec.ofInt IntKind.u64.bits (IntKind.u64.wrap (1 * 2 ^ (Nat.min ((IntKind.u64.wrap (n2)).tmod 64).toNat IntKind.u64.bits)))).toNat))).a5),.int .u64 ((s1.set ((IntKind.i64.wrap (n2.tdiv 64)).toNat) (IntKind.u64.wrap ((BitVec.ofInt IntKind.u64.bits s_e5 ||| BitVec.ofInt IntKind.u64.bits (IntKind.u64.wrap (1 * 2 ^ (Nat.min ((IntKind.u64.wrap (n2)).tmod 64).toNat IntKind.u64.bits)))).toNat))).a6),.int .u64 ((s1.set ((IntKind.i64.wrap (n2.tdiv 64)).toNat) (IntKind.u64.wrap ((BitVec.ofInt IntKind.u64.bits s_e5 ||| BitVec.ofInt IntKind.u64.bits (IntKind.u64.wrap (1 * 2 ^ (Nat.min ((IntKind.u64.wrap (n2)).tmod 64).toNat IntKind.u64.bits)))).toNat))).a7)]) (by simp) r r r r r hs_o6 r r (congrArg (fun l=>D.agg (l.map Yg)) (QV s1 ((IntKind.i64.wrap (n2.tdiv 64)).toNat) (IntKind.u64.wrap ((BitVec.ofInt IntKind.u64.bits s_e5 ||| BitVec.ofInt IntKind.u64.bits (IntKind.u64.wrap (1 * 2 ^ (Nat.min ((IntKind.u64.wrap (n2)).tmod 64).toNat IntKind.u64.bits)))).toNat))).symm) r r<|?_
   exact B
  ·refine A 5 ?_
   refine cK fun hq=>TH r r r hq<|bD fun s_e7 hs_e7=>VJ (q:=s_e7) (l:=s1.toList) (en:=Yg) (j:=(IntKind.i64.wrap (n2.tdiv 64)).toNat) (by simp) r r r hs_e7 r (fun _=>r)<|?_
   refine A 3 ?_
   refine cK fun hq=>TH r r r hq<|bD fun s_o8 hs_o8=>AbX (q:=s_o8) (q':=IntKind.u64.wrap ((BitVec.ofInt IntKind.u64.bits s_e7 &&& ~~~ BitVec.ofInt IntKind.u64.bits (IntKind.u64.wrap (1 * 2 ^ (Nat.min ((IntKind.u64.wrap (n2)).tmod 64).toNat IntKind.u64.bits)))).toNat)) (l:=s1.toList) (en:=Yg) (j:=(IntKind.i64.wrap (n2.tdiv 64)).toNat) (z':=.agg [.int .u64 ((s1.set ((IntKind.i64.wrap (n2.tdiv 64)).toNat) (IntKind.u64.wrap ((BitVec.ofInt IntKind.u64.bits s_e7 &&& ~~~ BitVec.ofInt IntKind.u64.bits (IntKind.u64.wrap (1 * 2 ^ (Nat.min ((IntKind.u64.wrap (n2)).tmod 64).toNat IntKind.u64.bits)))).toNat))).a0),.int .u64 ((s1.set ((IntKind.i64.wrap (n2.tdiv 64)).toNat) (IntKind.u64.wrap ((BitVec.ofInt IntKind.u64.bits s_e7 &&& ~~~ BitVec.ofInt IntKind.u64.bits (IntKind.u64.wrap (1 * 2 ^ (Nat.min ((IntKind.u64.wrap (n2)).tmod 64).toNat IntKind.u64.bits)))).toNat))).a1),.int .u64 ((s1.set ((IntKind.i64.wrap (n2.tdiv 64)).toNat) (IntKind.u64.wrap ((BitVec.ofInt IntKind.u64.bits s_e7 &&& ~~~ BitVec.ofInt IntKind.u64.bits (IntKind.u64.wrap (1 * 2 ^ (Nat.min ((IntKind.u64.wrap (n2)).tmod 64).toNat IntKind.u64.bits)))).toNat))).a2),.int .u64 ((s1.set ((IntKind.i64.wrap (n2.tdiv 64)).toNat) (IntKind.u64.wrap ((BitVec.ofInt IntKind.u64.bits s_e7 &&& ~~~ BitVec.ofInt IntKind.u64.bits (IntKind.u64.wrap (1 * 2 ^ (Nat.min ((IntKind.u64.wrap (n2)).tmod 64).toNat IntKind.u64.bits)))).toNat))).a3),.int .u64 ((s1.set ((IntKind.i64.wrap (n2.tdiv 64)).toNat) (IntKind.u64.wrap ((BitVec.ofInt IntKind.u64.bits s_e7 &&& ~~~ BitVec.ofInt IntKind.u64.bits (IntKind.u64.wrap (1 * 2 ^ (Nat.min ((IntKind.u64.wrap (n2)).tmod 64).toNat IntKind.u64.bits)))).toNat))).a4),.int .u64 ((s1.set ((IntKind.i64.wrap (n2.tdiv 64)).toNat) (IntKind.u64.wrap ((BitVec.ofInt IntKind.u64.bits s_e7 &&& ~~~ BitVec.ofInt IntKind.u64.bits (IntKind.u64.wrap (1 * 2 ^ (Nat.min ((IntKind.u64.wrap (n2)).tmod 64).toNat IntKind.u64.bits)))).toNat))).a5),.int .u64 ((s1.set ((IntKind.i64.wrap (n2.tdiv 64)).toNat) (IntKind.u64.wrap ((BitVec.ofInt IntKind.u64.bits s_e7 &&& ~~~ BitVec.ofInt IntKind.u64.bits (IntKind.u64.wrap (1 * 2 ^ (Nat.min ((IntKind.u64.wrap (n2)).tmod 64).toNat IntKind.u64.bits)))).toNat))).a6),.int .u64 ((s1.set ((IntKind.i64.wrap (n2.tdiv 64)).toNat) (IntKind.u64.wrap ((BitVec.ofInt IntKind.u64.bits s_e7 &&& ~~~ BitVec.ofInt IntKind.u64.bits (IntKind.u64.wrap (1 * 2 ^ (Nat.min ((IntKind.u64.wrap (n2)).tmod 64).toNat IntKind.u64.bits)))).toNat))).a7)]) (by simp) r r r r r hs_o8 r r (congrArg (fun l=>D.agg (l.map Yg)) (QV s1 ((IntKind.i64.wrap (n2.tdiv 64)).toNat) (IntKind.u64.wrap ((BitVec.ofInt IntKind.u64.bits s_e7 &&& ~~~ BitVec.ofInt IntKind.u64.bits (IntKind.u64.wrap (1 * 2 ^ (Nat.min ((IntKind.u64.wrap (n2)).tmod 64).toNat IntKind.u64.bits)))).toNat))).symm) r r<|?_
   exact B

def AfT (b : OK) : D:=Po b
noncomputable def Ui : Dw.Spec:=OQ [] (.ptr 8 185) Ro Rn (fun a=>QS a) AfT noE
theorem Vm : OP Tryz.prog 114 Ui:=by
 refine fn2 1 (OW (l:=[(138,Vn)]) (by simp [YZ])) Tryz.func114<|?_
 intro l1
 unfold QS
 refine A 21 ?_
 refine lP (E:=fun (s : OK × Int) (g : Nat)=>[(3,.optr 7 g 0 0),(8,.sl (l1.map OM)),(9,.int .i64 (l1.length : Int)),(10,.int .i64 s.2)]) (O:=fun s g=>[(7,some (g,⟨false,true,8,185,[.agg [.int .u64 s.1.a0,.int .u64 s.1.a1,.int .u64 s.1.a2,.int .u64 s.1.a3,.int .u64 s.1.a4,.int .u64 s.1.a5,.int .u64 s.1.a6,.int .u64 s.1.a7]]⟩))]) (body:=fun s=>Vl l1 s.1 s.2) (s:=((OK.mk 0 0 0 0 0 0 0 0),0)) _ ((hE ⟨rfl,r,r,r,trivial⟩ ⟨rfl,trivial⟩))<|?_
 rintro ⟨x2,x3⟩ v7x1 nn
 try dsimp only
 unfold Vl
 exact B

def RZ (a : OK) : List D:=[Po a]
def RY (ds : List D) : OK:=QQ (ds.getD 0 .top)
theorem AbZ (a : OK) : RY (RZ a) = a:=by simp [RY,RZ]
instance : Pn RZ RY:=⟨AbZ⟩
def Acq (b : (List Int) × OK) : D:=.sl (b.1.map OM)
def Acp (b : (List Int) × OK) : List D:=[Po b.2]
noncomputable def Rr : Dw.Spec:=OQ [(0,(8,185))] (.row 1 3) RZ RY (fun a=>Qh a) Acq Acp
theorem Sw : OP Tryz.prog 117 Rr:=by
 refine fn2 1 (OW (l:=[(139,Ajs)]) (by simp [Amk])) Tryz.func117<|?_
 intro s1
 unfold Qh
 refine A 18 ?_
 refine lP (E:=fun (s : (List Int) × Int) (g : Nat)=>[(3,.osl 3 g 0 s.1.length),(6,.optr 8192 0 0 0),(7,.int .i64 s.2)]) (O:=fun s g=>[(3,some (g,⟨false,false,1,3,s.1.map OM⟩)),(8192,some (0,⟨false,true,8,185,[.agg [.int .u64 s1.a0,.int .u64 s1.a1,.int .u64 s1.a2,.int .u64 s1.a3,.int .u64 s1.a4,.int .u64 s1.a5,.int .u64 s1.a6,.int .u64 s1.a7]]⟩))]) (body:=fun s=>Su s1 s.1 s.2) (s:=(([] : List Int),0)) _ ((hE ⟨rfl,r,r,trivial⟩ ⟨rfl,r,trivial⟩))<|?_
 rintro ⟨l2,x3⟩ v3x1 nn
 try dsimp only
 unfold Su
 refine A 6 ?_
 refine cD r ?_ ?_
 ·refine A 8 ?_
  refine cK fun hq=>TH r r r hq<|bD fun s_e4 hs_e4=>VJ (q:=s_e4) (l:=s1.toList) (en:=Yg) (j:=x3.toNat) (by simp) r r r hs_e4 r (fun _=>r)<|?_
  refine A 5 ?_
  refine lP (E:=fun (s : (List Int) × Int) (g : Nat)=>[(3,.osl 3 g 0 s.1.length),(4,.int .i64 x3),(5,.int .u64 s.2),(6,.optr 8192 0 0 0),(7,.int .i64 x3)]) (O:=fun s g=>[(3,some (g,⟨false,false,1,3,s.1.map OM⟩)),(8192,some (0,⟨false,true,8,185,[.agg [.int .u64 s1.a0,.int .u64 s1.a1,.int .u64 s1.a2,.int .u64 s1.a3,.int .u64 s1.a4,.int .u64 s1.a5,.int .u64 s1.a6,.int .u64 s1.a7]]⟩))]) (body:=fun s=>Sv x3 s.1 s.2) (s:=(l2,s_e4)) _ ((hE ⟨rfl,r,r,r,r,trivial⟩ ⟨rfl,r,trivial⟩))<|?_
  rintro ⟨l5,x6⟩ v3x2 nn
  try dsimp only
  unfold Sv
  exact B
 ·exact B

def Qz (a : (List Int) × Int) : List D:=[.sl (a.1.map OM),.int .i64 a.2]
def Qy (ds : List D) : (List Int) × Int:=((uL uI) (ds.getD 0 .top),uI (ds.getD 1 .top))
theorem Afh (a : (List Int) × Int) : Qy (Qz a) = a:=by simp [Qy,Qz,uI,PN (u:=uI) (en:=OM) (fun _=>rfl)]
instance : Pn Qz Qy:=⟨Afh⟩
def AfR (b : (List Int)) : D:=.sl (b.map OM)
noncomputable def AbI : Dw.Spec:=OQ [] .val Qz Qy (fun a=>TY a.1 a.2) AfR noE
theorem Afi : OP Tryz.prog 135 AbI:=by
 refine fn2 2 (OW (l:=[(114,Ui),(138,Vn),(117,Rr)]) (by simp [Vm,YZ,Sw])) Tryz.func135<|?_
 intro a
 unfold TY
 exact B

def AhA (b : (List Int)) : D:=.sl (b.map OM)
noncomputable def Adf : Dw.Spec:=OQ [] (.row 1 3) Qb Qa (fun a=>VW a) AhA noE
theorem AgA : OP Tryz.prog 137 Adf:=by
 refine fn2 1 (Pm) Tryz.func137<|?_
 intro a
 unfold VW
 exact B

def Ajx (b : (List Int)) : D:=.sl (b.map OM)
noncomputable def AeT : Dw.Spec:=OQ [] (.row 1 3) Ro Rn (fun a=>WL a) Ajx noE
theorem Aix : OP Tryz.prog 136 AeT:=by
 refine fn2 1 (OW (l:=[(114,Ui),(117,Rr)]) (by simp [Vm,Sw])) Tryz.func136<|?_
 intro a
 unfold WL
 exact B

def SK (a : Int × Int) : List D:=[.int .u64 a.1,.int .u64 a.2]
def SJ (ds : List D) : Int × Int:=(uI (ds.getD 0 .top),uI (ds.getD 1 .top))
theorem Aev (a : Int × Int) : SJ (SK a) = a:=by simp [SJ,SK,uI]
instance : Pn SK SJ:=⟨Aev⟩
def Afj (b : Int) : D:=.int .u64 b
noncomputable def Abk : Dw.Spec:=OQ [] .ground SK SJ (fun a=>UZ a.1 a.2) Afj noE
theorem Aew : OP Tryz.prog 116 Abk:=by
 refine fn2 2 (Pm) Tryz.func116<|?_
 intro a
 unfold UZ
 exact B

def Qu (a : OK × OK) : List D:=[Po a.1,Po a.2,.clo 116 []]
def Qt (ds : List D) : OK × OK:=(QQ (ds.getD 0 .top),QQ (ds.getD 1 .top))
theorem Uk (a : OK × OK) : Qt (Qu a) = a:=by simp [Qt,Qu]
instance : Pn Qu Qt:=⟨Uk⟩
def ZX (b : OK × OK × OK) : D:=Po b.1
def ZW (b : OK × OK × OK) : List D:=[Po b.2.1,Po b.2.2]
noncomputable def RX : Dw.Spec:=OQ [(0,(8,185)),(1,(8,185))] (.ptr 8 185) Qu Qt (fun a=>Ql a.1 a.2) ZX ZW
theorem Zr : OP Tryz.prog 115 RX:=by
 refine fn2 3 (OW (l:=[(116,Abk)]) (by simp [Aew])) Tryz.func115<|?_
 rintro ⟨s1,t2⟩
 unfold Ql
 refine A 19 ?_
 refine lP (E:=fun (s : OK × Int) (g : Nat)=>[(0,.optr 8192 0 0 0),(1,.optr 8193 1 0 0),(2,.clo 116 []),(7,.optr 10 g 0 0),(11,.int .i64 s.2)]) (O:=fun s g=>[(10,some (g,⟨false,true,8,185,[.agg [.int .u64 s.1.a0,.int .u64 s.1.a1,.int .u64 s.1.a2,.int .u64 s.1.a3,.int .u64 s.1.a4,.int .u64 s.1.a5,.int .u64 s.1.a6,.int .u64 s.1.a7]]⟩)),(8192,some (0,⟨false,true,8,185,[.agg [.int .u64 s1.a0,.int .u64 s1.a1,.int .u64 s1.a2,.int .u64 s1.a3,.int .u64 s1.a4,.int .u64 s1.a5,.int .u64 s1.a6,.int .u64 s1.a7]]⟩)),(8193,some (1,⟨false,true,8,185,[.agg [.int .u64 t2.a0,.int .u64 t2.a1,.int .u64 t2.a2,.int .u64 t2.a3,.int .u64 t2.a4,.int .u64 t2.a5,.int .u64 t2.a6,.int .u64 t2.a7]]⟩))]) (body:=fun s=>PY s1 t2 s.1 s.2) (s:=((OK.mk 0 0 0 0 0 0 0 0),0)) _ ((hE ⟨rfl,r,r,r,r,trivial⟩ ⟨rfl,r,r,trivial⟩))<|?_
 rintro ⟨x3,x4⟩ v10x1 nn
 try dsimp only
 unfold PY
 refine A 6 ?_
 refine cD r ?_ ?_
 ·refine A 17 ?_
  refine cK fun hq=>TH r r r hq<|bD fun s_e5 hs_e5=>VJ (q:=s_e5) (l:=s1.toList) (en:=Yg) (j:=x4.toNat) (by simp) r r r hs_e5 r (fun _=>r)<|?_
  refine A 3 ?_
  refine cK fun hq=>TH r r r hq<|bD fun t_e6 ht_e6=>VJ (q:=t_e6) (l:=t2.toList) (en:=Yg) (j:=x4.toNat) (by simp) r r r ht_e6 r (fun _=>r)<|bD fun r7 hr7=>?_
  refine A 2 ?_
  refine cK fun hq=>TH r r r hq<|bD fun x_o8 hx_o8=>Ags (q:=x_o8) (q':=r7) (l:=x3.toList) (en:=Yg) (j:=x4.toNat) (z':=.agg [.int .u64 ((x3.set x4.toNat r7).a0),.int .u64 ((x3.set x4.toNat r7).a1),.int .u64 ((x3.set x4.toNat r7).a2),.int .u64 ((x3.set x4.toNat r7).a3),.int .u64 ((x3.set x4.toNat r7).a4),.int .u64 ((x3.set x4.toNat r7).a5),.int .u64 ((x3.set x4.toNat r7).a6),.int .u64 ((x3.set x4.toNat r7).a7)]) (by simp) r r r r r hx_o8 r r (congrArg (fun l=>D.agg (l.map Yg)) (QV x3 x4.toNat r7).symm)<|?_
  exact B
 ·exact B

def QK (a : (List Int) × (List Int)) : List D:=[.sl (a.1.map OM),.sl (a.2.map OM)]
def QJ (ds : List D) : (List Int) × (List Int):=((uL uI) (ds.getD 0 .top),(uL uI) (ds.getD 1 .top))
theorem AfS (a : (List Int) × (List Int)) : QJ (QK a) = a:=by simp [QJ,QK,PN (u:=uI) (en:=OM) (fun _=>rfl)]
instance : Pn QK QJ:=⟨AfS⟩
def Agy (b : (List Int)) : D:=.sl (b.map OM)
noncomputable def Aad : Dw.Spec:=OQ [] .val QK QJ (fun a=>SI a.1 a.2) Agy noE
theorem AbJ : OP Tryz.prog 87 Aad:=by
 refine fn2 2 (OW (l:=[(114,Ui),(479347,RX),(117,Rr)]) (by simp [Vm,Zr,Sw])) Tryz.func87<|?_
 rintro ⟨a1,b2⟩
 unfold SI
 refine A 8 ?_
 refine bD fun r3 hr3=>?_
 refine A 2 ?_
 refine bD fun r4 hr4=>?_
 refine A 1 ?_
 refine bD fun r5 hr5=>cP (r3,r4) rfl rfl (show _ = some RX from by kernel_rfl) Uk rfl rfl (by simp) r hr5<|?_
 exact B

def Ub (a : OL × (List Int)) : List D:=[OT a.1,.sl (a.2.map OM)]
def Ua (ds : List D) : OL × (List Int):=(AcJ (ds.getD 0 .top),(uL uI) (ds.getD 1 .top))
theorem AiG (a : OL × (List Int)) : Ua (Ub a) = a:=by simp [Ua,Ub,PN (u:=uI) (en:=OM) (fun _=>rfl)]
instance : Pn Ub Ua:=⟨AiG⟩
def AjE (b : (List Int)) : D:=.sl (b.map OM)
noncomputable def AeW : Dw.Spec:=OQ [] .val Ub Ua (fun a=>AaA a.1 a.2) AjE noE
theorem AiH : OP Tryz.prog 112 AeW:=by
 refine fn2 2 (OW (l:=[(56,Vo),(135,AbI),(137,Adf),(136,AeT),(87,Aad)]) (by simp [Yh,Afi,AgA,Aix,AbJ])) Tryz.func112<|?_
 intro a
 unfold AaA
 exact B

def Afg (b : Int) : D:=.int .u64 b
noncomputable def Abj : Dw.Spec:=OQ [] .ground SK SJ (fun a=>UY a.1 a.2) Afg noE
theorem Aeu : OP Tryz.prog 118 Abj:=by
 refine fn2 2 (Pm) Tryz.func118<|?_
 intro a
 unfold UY
 exact B

def Qs (a : OK × OK) : List D:=[Po a.1,Po a.2,.clo 118 []]
def Qr (ds : List D) : OK × OK:=(QQ (ds.getD 0 .top),QQ (ds.getD 1 .top))
theorem Uj (a : OK × OK) : Qr (Qs a) = a:=by simp [Qr,Qs]
instance : Pn Qs Qr:=⟨Uj⟩
def ZV (b : OK × OK × OK) : D:=Po b.1
def ZU (b : OK × OK × OK) : List D:=[Po b.2.1,Po b.2.2]
noncomputable def RW : Dw.Spec:=OQ [(0,(8,185)),(1,(8,185))] (.ptr 8 185) Qs Qr (fun a=>Qk a.1 a.2) ZV ZU
theorem Zq : OP Tryz.prog 115 RW:=by
 refine fn2 3 (OW (l:=[(118,Abj)]) (by simp [Aeu])) Tryz.func115<|?_
 rintro ⟨s1,t2⟩
 unfold Qk
 refine A 19 ?_
 refine lP (E:=fun (s : OK × Int) (g : Nat)=>[(0,.optr 8192 0 0 0),(1,.optr 8193 1 0 0),(2,.clo 118 []),(7,.optr 10 g 0 0),(11,.int .i64 s.2)]) (O:=fun s g=>[(10,some (g,⟨false,true,8,185,[.agg [.int .u64 s.1.a0,.int .u64 s.1.a1,.int .u64 s.1.a2,.int .u64 s.1.a3,.int .u64 s.1.a4,.int .u64 s.1.a5,.int .u64 s.1.a6,.int .u64 s.1.a7]]⟩)),(8192,some (0,⟨false,true,8,185,[.agg [.int .u64 s1.a0,.int .u64 s1.a1,.int .u64 s1.a2,.int .u64 s1.a3,.int .u64 s1.a4,.int .u64 s1.a5,.int .u64 s1.a6,.int .u64 s1.a7]]⟩)),(8193,some (1,⟨false,true,8,185,[.agg [.int .u64 t2.a0,.int .u64 t2.a1,.int .u64 t2.a2,.int .u64 t2.a3,.int .u64 t2.a4,.int .u64 t2.a5,.int .u64 t2.a6,.int .u64 t2.a7]]⟩))]) (body:=fun s=>PX s1 t2 s.1 s.2) (s:=((OK.mk 0 0 0 0 0 0 0 0),0)) _ ((hE ⟨rfl,r,r,r,r,trivial⟩ ⟨rfl,r,r,trivial⟩))<|?_
 rintro ⟨x3,x4⟩ v10x1 nn
 try dsimp only
 unfold PX
 refine A 6 ?_
 refine cD r ?_ ?_
 ·refine A 17 ?_
  refine cK fun hq=>TH r r r hq<|bD fun s_e5 hs_e5=>VJ (q:=s_e5) (l:=s1.toList) (en:=Yg) (j:=x4.toNat) (by simp) r r r hs_e5 r (fun _=>r)<|?_
  refine A 3 ?_
  refine cK fun hq=>TH r r r hq<|bD fun t_e6 ht_e6=>VJ (q:=t_e6) (l:=t2.toList) (en:=Yg) (j:=x4.toNat) (by simp) r r r ht_e6 r (fun _=>r)<|bD fun r7 hr7=>?_
  refine A 2 ?_
  refine cK fun hq=>TH r r r hq<|bD fun x_o8 hx_o8=>Ags (q:=x_o8) (q':=r7) (l:=x3.toList) (en:=Yg) (j:=x4.toNat) (z':=.agg [.int .u64 ((x3.set x4.toNat r7).a0),.int .u64 ((x3.set x4.toNat r7).a1),.int .u64 ((x3.set x4.toNat r7).a2),.int .u64 ((x3.set x4.toNat r7).a3),.int .u64 ((x3.set x4.toNat r7).a4),.int .u64 ((x3.set x4.toNat r7).a5),.int .u64 ((x3.set x4.toNat r7).a6),.int .u64 ((x3.set x4.toNat r7).a7)]) (by simp) r r r r r hx_o8 r r (congrArg (fun l=>D.agg (l.map Yg)) (QV x3 x4.toNat r7).symm)<|?_
  exact B
 ·exact B

def Agx (b : (List Int)) : D:=.sl (b.map OM)
noncomputable def Aco : Dw.Spec:=OQ [] .val QK QJ (fun a=>UX a.1 a.2) Agx noE
theorem AfQ : OP Tryz.prog 88 Aco:=by
 refine fn2 2 (OW (l:=[(114,Ui),(487539,RW),(117,Rr)]) (by simp [Vm,Zq,Sw])) Tryz.func88<|?_
 rintro ⟨a1,b2⟩
 unfold UX
 refine A 8 ?_
 refine bD fun r3 hr3=>?_
 refine A 2 ?_
 refine bD fun r4 hr4=>?_
 refine A 1 ?_
 refine bD fun r5 hr5=>cP (r3,r4) rfl rfl (show _ = some RW from by kernel_rfl) Uj rfl rfl (by simp) r hr5<|?_
 exact B

def QI (a : (List Int) × (List Int) × OR × Int) : List D:=[.sl (a.1.map OM),.sl (a.2.1.map OM),.fptr (Qo a.2.2.1) 0,.fptr (.int .i64 a.2.2.2) 0]
def QH (ds : List D) : (List Int) × (List Int) × OR × Int:=((uL uI) (ds.getD 0 .top),(uL uI) (ds.getD 1 .top),VK (fpD (ds.getD 2 .top)),uI (fpD (ds.getD 3 .top)))
theorem Aag (a : (List Int) × (List Int) × OR × Int) : QH (QI a) = a:=by simp [QH,QI,uI,fpD,PN (u:=uI) (en:=OM) (fun _=>rfl)]
instance : Pn QI QH:=⟨Aag⟩
def AaF (b : Bool × (List Int)) : D:=.bool b.1
def AaE (b : Bool × (List Int)) : List D:=[.sl (b.2.map OM)]
noncomputable def Vk : Dw.Spec:=OQ [(1,(1,30))] .val QI QH (fun a=>RG a.1 a.2.1 a.2.2.1 a.2.2.2) AaF AaE
theorem Aah : OP Tryz.prog 86 Vk:=by
 refine fn2 4 (OW (l:=[(88,Aco),(87,Aad)]) (by simp [AfQ,AbJ])) Tryz.func86<|?_
 rintro ⟨need1,cap2,cap3,cap4⟩
 unfold RG
 refine A 12 ?_
 refine bD fun x_x5 hx_x5=>?_
 refine A 2 ?_
 refine bD fun r6 hr6=>?_
 refine A 1 ?_
 refine bD fun r7 hr7=>?_
 refine A 1 ?_
 refine Wf (i:=0) (es':=[.sl (r7.map OM)]) r r r r r r r (by first | trivial | (simp; done) | (simp; omega)) r r r r r r<|?_
 exact B

def PE (a : OJ × Int × OR × (List Int) × OR × Int) : List D:=[PS a.1,.int .i64 a.2.1,.clo 113 [.fptr (Qo a.2.2.1) 0],.clo 86 [.sl (a.2.2.2.1.map OM),.fptr (Qo a.2.2.2.2.1) 0,.fptr (.int .i64 a.2.2.2.2.2) 0]]
def PW (ds : List D) : OJ × Int × OR × (List Int) × OR × Int:=(Se (ds.getD 0 .top),uI (ds.getD 1 .top),VK (fpD (Afk (ds.getD 2 .top) 0)),(uL uI) (Afk (ds.getD 3 .top) 0),VK (fpD (Afk (ds.getD 3 .top) 1)),uI (fpD (Afk (ds.getD 3 .top) 2)))
theorem SO (a : OJ × Int × OR × (List Int) × OR × Int) : PW (PE a) = a:=by simp [PW,PE,uI,fpD,Afk,PN (u:=uI) (en:=OM) (fun _=>rfl)]
instance : Pn PE PW:=⟨SO⟩
def Xj (b : Bool × (List Int)) : D:=.bool b.1
def Xi (b : Bool × (List Int)) : List D:=[.sl (b.2.map OM)]
noncomputable def Ra : Dw.Spec:=OQ [(256,(1,30))] .val PE PW (fun a=>PQ a.1 a.2.1 a.2.2.1 a.2.2.2.1 a.2.2.2.2.1 a.2.2.2.2.2) Xj Xi
theorem WS : OP Tryz.prog 84 Ra:=by
 refine fn2 4 (OW (l:=[(111,AeX),(113,Zh),(112,AeW),(86,Vk)]) (by simp [AiJ,Acg,AiH,Aah])) Tryz.func84<|?_
 rintro ⟨f1,k2,set3,visit4,visit5,visit6⟩
 unfold PQ
 refine A 11 ?_
 refine bD fun r7 hr7=>?_
 refine A 6 ?_
 refine lP (E:=fun (s : (List Int) × Int) (g : Nat × Nat)=>[(2,.clo 113 [.fptr (.agg [.sl (set3.Out.map (eL OM))]) 0]),(3,.clo 86 [.optr 8448 256 0 0,.fptr (.agg [.sl (visit5.Out.map (eL OM))]) 0,.fptr (.int .i64 visit6) 0]),(4,.optr 4 g.1 0 0),(13,.osl 13 g.2 0 r7.length),(14,.int .i64 (r7.length : Int)),(15,.int .i64 s.2)]) (O:=fun s g=>[(4,some (g.1,⟨false,true,3,40,[.agg [.int .i64 f1.Params,.sl (f1.Slots.map OV),.sl (f1.Code.map OT)]]⟩)),(13,some (g.2,⟨false,false,1,3,r7.map OM⟩)),(8448,some (256,⟨false,true,1,30,[.sl (s.1.map OM)]⟩))]) (body:=fun s=>Pt r7 f1 set3 visit5 visit6 s.1 s.2) (s:=(visit4,0)) (_,_) ((hE ⟨rfl,r,r,r,r,r,trivial⟩ ⟨rfl,r,r,trivial⟩))<|?_
 rintro ⟨x8,x9⟩ ⟨v4x1,v13x1⟩ nn
 try dsimp only
 unfold Pt
 exact B

def AeO (b : Int × Int × Bool) : D:=.tup [.int .i64 b.1,.int .i64 b.2.1,.bool b.2.2]
noncomputable def AaU : Dw.Spec:=OQ [] .ground Pr Pq (fun a=>Uv a.1 a.2) AeO noE
theorem AdY : OP Tryz.prog 48 AaU:=by
 refine fn2 2 (OW (l:=[(47,WT),(85,Abq),(1460084820,Ra)]) (by simp [Aaa,AeQ,WS])) Tryz.func48<|?_
 rintro ⟨f1,l2⟩
 unfold Uv
 refine A 8 ?_
 refine Tz (E:=[(2,.optr 2 _ 0 0),(3,.fptr (.agg [.sl (l2.Out.map (eL OM))]) 0)]) (O:=[(2,some (_,⟨false,true,3,40,[.agg [.int .i64 f1.Params,.sl (f1.Slots.map OV),.sl (f1.Code.map OT)]]⟩))]) ((YU (g:=3) r (by first | rfl | (simp [cells,frp,Pg,Pu]; done)) (hE ⟨(by first | rfl | (simp [OY,frp]; done) | (simp [OY,frp,Pg]; done) | (simp [OY,frp,Pg,nbq]; done) | (simp [OY,lkO,frp,Pg,frO]; done) | (simp [OY,lkO,frp,Pg,frO]; rfl) | (simp [OY,lkO,frp,Pg,frO,nbq]; done)),(by first | rfl | (simp [OY,frp]; done) | (simp [OY,frp,Pg]; done) | (simp [OY,frp,Pg,nbq]; done) | (simp [OY,lkO,frp,Pg,frO]; done) | (simp [OY,lkO,frp,Pg,frO]; rfl) | (simp [OY,lkO,frp,Pg,frO,nbq]; done)),trivial⟩ ⟨(by first | rfl | (simp [OY,frp]; done) | (simp [OY,frp,Pg]; done) | (simp [OY,frp,Pg,nbq]; done) | (simp [OY,lkO,frp,Pg,frO]; done) | (simp [OY,lkO,frp,Pg,frO]; rfl) | (simp [OY,lkO,frp,Pg,frO,nbq]; done)),trivial⟩))) fun nn=>?_
 refine A 5 ?_
 refine bD fun r3 hr3=>?_
 refine A 4 ?_
 refine cD r ?_ ?_
 ·exact B
 ·refine A 12 ?_
  refine lP (E:=fun (s : Int) (g : Nat)=>[(2,.optr 2 g 0 0),(3,.fptr (.agg [.sl (l2.Out.map (eL OM))]) 0),(15,.int .i64 (f1.Code.length : Int)),(16,.int .i64 s)]) (O:=fun _ g=>[(2,some (g,⟨false,true,3,40,[.agg [.int .i64 f1.Params,.sl (f1.Slots.map OV),.sl (f1.Code.map OT)]]⟩))]) (body:=fun s=>Uw f1 l2 s) (s:=0) _ ((hE ⟨rfl,r,r,r,trivial⟩ ⟨rfl,trivial⟩))<|?_
  rintro x4 v2x1 nn
  try dsimp only
  unfold Uw
  refine A 6 ?_
  refine cD r ?_ ?_
  ·refine A 10 ?_
   refine Tz (E:=[(2,.optr 2 _ 0 0),(3,.fptr (.agg [.sl (l2.Out.map (eL OM))]) 0),(7,.fptr (.int .i64 x4) 0),(15,.int .i64 (f1.Code.length : Int)),(16,.int .i64 x4)]) (O:=[(2,some (_,⟨false,true,3,40,[.agg [.int .i64 f1.Params,.sl (f1.Slots.map OV),.sl (f1.Code.map OT)]]⟩))]) ((YU (g:=7) r (by first | rfl | (simp [cells,frp,Pg,Pu]; done)) (hE ⟨(by first | rfl | (simp [OY,frp]; done) | (simp [OY,frp,Pg]; done) | (simp [OY,frp,Pg,nbq]; done) | (simp [OY,lkO,frp,Pg,frO]; done) | (simp [OY,lkO,frp,Pg,frO]; rfl) | (simp [OY,lkO,frp,Pg,frO,nbq]; done)),(by first | rfl | (simp [OY,frp]; done) | (simp [OY,frp,Pg]; done) | (simp [OY,frp,Pg,nbq]; done) | (simp [OY,lkO,frp,Pg,frO]; done) | (simp [OY,lkO,frp,Pg,frO]; rfl) | (simp [OY,lkO,frp,Pg,frO,nbq]; done)),(by first | rfl | (simp [OY,frp]; done) | (simp [OY,frp,Pg]; done) | (simp [OY,frp,Pg,nbq]; done) | (simp [OY,lkO,frp,Pg,frO]; done) | (simp [OY,lkO,frp,Pg,frO]; rfl) | (simp [OY,lkO,frp,Pg,frO,nbq]; done)),(by first | rfl | (simp [OY,frp]; done) | (simp [OY,frp,Pg]; done) | (simp [OY,frp,Pg,nbq]; done) | (simp [OY,lkO,frp,Pg,frO]; done) | (simp [OY,lkO,frp,Pg,frO]; rfl) | (simp [OY,lkO,frp,Pg,frO,nbq]; done)),(by first | rfl | (simp [OY,frp]; done) | (simp [OY,frp,Pg]; done) | (simp [OY,frp,Pg,nbq]; done) | (simp [OY,lkO,frp,Pg,frO]; done) | (simp [OY,lkO,frp,Pg,frO]; rfl) | (simp [OY,lkO,frp,Pg,frO,nbq]; done)),trivial⟩ ⟨(by first | rfl | (simp [OY,frp]; done) | (simp [OY,frp,Pg]; done) | (simp [OY,frp,Pg,nbq]; done) | (simp [OY,lkO,frp,Pg,frO]; done) | (simp [OY,lkO,frp,Pg,frO]; rfl) | (simp [OY,lkO,frp,Pg,frO,nbq]; done)),trivial⟩))) fun nn=>?_
   refine A 10 ?_
   refine bD fun r5 hr5=>?_
   refine A 1 ?_
   refine mF (caps:=[.optr 8 _ 0 0,.fptr (.agg [.sl (l2.Out.map (eL OM))]) 0,.fptr (.int .i64 x4) 0]) r r (by simp [Aaq])<|bD fun r6 hr6=>cV (f1,x4,r5,[],l2,x4) rfl rfl (show _ = some Ra from by kernel_rfl) SO rfl rfl (by simp) (by first | rfl | (simp only [OH]; rfl) | (simp only [OI]; rfl) | (simp only [OH,OI]; rfl) | simp [PE,PS,Qo,Qo]) hr6<|?_
   exact B
  ·exact B

def AeN (b : Int) : D:=.int .i64 b
noncomputable def Yk : Dw.Spec:=OQ [] .ground Pr Pq (fun a=>Ta a.1 a.2) AeN noE
theorem AaD : OP Tryz.prog 25 Yk:=by
 refine fn2 2 (OW (l:=[(47,WT),(48,AaU)]) (by simp [Aaa,AdY])) Tryz.func25<|?_
 intro a
 unfold Ta
 exact B

def SM (a : OJ × (List Int)) : List D:=[PS a.1,.sl (a.2.map OM)]
def SL (ds : List D) : OJ × (List Int):=(Se (ds.getD 0 .top),(uL uI) (ds.getD 1 .top))
theorem Aex (a : OJ × (List Int)) : SL (SM a) = a:=by simp [SL,SM,PN (u:=uI) (en:=OM) (fun _=>rfl)]
instance : Pn SM SL:=⟨Aex⟩
def Afl (b : Bool) : D:=.bool b
noncomputable def Abl : Dw.Spec:=OQ [] .ground SM SL (fun a=>Va a.1 a.2) Afl noE
theorem Aey : OP Tryz.prog 49 Abl:=by
 refine fn2 2 (Pm) Tryz.func49<|?_
 rintro ⟨f1,to2⟩
 unfold Va
 refine A 17 ?_
 refine cD r ?_ ?_
 ·exact B
 ·refine A 11 ?_
  refine lP (E:=fun (s : Int) (g : Nat)=>[(1,.sl (to2.map OM)),(2,.optr 2 g 0 0),(13,.sl (to2.map OM)),(14,.int .i64 (to2.length : Int)),(15,.int .i64 s)]) (O:=fun _ g=>[(2,some (g,⟨false,true,3,40,[.agg [.int .i64 f1.Params,.sl (f1.Slots.map OV),.sl (f1.Code.map OT)]]⟩))]) (body:=fun s=>UK to2 f1 s) (s:=0) _ ((hE ⟨rfl,r,r,r,r,trivial⟩ ⟨rfl,trivial⟩))<|?_
  rintro x3 v2x1 nn
  try dsimp only
  unfold UK
  exact B

def AdV (b : Bool) : D:=.bool b
noncomputable def AaB : Dw.Spec:=OQ [] .ground Qb Qa (fun a=>Vp a) AdV noE
theorem AdF : OP Tryz.prog 50 AaB:=by
 refine fn2 1 (OW (l:=[(56,Vo)]) (by simp [Yh])) Tryz.func50<|?_
 intro a
 unfold Vp
 exact B

def Rg (a : OJ × OU) : List D:=[PS a.1,TZ a.2]
def Rf (ds : List D) : OJ × OU:=(Se (ds.getD 0 .top),Aas (ds.getD 1 .top))
theorem AfJ (a : OJ × OU) : Rf (Rg a) = a:=by simp [Rf,Rg]
instance : Pn Rg Rf:=⟨AfJ⟩
def Ago (b : Int) : D:=.int .i64 b
noncomputable def ZR : Dw.Spec:=OQ [] .ground Rg Rf (fun a=>Uh a.1 a.2) Ago noE
theorem Aby : OP Tryz.prog 26 ZR:=by
 refine fn2 2 (OW (l:=[(49,Abl),(50,AaB)]) (by simp [Aey,AdF])) Tryz.func26<|?_
 rintro ⟨f1,r2⟩
 unfold Uh
 refine A 7 ?_
 refine sC (E:=fun (_s : Unit) (g : Nat × Nat)=>[(2,.optr 2 g.1 0 0),(3,.optr 3 g.2 0 0)]) (O:=fun _ g=>[(2,some (g.1,⟨false,true,3,40,[.agg [.int .i64 f1.Params,.sl (f1.Slots.map OV),.sl (f1.Code.map OT)]]⟩)),(3,some (g.2,⟨false,true,2,33,[.agg [.sl (r2.To.map OM),.sl (r2.Keep.map D.bool)]]⟩))]) (j:=fun _=>VI f1 r2) ?_ ?_
 ·exact B
 ·rintro ⟨⟩ ⟨v2x1,v3x1⟩ nn
  try dsimp only
  unfold VI
  refine A 10 ?_
  refine lP (E:=fun (s : Int) (g : Nat)=>[(3,.optr 3 g 0 0),(22,.sl (f1.Code.map OT)),(23,.int .i64 (f1.Code.length : Int)),(24,.int .i64 s)]) (O:=fun _ g=>[(3,some (g,⟨false,true,2,33,[.agg [.sl (r2.To.map OM),.sl (r2.Keep.map D.bool)]]⟩))]) (body:=fun s=>VH f1 r2 s) (s:=0) _ ((hE ⟨rfl,r,r,r,trivial⟩ ⟨rfl,trivial⟩))<|?_
  rintro x4 v3x2 nn
  try dsimp only
  unfold VH
  exact B

def Qj (a : Int × OJ × OU × OR) : List D:=[.int .i64 a.1,.fptr (PS a.2.1) 0,.fptr (TZ a.2.2.1) 0,.fptr (Qo a.2.2.2) 0]
def Qi (ds : List D) : Int × OJ × OU × OR:=(uI (ds.getD 0 .top),Se (fpD (ds.getD 1 .top)),Aas (fpD (ds.getD 2 .top)),VK (fpD (ds.getD 3 .top)))
theorem YX (a : Int × OJ × OU × OR) : Qi (Qj a) = a:=by simp [Qi,Qj,uI,fpD]
instance : Pn Qj Qi:=⟨YX⟩
def Zk (b : Int × Bool) : D:=.tup [.int .i64 b.1,.bool b.2]
noncomputable def TW : Dw.Spec:=OQ [] .ground Qj Qi (fun a=>Qg a.1 a.2.1 a.2.2.1 a.2.2.2) Zk noE
theorem YY : OP Tryz.prog 55 TW:=by
 refine fn2 4 (OW (l:=[(56,Vo)]) (by simp [Yh])) Tryz.func55<|?_
 rintro ⟨k1,cap2,cap3,cap4⟩
 unfold Qg
 refine A 11 ?_
 refine bD fun x_x5 hx_x5=>?_
 refine A 9 ?_
 refine bD fun r6 hr6=>?_
 refine A 8 ?_
 refine sC (E:=fun (_s : Unit) (_g : Unit)=>[(0,.int .i64 k1),(2,.fptr (.agg [.sl (cap3.To.map OM),.sl (cap3.Keep.map D.bool)]) 0),(3,.fptr (.agg [.sl (cap4.Out.map (eL OM))]) 0),(8,.int .i64 r6.1)]) (O:=fun _ _=>[]) (j:=fun _=>PD cap4 k1 cap3 r6) ?_ ?_
 ·exact B
 ·rintro ⟨⟩ ⟨⟩ nn
  try dsimp only
  unfold PD
  refine A 6 ?_
  refine bD fun x_x9 hx_x9=>?_
  refine A 7 ?_
  refine lP (E:=fun (s : Int) (_g : Unit)=>[(0,.int .i64 k1),(2,.fptr (.agg [.sl (cap3.To.map OM),.sl (cap3.Keep.map D.bool)]) 0),(8,.int .i64 r6.1),(48,.sl (x_x9.map OM)),(49,.int .i64 (x_x9.length : Int)),(50,.int .i64 s)]) (O:=fun _ _=>[]) (body:=fun s=>Qp x_x9 cap3 k1 r6 s) (s:=0) () ((hE ⟨rfl,r,r,r,r,r,trivial⟩ trivial))<|?_
  rintro x10 ⟨⟩ nn
  try dsimp only
  unfold Qp
  exact B

def Alk : QG:=(.seq (.reg [P 3 (.box (T 0) 3 40),P 4 (.box (T 1) 1 29),P 5 (.box (T 2) 2 33),P 6 (.asg (.c .nilf) none)] false) (.seq (.reg [P 7 (.mkf 55 [(T 3),(T 5),(T 4)]),P 6 (.asg (T 7) none)] false) .ret))
theorem Amu : (Tryz.f29.body.bind (Sz Tryz.prog Tryz.f29.ntmps)) = some Alk:=by kernel_rfl
theorem Amv : Tryz.f29.results.toList.mapM (AaK Tryz.prog) = some [(.t 6)]:=by kernel_rfl

end Go.Proofs.YtpagjjmondojpaaGreatDoor
