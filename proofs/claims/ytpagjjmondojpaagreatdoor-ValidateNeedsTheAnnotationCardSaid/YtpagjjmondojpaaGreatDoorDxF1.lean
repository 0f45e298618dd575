/-
  Programs on typed data, and the proofs that the code does what they say; written by a program (dx.py).
-/
import Derived.Test.YtpagjjmondojpaaGreatDoorProg
import Derived.Test.YtpagjjmondojpaaGreatDoorDd
import Derived.KernelRfl
import Derived.Test.YtpagjjmondojpaaGreatDoorSh
import Derived.Test.YtpagjjmondojpaaGreatDoorDxP
namespace Go.Proofs.YtpagjjmondojpaaGreatDoor
open Go Go.Dw Go.Proofs
set_option maxRecDepth 100000
set_option maxHeartbeats 4000000
open Go.Dw renaming QP → bD,PM → cK,AbK → cV,ZZ → cG,Abl → cD,Zm → hE,AbJ → cP,AcO → lP,Aaa → sC,Aka → mF,rf → r
def PX (a : Int) : List D:=[.int .i64 a]
def PW (ds : List D) : Int:=uI (ds.getD 0 .top)
theorem AcW (a : Int) : PW (PX a) = a:=by simp [PW,PX,uI]
instance : PA PX PW:=⟨AcW⟩
def AdG (b : Bool) : D:=.bool b
noncomputable def Wo : Dw.Spec:=Pe [] .ground PX PW (fun a=>QL a) AdG noE
theorem Zz : Pd Tryz.prog 109 Wo:=by
 refine fn2 1 (Pz) Tryz.func109<|?_
 intro a
 unfold QL
 exact B

def Ry (a : (List Int)) : List D:=[.sl (a.map Pa)]
def Rx (ds : List D) : (List Int):=(uL uI) (ds.getD 0 .top)
theorem AfU (a : (List Int)) : Rx (Ry a) = a:=by simp [Rx,Ry,Qa (u:=uI) (en:=Pa) (fun _=>rfl)]
instance : PA Ry Rx:=⟨AfU⟩
def AgC (b : Bool) : D:=.bool b
noncomputable def Acu : Dw.Spec:=Pe [] .ground Ry Rx (fun a=>WR a) AgC noE
theorem AfV : Pd Tryz.prog 82 Acu:=by
 refine fn2 1 (Pk (l:=[(109,Wo)]) (by simp [Zz])) Tryz.func82<|?_
 intro s1
 unfold WR
 refine A 14 ?_
 refine lP (E:=fun (s : Int) (_g : Unit)=>[(0,.sl (s1.map Pa)),(5,.sl (s1.map Pa)),(6,.int .i64 (s1.length : Int)),(7,.int .i64 s)]) (O:=fun _ _=>[]) (body:=fun s=>Rq s1 s) (s:=0) () ((hE ⟨rfl,r,r,r,trivial⟩ trivial))<|?_
 rintro x2 ⟨⟩ nn
 try dsimp only
 unfold Rq
 exact B

def RR (a : (List Int) × OX) : List D:=[.sl (a.1.map Pa),.fptr (Qe a.2) 0]
def RQ (ds : List D) : (List Int) × OX:=((uL uI) (ds.getD 0 .top),Sn (fpD (ds.getD 1 .top)))
theorem Abu (a : (List Int) × OX) : RQ (RR a) = a:=by simp [RQ,RR,fpD,Qa (u:=uI) (en:=Pa) (fun _=>rfl)]
instance : PA RR RQ:=⟨Abu⟩
def AbL (b : Bool) : D:=.bool b
noncomputable def Yi : Dw.Spec:=Pe [] .ground RR RQ (fun a=>RJ a.1 a.2) AbL noE
theorem Abv : Pd Tryz.prog 81 Yi:=by
 refine fn2 2 (Pk (l:=[(82,Acu)]) (by simp [AfV])) Tryz.func81<|?_
 intro a
 unfold RJ
 exact B

def PU (a : (List (List Int)) × OX) : List D:=[.sl (a.1.map (eL Pa)),.clo 81 [.fptr (Qe a.2) 0]]
def PT (ds : List D) : (List (List Int)) × OX:=((uL (uL uI)) (ds.getD 0 .top),Sn (fpD (Afq (ds.getD 1 .top) 0)))
theorem Ra (a : (List (List Int)) × OX) : PT (PU a) = a:=by simp [PT,PU,fpD,Afq,Qa (u:=(uL uI)) (en:=(eL Pa)) (Qa (u:=uI) (en:=Pa) (fun _=>rfl))]
instance : PA PU PT:=⟨Ra⟩
def Yf (b : Int) : D:=.int .i64 b
noncomputable def Rm : Dw.Spec:=Pe [] .ground PU PT (fun a=>Qd a.1 a.2) Yf noE
theorem Xj : Pd Tryz.prog 110 Rm:=by
 refine fn2 2 (Pk (l:=[(81,Yi)]) (by simp [Abv])) Tryz.func110<|?_
 rintro ⟨s1,f2⟩
 unfold Qd
 refine A 14 ?_
 refine lP (E:=fun (s : Int) (_g : Unit)=>[(0,.sl (s1.map (eL Pa))),(1,.clo 81 [.fptr (.agg [.int .i64 f2.Params,.sl (f2.Slots.map Ph),.sl (f2.Code.map Pg)]) 0]),(7,.int .i64 (s1.length : Int)),(8,.int .i64 s)]) (O:=fun _ _=>[]) (body:=fun s=>Qr s1 f2 s) (s:=0) () ((hE ⟨rfl,r,r,r,trivial⟩ trivial))<|?_
 rintro x3 ⟨⟩ nn
 try dsimp only
 unfold Qr
 exact B

def Wq (b : Bool) : D:=.bool b
noncomputable def QO : Dw.Spec:=Pe [] .ground PU PT (fun a=>Qq a.1 a.2) Wq noE
theorem Wc : Pd Tryz.prog 83 QO:=by
 refine fn2 2 (Pk (l:=[(335982,Rm)]) (by simp [Xj])) Tryz.func83<|?_
 rintro ⟨s1,f2⟩
 unfold Qq
 refine A 9 ?_
 refine bD fun r3 hr3=>cG (s1,f2) rfl rfl (show _ = some Rm from by kernel_rfl) Ra rfl rfl (by simp) r hr3 r<|?_
 exact B

def PF (a : OX × Pf) : List D:=[Qe a.1,QA a.2]
def PE (ds : List D) : OX × Pf:=(Sn (ds.getD 0 .top),VR (ds.getD 1 .top))
theorem AdM (a : OX × Pf) : PE (PF a) = a:=by simp [PE,PF]
instance : PA PF PE:=⟨AdM⟩
def Aef (b : Bool) : D:=.bool b
noncomputable def Xa : Dw.Spec:=Pe [] .ground PF PE (fun a=>Sw a.1 a.2) Aef noE
theorem Aah : Pd Tryz.prog 47 Xa:=by
 refine fn2 2 (Pk (l:=[(335955,QO)]) (by simp [Wc])) Tryz.func47<|?_
 rintro ⟨f1,l2⟩
 unfold Sw
 refine A 6 ?_
 refine TG (E:=[(2,.fptr (.agg [.int .i64 f1.Params,.sl (f1.Slots.map Ph),.sl (f1.Code.map Pg)]) 0),(3,.optr 3 _ 0 0)]) (O:=[(3,some (_,⟨false,true,1,29,[.agg [.sl (l2.Out.map (eL Pa))]]⟩))]) ((Zb (g:=2) r (by first | rfl | (simp [cells,frp,Pu,PI]; done)) (hE ⟨(by first | rfl | (simp [Pm,frp]; done) | (simp [Pm,frp,Pu]; done) | (simp [Pm,frp,Pu,nbq]; done) | (simp [Pm,lkO,frp,Pu,frO]; done) | (simp [Pm,lkO,frp,Pu,frO]; rfl) | (simp [Pm,lkO,frp,Pu,frO,nbq]; done)),(by first | rfl | (simp [Pm,frp]; done) | (simp [Pm,frp,Pu]; done) | (simp [Pm,frp,Pu,nbq]; done) | (simp [Pm,lkO,frp,Pu,frO]; done) | (simp [Pm,lkO,frp,Pu,frO]; rfl) | (simp [Pm,lkO,frp,Pu,frO,nbq]; done)),trivial⟩ ⟨(by first | rfl | (simp [Pm,frp]; done) | (simp [Pm,frp,Pu]; done) | (simp [Pm,frp,Pu,nbq]; done) | (simp [Pm,lkO,frp,Pu,frO]; done) | (simp [Pm,lkO,frp,Pu,frO]; rfl) | (simp [Pm,lkO,frp,Pu,frO,nbq]; done)),trivial⟩))) fun nn=>?_
 refine A 2 ?_
 refine mF (caps:=[.fptr (.agg [.int .i64 f1.Params,.sl (f1.Slots.map Ph),.sl (f1.Code.map Pg)]) 0]) r r (by simp [Aax])<|?_
 refine A 13 ?_
 refine Abi r ?_ ?_
 ·refine A 3 ?_
  refine bD fun r3 hr3=>cG (l2.Out,f1) rfl rfl (show _ = some QO from by kernel_rfl) Ra rfl rfl (by simp) r hr3 r<|?_
  exact B
 ·exact B

def UF (a : Pf) : List D:=[QA a]
def UE (ds : List D) : Pf:=VR (ds.getD 0 .top)
theorem AeV (a : Pf) : UE (UF a) = a:=by simp [UE,UF]
instance : PA UF UE:=⟨AeV⟩
def Afw (b : Pf) : D:=.clo 113 [.fptr (QA b) 0]
noncomputable def Abw : Dw.Spec:=Pe [] .val UF UE (fun a=>Xq a) Afw noE
theorem AeW : Pd Tryz.prog 85 Abw:=by
 refine fn2 1 (Pz) Tryz.func85<|?_
 intro l1
 unfold Xq
 refine A 5 ?_
 refine TG (E:=[(1,.fptr (.agg [.sl (l1.Out.map (eL Pa))]) 0)]) (O:=[]) ((Zb (g:=1) r (by first | rfl | (simp [cells,frp,Pu,PI]; done)) (hE ⟨(by first | rfl | (simp [Pm,frp]; done) | (simp [Pm,frp,Pu]; done) | (simp [Pm,frp,Pu,nbq]; done) | (simp [Pm,lkO,frp,Pu,frO]; done) | (simp [Pm,lkO,frp,Pu,frO]; rfl) | (simp [Pm,lkO,frp,Pu,frO,nbq]; done)),trivial⟩ trivial))) fun nn=>?_
 refine A 2 ?_
 refine mF (caps:=[.fptr (.agg [.sl (l1.Out.map (eL Pa))]) 0]) r r (by simp [Aax])<|?_
 exact B

def AfQ (b : Bool) : D:=.bool b
noncomputable def AbG : Dw.Spec:=Pe [] .ground PX PW (fun a=>Ye a) AfQ noE
theorem AeY : Pd Tryz.prog 132 AbG:=by
 refine fn2 1 (Pz) Tryz.func132<|?_
 intro a
 unfold Ye
 exact B

def VT (a : OX × Int) : List D:=[Qe a.1,.int .i64 a.2]
def VS (ds : List D) : OX × Int:=(Sn (ds.getD 0 .top),uI (ds.getD 1 .top))
theorem AiO (a : OX × Int) : VS (VT a) = a:=by simp [VS,VT,uI]
instance : PA VT VS:=⟨AiO⟩
def AjK (b : (List Int)) : D:=.sl (b.map Pa)
noncomputable def Afd : Dw.Spec:=Pe [] (.row 1 3) VT VS (fun a=>AaJ a.1 a.2) AjK noE
theorem AiP : Pd Tryz.prog 111 Afd:=by
 refine fn2 2 (Pk (l:=[(132,AbG),(133,Zp),(134,Xi)]) (by simp [AeY,Acn,Abg])) Tryz.func111<|?_
 rintro ⟨f1,k2⟩
 unfold AaJ
 refine A 6 ?_
 refine sC (E:=fun (_s : Unit) (g : Nat)=>[(1,.int .i64 k2),(2,.optr 2 g 0 0)]) (O:=fun _ g=>[(2,some (g,⟨false,true,3,40,[.agg [.int .i64 f1.Params,.sl (f1.Slots.map Ph),.sl (f1.Code.map Pg)]]⟩))]) (j:=fun _=>ZD f1 k2) ?_ ?_
 ·exact B
 ·rintro ⟨⟩ v2x1 nn
  try dsimp only
  unfold ZD
  refine A 10 ?_
  refine bD fun x_x3 hx_x3=>?_
  refine A 6 ?_
  refine sC (E:=fun (s : (List Int)) (g : Nat × Nat)=>[(5,.osl 5 g.1 0 s.length),(6,.optr 6 g.2 0 0)]) (O:=fun s g=>[(5,some (g.1,⟨false,false,1,3,s.map Pa⟩)),(6,some (g.2,⟨false,true,5,69,[.agg [.int .i64 x_x3.Op,.int .i64 x_x3.A,.int .i64 x_x3.B,.int .i64 x_x3.C,.int .u64 x_x3.Imm]]⟩))]) (j:=fun s=>WY x_x3 s) ?_ ?_
  ·exact B
  ·rintro l4 ⟨v5x2,v6x2⟩ nn
   try dsimp only
   unfold WY
   exact B

def Sm (a : Int × Pf) : List D:=[.int .i64 a.1,.fptr (QA a.2) 0]
def Sl (ds : List D) : Int × Pf:=(uI (ds.getD 0 .top),VR (fpD (ds.getD 1 .top)))
theorem Acl (a : Int × Pf) : Sl (Sm a) = a:=by simp [Sl,Sm,uI,fpD]
instance : PA Sm Sl:=⟨Acl⟩
def AcE (b : (List Int)) : D:=.sl (b.map Pa)
noncomputable def Zo : Dw.Spec:=Pe [] .val Sm Sl (fun a=>Uc a.1 a.2) AcE noE
theorem Acm : Pd Tryz.prog 113 Zo:=by
 refine fn2 2 (Pz) Tryz.func113<|?_
 intro a
 unfold Uc
 exact B

def Qn (a : OZ) : List D:=[Pg a]
def Qm (ds : List D) : OZ:=AcP (ds.getD 0 .top)
theorem AeS (a : OZ) : Qm (Qn a) = a:=by simp [Qm,Qn]
instance : PA Qn Qm:=⟨AeS⟩
def Afv (b : Int × Bool) : D:=.tup [.int .i64 b.1,.bool b.2]
noncomputable def Vv : Dw.Spec:=Pe [] .ground Qn Qm (fun a=>Su a) Afv noE
theorem Yo : Pd Tryz.prog 56 Vv:=by
 refine fn2 1 (Pz) Tryz.func56<|?_
 intro a
 unfold Su
 exact B

def SH (a : OY × Int × Bool) : List D:=[PC a.1,.int .i64 a.2.1,.bool a.2.2]
def SG (ds : List D) : OY × Int × Bool:=(Rb (ds.getD 0 .top),uI (ds.getD 1 .top),uBo (ds.getD 2 .top))
theorem Acy (a : OY × Int × Bool) : SG (SH a) = a:=by simp [SG,SH,uI,uBo]
instance : PA SH SG:=⟨Acy⟩
def AcV (_b : OY) : D:=.tup []
def AcU (b : OY) : List D:=[PC b]
noncomputable def Vu : Dw.Spec:=Pe [(0,(8,185))] .val SH SG (fun a=>RC a.1 a.2.1 a.2.2) AcV AcU
theorem Zg : Pd Tryz.prog 138 Vu:=by
 refine fn2 3 (Pk (l:=[(109,Wo)]) (by simp [Zz])) Tryz.func138<|?_
 rintro ⟨s1,n2,in3⟩
 unfold RC
 refine A 13 ?_
 refine bD fun r4 hr4=>?_
 refine A 5 ?_
 refine cD r ?_ ?_
 ·exact B
 ·refine A 6 ?_
  refine cD r ?_ ?_
  ·refine A 5 ?_
   refine cK fun hq=>TO r r r hq<|bD fun s_e5 hs_e5=>VQ (q:=s_e5) (l:=s1.toList) (en:=Yn) (j:=(IntKind.i64.wrap (n2.tdiv 64)).toNat) (by simp) r r r hs_e5 r (fun _=>r)<|?_
   refine A 3 ?_
   refine cK fun hq=>TO r r r hq<|bD fun s_o6 hs_o6=>Ace (q:=s_o6) (q':=IntKind.u64.wrap ((BitVec.ofInt IntKind.u64.bits s_e5 ||| BitVec.ofInt IntKind.u64.bits (IntKind.u64.wrap (1 * 2 ^ (Nat.min ((IntKind.u64.wrap (n2)).tmod 64).toNat IntKind.u64.bits)))).toNat)) (l:=s1.toList) (en:=Yn) (j:=(IntKind.i64.wrap (n2.tdiv 64)).toNat) (z':=.agg [.int .u64 ((s1.set ((IntKind.i64.wrap (n2.tdiv 64)).toNat) (IntKind.u64.wrap ((BitVec.ofInt IntKind.u64.bits s_e5 ||| BitVec.ofInt IntKind.u64.bits (IntKind.u64.wrap (1 * 2 ^ (Nat.min ((IntKind.u64.wrap (n2)).tmod 64).toNat IntKind.u64.bits)))).toNat))).a0),.int .u64 ((s1.set ((IntKind.i64.wrap (n2.tdiv 64)).toNat) (IntKind.u64.wrap ((BitVec.ofInt IntKind.u64.bits s_e5 ||| BitVec.ofInt IntKind.u64.bits (IntKind.u64.wrap (1 * 2 ^ (Nat.min ((IntKind.u64.wrap (n2)).tmod 64).toNat IntKind.u64.bits)))).toNat))).a1),.int .u64 ((s1.set ((IntKind.i64.wrap (n2.tdiv 64)).toNat) (IntKind.u64.wrap ((BitVec.ofInt IntKind.u64.bits s_e5 ||| BitVec.ofInt IntKind.u64.bits (IntKind.u64.wrap (1 * 2 ^ (Nat.min ((IntKind.u64.wrap (n2)).tmod 64).toNat IntKind.u64.bits)))).toNat))).a2),.int .u64 ((s1.set ((IntKind.i64.wrap (n2.tdiv 64)).toNat) (IntKind.u64.wrap ((BitVec.ofInt IntKind.u64.bits s_e5 ||| BitVec.ofInt IntKind.u64.bits (IntKind.u64.wrap (1 * 2 ^ (Nat.min ((IntKind.u64.wrap (n2)).tmod 64).toNat IntKind.u64.bits)))).toNat))).a3),.int .u64 ((s1.set ((IntKind.i64.wrap (n2.tdiv 64)).toNat) (IntKind.u64.wrap ((BitVec.ofInt IntKind.u64.bits s_e5 ||| BitVec.ofInt IntKind.u64.bits (IntKind.u64.wrap (1 * 2 ^ (Nat.min ((IntKind.u64.wrap (n2)).tmod 64).toNat IntKind.u64.bits)))).toNat))).a4),.int .u64 ((s1.set ((IntKind.i64.wrap (n2.tdiv 64)).toNat) (IntKind.u64.wrap ((BitVec.ofInt IntKind.u64.bits s_e5 ||| BitVec.ofInt IntKind.u64.bits (IntKind.u64.wrap (1 * 2 ^ (Nat.min ((IntKind.u64.wrap (n2)).tmod 64).toNat IntKind.u64.bits)))).toNat))).a5),.int .u64 ((s1.set ((IntKind.i64.wrap (n2.tdiv 64)).toNat) (IntKind.u64.wrap ((BitVec.ofInt IntKind.u64.bits s_e5 ||| BitVec.ofInt IntKind.u64.bits (IntKind.u64.wrap (1 * 2 ^ (Nat.min ((IntKind.u64.wrap (n2)).tmod 64).toNat IntKind.u64.bits)))).toNat))).a6),.int .u64 ((s1.set ((IntKind.i64.wrap (n2.tdiv 64)).toNat) (IntKind.u64.wrap ((BitVec.ofInt IntKind.u64.bits s_e5 ||| BitVec.ofInt IntKind.u64.bits (IntKind.u64.wrap (1 * 2 ^ (Nat.min ((IntKind.u64.wrap (n2)).tmod 64).toNat IntKind.u64.bits)))).toNat))).a7)]) (by simp) r r r r r hs_o6 r r (congrArg (fun l=>D.agg (l.map Yn)) (Rg s1 ((IntKind.i64.wrap (n2.tdiv 64)).toNat) (IntKind.u64.wrap ((BitVec.ofInt IntKind.u64.bits s_e5 ||| BitVec.ofInt IntKind.u64.bits (IntKind.u64.wrap (1 * 2 ^ (Nat.min ((IntKind.u64.wrap (n2)).tmod 64).toNat IntKind.u64.bits)))).toNat))).symm) r r<|?_
   exact B
  ·refine A 5 ?_
   refine cK fun hq=>TO r r r hq<|bD fun s_e7 hs_e7=>VQ (q:=s_e7) (l:=s1.toList) (en:=Yn) (j:=(IntKind.i64.wrap (n2.tdiv 64)).toNat) (by simp) r r r hs_e7 r (fun _=>r)<|?_
   refine A 3 ?_
   refine cK fun hq=>TO r r r hq<|bD fun s_o8 hs_o8=>Ace (q:=s_o8) (q':=IntKind.u64.wrap ((BitVec.ofInt IntKind.u64.bits s_e7 &&& ~~~ BitVec.ofInt IntKind.u64.bits (IntKind.u64.wrap (1 * 2 ^ (Nat.min ((IntKind.u64.wrap (n2)).tmod 64).toNat IntKind.u64.bits)))).toNat)) (l:=s1.toList) (en:=Yn) (j:=(IntKind.i64.wrap (n2.tdiv 64)).toNat) (z':=.agg [.int .u64 ((s1.set ((IntKind.i64.wrap (n2.tdiv 64)).toNat) (IntKind.u64.wrap ((BitVec.ofInt IntKind.u64.bits s_e7 &&& ~~~ BitVec.ofInt IntKind.u64.bits (IntKind.u64.wrap (1 * 2 ^ (Nat.min ((IntKind.u64.wrap (n2)).tmod 64).toNat IntKind.u64.bits)))).toNat))).a0),.int .u64 ((s1.set ((IntKind.i64.wrap (n2.tdiv 64)).toNat) (IntKind.u64.wrap ((BitVec.ofInt IntKind.u64.bits s_e7 &&& ~~~ BitVec.ofInt IntKind.u64.bits (IntKind.u64.wrap (1 * 2 ^ (Nat.min ((IntKind.u64.wrap (n2)).tmod 64).toNat IntKind.u64.bits)))).toNat))).a1),.int .u64 ((s1.set ((IntKind.i64.wrap (n2.tdiv 64)).toNat) (IntKind.u64.wrap ((BitVec.ofInt IntKind.u64.bits s_e7 &&& ~~~ BitVec.ofInt IntKind.u64.bits (IntKind.u64.wrap (1 * 2 ^ (Nat.min ((IntKind.u64.wrap (n2)).tmod 64).toNat IntKind.u64.bits)))).toNat))).a2),.int .u64 ((s1.set ((IntKind.i64.wrap (n2.tdiv 64)).toNat) (IntKind.u64.wrap ((BitVec.ofInt IntKind.u64.bits s_e7 &&& ~~~ BitVec.ofInt IntKind.u64.bits (IntKind.u64.wrap (1 * 2 ^ (Nat.min ((IntKind.u64.wrap (n2)).tmod 64).toNat IntKind.u64.bits)))).toNat))).a3),.int .u64 ((s1.set ((IntKind.i64.wrap (n2.tdiv 64)).toNat) (IntKind.u64.wrap ((BitVec.ofInt IntKind.u64.bits s_e7 &&& ~~~ BitVec.ofInt IntKind.u64.bits (IntKind.u64.wrap (1 * 2 ^ (Nat.min ((IntKind.u64.wrap (n2)).tmod 64).toNat IntKind.u64.bits)))).toNat))).a4),.int .u64 ((s1.set ((IntKind.i64.wrap (n2.tdiv 64)).toNat) (IntKind.u64.wrap ((BitVec.ofInt IntKind.u64.bits s_e7 &&& ~~~ BitVec.ofInt IntKind.u64.bits (IntKind.u64.wrap (1 * 2 ^ (Nat.min ((IntKind.u64.wrap (n2)).tmod 64).toNat IntKind.u64.bits)))).toNat))).a5),.int .u64 ((s1.set ((IntKind.i64.wrap (n2.tdiv 64)).toNat) (IntKind.u64.wrap ((BitVec.ofInt IntKind.u64.bits s_e7 &&& ~~~ BitVec.ofInt IntKind.u64.bits (IntKind.u64.wrap (1 * 2 ^ (Nat.min ((IntKind.u64.wrap (n2)).tmod 64).toNat IntKind.u64.bits)))).toNat))).a6),.int .u64 ((s1.set ((IntKind.i64.wrap (n2.tdiv 64)).toNat) (IntKind.u64.wrap ((BitVec.ofInt IntKind.u64.bits s_e7 &&& ~~~ BitVec.ofInt IntKind.u64.bits (IntKind.u64.wrap (1 * 2 ^ (Nat.min ((IntKind.u64.wrap (n2)).tmod 64).toNat IntKind.u64.bits)))).toNat))).a7)]) (by simp) r r r r r hs_o8 r r (congrArg (fun l=>D.agg (l.map Yn)) (Rg s1 ((IntKind.i64.wrap (n2.tdiv 64)).toNat) (IntKind.u64.wrap ((BitVec.ofInt IntKind.u64.bits s_e7 &&& ~~~ BitVec.ofInt IntKind.u64.bits (IntKind.u64.wrap (1 * 2 ^ (Nat.min ((IntKind.u64.wrap (n2)).tmod 64).toNat IntKind.u64.bits)))).toNat))).symm) r r<|?_
   exact B

def AfZ (b : OY) : D:=PC b
noncomputable def Up : Dw.Spec:=Pe [] (.ptr 8 185) Ry Rx (fun a=>Rc a) AfZ noE
theorem Vt : Pd Tryz.prog 114 Up:=by
 refine fn2 1 (Pk (l:=[(138,Vu)]) (by simp [Zg])) Tryz.func114<|?_
 intro l1
 unfold Rc
 refine A 21 ?_
 refine lP (E:=fun (s : OY × Int) (g : Nat)=>[(3,.optr 7 g 0 0),(8,.sl (l1.map Pa)),(9,.int .i64 (l1.length : Int)),(10,.int .i64 s.2)]) (O:=fun s g=>[(7,some (g,⟨false,true,8,185,[.agg [.int .u64 s.1.a0,.int .u64 s.1.a1,.int .u64 s.1.a2,.int .u64 s.1.a3,.int .u64 s.1.a4,.int .u64 s.1.a5,.int .u64 s.1.a6,.int .u64 s.1.a7]]⟩))]) (body:=fun s=>Vs l1 s.1 s.2) (s:=((OY.mk 0 0 0 0 0 0 0 0),0)) _ ((hE ⟨rfl,r,r,r,trivial⟩ ⟨rfl,trivial⟩))<|?_
 rintro ⟨x2,x3⟩ v7x1 nn
 try dsimp only
 unfold Vs
 exact B

def Si (a : OY) : List D:=[PC a]
def Sh (ds : List D) : OY:=Rb (ds.getD 0 .top)
theorem Acg (a : OY) : Sh (Si a) = a:=by simp [Sh,Si]
instance : PA Si Sh:=⟨Acg⟩
def Acx (b : (List Int) × OY) : D:=.sl (b.1.map Pa)
def Acw (b : (List Int) × OY) : List D:=[PC b.2]
noncomputable def RB : Dw.Spec:=Pe [(0,(8,185))] (.row 1 3) Si Sh (fun a=>Qt a) Acx Acw
theorem SF : Pd Tryz.prog 117 RB:=by
 refine fn2 1 (Pk (l:=[(139,Ajx)]) (by simp [Amj])) Tryz.func117<|?_
 intro s1
 unfold Qt
 refine A 18 ?_
 refine lP (E:=fun (s : (List Int) × Int) (g : Nat)=>[(3,.osl 3 g 0 s.1.length),(6,.optr 8192 0 0 0),(7,.int .i64 s.2)]) (O:=fun s g=>[(3,some (g,⟨false,false,1,3,s.1.map Pa⟩)),(8192,some (0,⟨false,true,8,185,[.agg [.int .u64 s1.a0,.int .u64 s1.a1,.int .u64 s1.a2,.int .u64 s1.a3,.int .u64 s1.a4,.int .u64 s1.a5,.int .u64 s1.a6,.int .u64 s1.a7]]⟩))]) (body:=fun s=>SD s1 s.1 s.2) (s:=(([] : List Int),0)) _ ((hE ⟨rfl,r,r,trivial⟩ ⟨rfl,r,trivial⟩))<|?_
 rintro ⟨l2,x3⟩ v3x1 nn
 try dsimp only
 unfold SD
 refine A 6 ?_
 refine cD r ?_ ?_
 ·refine A 8 ?_
  refine cK fun hq=>TO r r r hq<|bD fun s_e4 hs_e4=>VQ (q:=s_e4) (l:=s1.toList) (en:=Yn) (j:=x3.toNat) (by simp) r r r hs_e4 r (fun _=>r)<|?_
  refine A 5 ?_
  refine lP (E:=fun (s : (List Int) × Int) (g : Nat)=>[(3,.osl 3 g 0 s.1.length),(4,.int .i64 x3),(5,.int .u64 s.2),(6,.optr 8192 0 0 0),(7,.int .i64 x3)]) (O:=fun s g=>[(3,some (g,⟨false,false,1,3,s.1.map Pa⟩)),(8192,some (0,⟨false,true,8,185,[.agg [.int .u64 s1.a0,.int .u64 s1.a1,.int .u64 s1.a2,.int .u64 s1.a3,.int .u64 s1.a4,.int .u64 s1.a5,.int .u64 s1.a6,.int .u64 s1.a7]]⟩))]) (body:=fun s=>SE x3 s.1 s.2) (s:=(l2,s_e4)) _ ((hE ⟨rfl,r,r,r,r,trivial⟩ ⟨rfl,r,trivial⟩))<|?_
  rintro ⟨l5,x6⟩ v3x2 nn
  try dsimp only
  unfold SE
  exact B
 ·exact B

def QK (a : (List Int) × Int) : List D:=[.sl (a.1.map Pa),.int .i64 a.2]
def QJ (ds : List D) : (List Int) × Int:=((uL uI) (ds.getD 0 .top),uI (ds.getD 1 .top))
theorem Afn (a : (List Int) × Int) : QJ (QK a) = a:=by simp [QJ,QK,uI,Qa (u:=uI) (en:=Pa) (fun _=>rfl)]
instance : PA QK QJ:=⟨Afn⟩
def AfX (b : (List Int)) : D:=.sl (b.map Pa)
noncomputable def AbO : Dw.Spec:=Pe [] .val QK QJ (fun a=>Uf a.1 a.2) AfX noE
theorem Afo : Pd Tryz.prog 135 AbO:=by
 refine fn2 2 (Pk (l:=[(114,Up),(138,Vu),(117,RB)]) (by simp [Vt,Zg,SF])) Tryz.func135<|?_
 intro a
 unfold Uf
 exact B

def AhF (b : (List Int)) : D:=.sl (b.map Pa)
noncomputable def Adl : Dw.Spec:=Pe [] (.row 1 3) Qn Qm (fun a=>Wd a) AhF noE
theorem AgG : Pd Tryz.prog 137 Adl:=by
 refine fn2 1 (Pz) Tryz.func137<|?_
 intro a
 unfold Wd
 exact B

def AjC (b : (List Int)) : D:=.sl (b.map Pa)
noncomputable def AeZ : Dw.Spec:=Pe [] (.row 1 3) Ry Rx (fun a=>WS a) AjC noE
theorem AiD : Pd Tryz.prog 136 AeZ:=by
 refine fn2 1 (Pk (l:=[(114,Up),(117,RB)]) (by simp [Vt,SF])) Tryz.func136<|?_
 intro a
 unfold WS
 exact B

def SS (a : Int × Int) : List D:=[.int .u64 a.1,.int .u64 a.2]
def SR (ds : List D) : Int × Int:=(uI (ds.getD 0 .top),uI (ds.getD 1 .top))
theorem AeB (a : Int × Int) : SR (SS a) = a:=by simp [SR,SS,uI]
instance : PA SS SR:=⟨AeB⟩
def Afp (b : Int) : D:=.int .u64 b
noncomputable def Abq : Dw.Spec:=Pe [] .ground SS SR (fun a=>Vg a.1 a.2) Afp noE
theorem AeC : Pd Tryz.prog 116 Abq:=by
 refine fn2 2 (Pz) Tryz.func116<|?_
 intro a
 unfold Vg
 exact B

def QG (a : OY × OY) : List D:=[PC a.1,PC a.2,.clo 116 []]
def QF (ds : List D) : OY × OY:=(Rb (ds.getD 0 .top),Rb (ds.getD 1 .top))
theorem Ur (a : OY × OY) : QF (QG a) = a:=by simp [QF,QG]
instance : PA QG QF:=⟨Ur⟩
def Aae (b : OY × OY × OY) : D:=PC b.1
def Aad (b : OY × OY × OY) : List D:=[PC b.2.1,PC b.2.2]
noncomputable def Sg : Dw.Spec:=Pe [(0,(8,185)),(1,(8,185))] (.ptr 8 185) QG QF (fun a=>Qx a.1 a.2) Aae Aad
theorem Zy : Pd Tryz.prog 115 Sg:=by
 refine fn2 3 (Pk (l:=[(116,Abq)]) (by simp [AeC])) Tryz.func115<|?_
 rintro ⟨s1,t2⟩
 unfold Qx
 refine A 19 ?_
 refine lP (E:=fun (s : OY × Int) (g : Nat)=>[(0,.optr 8192 0 0 0),(1,.optr 8193 1 0 0),(2,.clo 116 []),(7,.optr 10 g 0 0),(11,.int .i64 s.2)]) (O:=fun s g=>[(10,some (g,⟨false,true,8,185,[.agg [.int .u64 s.1.a0,.int .u64 s.1.a1,.int .u64 s.1.a2,.int .u64 s.1.a3,.int .u64 s.1.a4,.int .u64 s.1.a5,.int .u64 s.1.a6,.int .u64 s.1.a7]]⟩)),(8192,some (0,⟨false,true,8,185,[.agg [.int .u64 s1.a0,.int .u64 s1.a1,.int .u64 s1.a2,.int .u64 s1.a3,.int .u64 s1.a4,.int .u64 s1.a5,.int .u64 s1.a6,.int .u64 s1.a7]]⟩)),(8193,some (1,⟨false,true,8,185,[.agg [.int .u64 t2.a0,.int .u64 t2.a1,.int .u64 t2.a2,.int .u64 t2.a3,.int .u64 t2.a4,.int .u64 t2.a5,.int .u64 t2.a6,.int .u64 t2.a7]]⟩))]) (body:=fun s=>Qk s1 t2 s.1 s.2) (s:=((OY.mk 0 0 0 0 0 0 0 0),0)) _ ((hE ⟨rfl,r,r,r,r,trivial⟩ ⟨rfl,r,r,trivial⟩))<|?_
 rintro ⟨x3,x4⟩ v10x1 nn
 try dsimp only
 unfold Qk
 refine A 6 ?_
 refine cD r ?_ ?_
 ·refine A 17 ?_
  refine cK fun hq=>TO r r r hq<|bD fun s_e5 hs_e5=>VQ (q:=s_e5) (l:=s1.toList) (en:=Yn) (j:=x4.toNat) (by simp) r r r hs_e5 r (fun _=>r)<|?_
  refine A 3 ?_
  refine cK fun hq=>TO r r r hq<|bD fun t_e6 ht_e6=>VQ (q:=t_e6) (l:=t2.toList) (en:=Yn) (j:=x4.toNat) (by simp) r r r ht_e6 r (fun _=>r)<|bD fun r7 hr7=>?_
  refine A 2 ?_
  refine cK fun hq=>TO r r r hq<|bD fun x_o8 hx_o8=>Agy (q:=x_o8) (q':=r7) (l:=x3.toList) (en:=Yn) (j:=x4.toNat) (z':=.agg [.int .u64 ((x3.set x4.toNat r7).a0),.int .u64 ((x3.set x4.toNat r7).a1),.int .u64 ((x3.set x4.toNat r7).a2),.int .u64 ((x3.set x4.toNat r7).a3),.int .u64 ((x3.set x4.toNat r7).a4),.int .u64 ((x3.set x4.toNat r7).a5),.int .u64 ((x3.set x4.toNat r7).a6),.int .u64 ((x3.set x4.toNat r7).a7)]) (by simp) r r r r r hx_o8 r r (congrArg (fun l=>D.agg (l.map Yn)) (Rg x3 x4.toNat r7).symm)<|?_
  exact B
 ·exact B

def QV (a : (List Int) × (List Int)) : List D:=[.sl (a.1.map Pa),.sl (a.2.map Pa)]
def QU (ds : List D) : (List Int) × (List Int):=((uL uI) (ds.getD 0 .top),(uL uI) (ds.getD 1 .top))
theorem AfY (a : (List Int) × (List Int)) : QU (QV a) = a:=by simp [QU,QV,Qa (u:=uI) (en:=Pa) (fun _=>rfl)]
instance : PA QV QU:=⟨AfY⟩
def AgE (b : (List Int)) : D:=.sl (b.map Pa)
noncomputable def Aak : Dw.Spec:=Pe [] .val QV QU (fun a=>SQ a.1 a.2) AgE noE
theorem AbP : Pd Tryz.prog 87 Aak:=by
 refine fn2 2 (Pk (l:=[(114,Up),(479347,Sg),(117,RB)]) (by simp [Vt,Zy,SF])) Tryz.func87<|?_
 rintro ⟨a1,b2⟩
 unfold SQ
 refine A 8 ?_
 refine bD fun r3 hr3=>?_
 refine A 2 ?_
 refine bD fun r4 hr4=>?_
 refine A 1 ?_
 refine bD fun r5 hr5=>cP (r3,r4) rfl rfl (show _ = some Sg from by kernel_rfl) Ur rfl rfl (by simp) r hr5<|?_
 exact B

def Ui (a : OZ × (List Int)) : List D:=[Pg a.1,.sl (a.2.map Pa)]
def Uh (ds : List D) : OZ × (List Int):=(AcP (ds.getD 0 .top),(uL uI) (ds.getD 1 .top))
theorem AiM (a : OZ × (List Int)) : Uh (Ui a) = a:=by simp [Uh,Ui,Qa (u:=uI) (en:=Pa) (fun _=>rfl)]
instance : PA Ui Uh:=⟨AiM⟩
def AjJ (b : (List Int)) : D:=.sl (b.map Pa)
noncomputable def Afc : Dw.Spec:=Pe [] .val Ui Uh (fun a=>AaH a.1 a.2) AjJ noE
theorem AiN : Pd Tryz.prog 112 Afc:=by
 refine fn2 2 (Pk (l:=[(56,Vv),(135,AbO),(137,Adl),(136,AeZ),(87,Aak)]) (by simp [Yo,Afo,AgG,AiD,AbP])) Tryz.func112<|?_
 intro a
 unfold AaH
 exact B

def Afm (b : Int) : D:=.int .u64 b
noncomputable def Abp : Dw.Spec:=Pe [] .ground SS SR (fun a=>Vf a.1 a.2) Afm noE
theorem AeA : Pd Tryz.prog 118 Abp:=by
 refine fn2 2 (Pz) Tryz.func118<|?_
 intro a
 unfold Vf
 exact B

def QE (a : OY × OY) : List D:=[PC a.1,PC a.2,.clo 118 []]
def QD (ds : List D) : OY × OY:=(Rb (ds.getD 0 .top),Rb (ds.getD 1 .top))
theorem Uq (a : OY × OY) : QD (QE a) = a:=by simp [QD,QE]
instance : PA QE QD:=⟨Uq⟩
def Aac (b : OY × OY × OY) : D:=PC b.1
def Aab (b : OY × OY × OY) : List D:=[PC b.2.1,PC b.2.2]
noncomputable def Sf : Dw.Spec:=Pe [(0,(8,185)),(1,(8,185))] (.ptr 8 185) QE QD (fun a=>Qw a.1 a.2) Aac Aab
theorem Zx : Pd Tryz.prog 115 Sf:=by
 refine fn2 3 (Pk (l:=[(118,Abp)]) (by simp [AeA])) Tryz.func115<|?_
 rintro ⟨s1,t2⟩
 unfold Qw
 refine A 19 ?_
 refine lP (E:=fun (s : OY × Int) (g : Nat)=>[(0,.optr 8192 0 0 0),(1,.optr 8193 1 0 0),(2,.clo 118 []),(7,.optr 10 g 0 0),(11,.int .i64 s.2)]) (O:=fun s g=>[(10,some (g,⟨false,true,8,185,[.agg [.int .u64 s.1.a0,.int .u64 s.1.a1,.int .u64 s.1.a2,.int .u64 s.1.a3,.int .u64 s.1.a4,.int .u64 s.1.a5,.int .u64 s.1.a6,.int .u64 s.1.a7]]⟩)),(8192,some (0,⟨false,true,8,185,[.agg [.int .u64 s1.a0,.int .u64 s1.a1,.int .u64 s1.a2,.int .u64 s1.a3,.int .u64 s1.a4,.int .u64 s1.a5,.int .u64 s1.a6,.int .u64 s1.a7]]⟩)),(8193,some (1,⟨false,true,8,185,[.agg [.int .u64 t2.a0,.int .u64 t2.a1,.int .u64 t2.a2,.int .u64 t2.a3,.int .u64 t2.a4,.int .u64 t2.a5,.int .u64 t2.a6,.int .u64 t2.a7]]⟩))]) (body:=fun s=>Qj s1 t2 s.1 s.2) (s:=((OY.mk 0 0 0 0 0 0 0 0),0)) _ ((hE ⟨rfl,r,r,r,r,trivial⟩ ⟨rfl,r,r,trivial⟩))<|?_
 rintro ⟨x3,x4⟩ v10x1 nn
 try dsimp only
 unfold Qj
 refine A 6 ?_
 refine cD r ?_ ?_
 ·refine A 17 ?_
  refine cK fun hq=>TO r r r hq<|bD fun s_e5 hs_e5=>VQ (q:=s_e5) (l:=s1.toList) (en:=Yn) (j:=x4.toNat) (by simp) r r r hs_e5 r (fun _=>r)<|?_
  refine A 3 ?_
  refine cK fun hq=>TO r r r hq<|bD fun t_e6 ht_e6=>VQ (q:=t_e6) (l:=t2.toList) (en:=Yn) (j:=x4.toNat) (by simp) r r r ht_e6 r (fun _=>r)<|bD fun r7 hr7=>?_
  refine A 2 ?_
  refine cK fun hq=>TO r r r hq<|bD fun x_o8 hx_o8=>Agy (q:=x_o8) (q':=r7) (l:=x3.toList) (en:=Yn) (j:=x4.toNat) (z':=.agg [.int .u64 ((x3.set x4.toNat r7).a0),.int .u64 ((x3.set x4.toNat r7).a1),.int .u64 ((x3.set x4.toNat r7).a2),.int .u64 ((x3.set x4.toNat r7).a3),.int .u64 ((x3.set x4.toNat r7).a4),.int .u64 ((x3.set x4.toNat r7).a5),.int .u64 ((x3.set x4.toNat r7).a6),.int .u64 ((x3.set x4.toNat r7).a7)]) (by simp) r r r r r hx_o8 r r (congrArg (fun l=>D.agg (l.map Yn)) (Rg x3 x4.toNat r7).symm)<|?_
  exact B
 ·exact B

def AgD (b : (List Int)) : D:=.sl (b.map Pa)
noncomputable def Acv : Dw.Spec:=Pe [] .val QV QU (fun a=>Ve a.1 a.2) AgD noE
theorem AfW : Pd Tryz.prog 88 Acv:=by
 refine fn2 2 (Pk (l:=[(114,Up),(487539,Sf),(117,RB)]) (by simp [Vt,Zx,SF])) Tryz.func88<|?_
 rintro ⟨a1,b2⟩
 unfold Ve
 refine A 8 ?_
 refine bD fun r3 hr3=>?_
 refine A 2 ?_
 refine bD fun r4 hr4=>?_
 refine A 1 ?_
 refine bD fun r5 hr5=>cP (r3,r4) rfl rfl (show _ = some Sf from by kernel_rfl) Uq rfl rfl (by simp) r hr5<|?_
 exact B

def QT (a : (List Int) × (List Int) × Pf × Int) : List D:=[.sl (a.1.map Pa),.sl (a.2.1.map Pa),.fptr (QA a.2.2.1) 0,.fptr (.int .i64 a.2.2.2) 0]
def QS (ds : List D) : (List Int) × (List Int) × Pf × Int:=((uL uI) (ds.getD 0 .top),(uL uI) (ds.getD 1 .top),VR (fpD (ds.getD 2 .top)),uI (fpD (ds.getD 3 .top)))
theorem Aan (a : (List Int) × (List Int) × Pf × Int) : QS (QT a) = a:=by simp [QS,QT,uI,fpD,Qa (u:=uI) (en:=Pa) (fun _=>rfl)]
instance : PA QT QS:=⟨Aan⟩
def AaM (b : Bool × (List Int)) : D:=.bool b.1
def AaL (b : Bool × (List Int)) : List D:=[.sl (b.2.map Pa)]
noncomputable def Vr : Dw.Spec:=Pe [(1,(1,30))] .val QT QS (fun a=>RP a.1 a.2.1 a.2.2.1 a.2.2.2) AaM AaL
theorem Aao : Pd Tryz.prog 86 Vr:=by
 refine fn2 4 (Pk (l:=[(88,Acv),(87,Aak)]) (by simp [AfW,AbP])) Tryz.func86<|?_
 rintro ⟨need1,cap2,cap3,cap4⟩
 unfold RP
 refine A 12 ?_
 refine bD fun x_x5 hx_x5=>?_
 refine A 2 ?_
 refine bD fun r6 hr6=>?_
 refine A 1 ?_
 refine bD fun r7 hr7=>?_
 refine A 1 ?_
 refine Wn (i:=0) (es':=[.sl (r7.map Pa)]) r r r r r r r (by first | trivial | (simp; done) | (simp; omega)) r r r r r r<|?_
 exact B

def PS (a : OX × Int × Pf × (List Int) × Pf × Int) : List D:=[Qe a.1,.int .i64 a.2.1,.clo 113 [.fptr (QA a.2.2.1) 0],.clo 86 [.sl (a.2.2.2.1.map Pa),.fptr (QA a.2.2.2.2.1) 0,.fptr (.int .i64 a.2.2.2.2.2) 0]]
def Qi (ds : List D) : OX × Int × Pf × (List Int) × Pf × Int:=(Sn (ds.getD 0 .top),uI (ds.getD 1 .top),VR (fpD (Afq (ds.getD 2 .top) 0)),(uL uI) (Afq (ds.getD 3 .top) 0),VR (fpD (Afq (ds.getD 3 .top) 1)),uI (fpD (Afq (ds.getD 3 .top) 2)))
theorem SX (a : OX × Int × Pf × (List Int) × Pf × Int) : Qi (PS a) = a:=by simp [Qi,PS,uI,fpD,Afq,Qa (u:=uI) (en:=Pa) (fun _=>rfl)]
instance : PA PS Qi:=⟨SX⟩
def Xp (b : Bool × (List Int)) : D:=.bool b.1
def Xo (b : Bool × (List Int)) : List D:=[.sl (b.2.map Pa)]
noncomputable def Rk : Dw.Spec:=Pe [(256,(1,30))] .val PS Qi (fun a=>Qc a.1 a.2.1 a.2.2.1 a.2.2.2.1 a.2.2.2.2.1 a.2.2.2.2.2) Xp Xo
theorem WZ : Pd Tryz.prog 84 Rk:=by
 refine fn2 4 (Pk (l:=[(111,Afd),(113,Zo),(112,Afc),(86,Vr)]) (by simp [AiP,Acm,AiN,Aao])) Tryz.func84<|?_
 rintro ⟨f1,k2,set3,visit4,visit5,visit6⟩
 unfold Qc
 refine A 11 ?_
 refine bD fun r7 hr7=>?_
 refine A 6 ?_
 refine lP (E:=fun (s : (List Int) × Int) (g : Nat × Nat)=>[(2,.clo 113 [.fptr (.agg [.sl (set3.Out.map (eL Pa))]) 0]),(3,.clo 86 [.optr 8448 256 0 0,.fptr (.agg [.sl (visit5.Out.map (eL Pa))]) 0,.fptr (.int .i64 visit6) 0]),(4,.optr 4 g.1 0 0),(13,.osl 13 g.2 0 r7.length),(14,.int .i64 (r7.length : Int)),(15,.int .i64 s.2)]) (O:=fun s g=>[(4,some (g.1,⟨false,true,3,40,[.agg [.int .i64 f1.Params,.sl (f1.Slots.map Ph),.sl (f1.Code.map Pg)]]⟩)),(13,some (g.2,⟨false,false,1,3,r7.map Pa⟩)),(8448,some (256,⟨false,true,1,30,[.sl (s.1.map Pa)]⟩))]) (body:=fun s=>PH r7 f1 set3 visit5 visit6 s.1 s.2) (s:=(visit4,0)) (_,_) ((hE ⟨rfl,r,r,r,r,r,trivial⟩ ⟨rfl,r,r,trivial⟩))<|?_
 rintro ⟨x8,x9⟩ ⟨v4x1,v13x1⟩ nn
 try dsimp only
 unfold PH
 exact B

def AeU (b : Int × Int × Bool) : D:=.tup [.int .i64 b.1,.int .i64 b.2.1,.bool b.2.2]
noncomputable def Aba : Dw.Spec:=Pe [] .ground PF PE (fun a=>UC a.1 a.2) AeU noE
theorem Aee : Pd Tryz.prog 48 Aba:=by
 refine fn2 2 (Pk (l:=[(47,Xa),(85,Abw),(1460084820,Rk)]) (by simp [Aah,AeW,WZ])) Tryz.func48<|?_
 rintro ⟨f1,l2⟩
 unfold UC
 refine A 8 ?_
 refine TG (E:=[(2,.optr 2 _ 0 0),(3,.fptr (.agg [.sl (l2.Out.map (eL Pa))]) 0)]) (O:=[(2,some (_,⟨false,true,3,40,[.agg [.int .i64 f1.Params,.sl (f1.Slots.map Ph),.sl (f1.Code.map Pg)]]⟩))]) ((Zb (g:=3) r (by first | rfl | (simp [cells,frp,Pu,PI]; done)) (hE ⟨(by first | rfl | (simp [Pm,frp]; done) | (simp [Pm,frp,Pu]; done) | (simp [Pm,frp,Pu,nbq]; done) | (simp [Pm,lkO,frp,Pu,frO]; done) | (simp [Pm,lkO,frp,Pu,frO]; rfl) | (simp [Pm,lkO,frp,Pu,frO,nbq]; done)),(by first | rfl | (simp [Pm,frp]; done) | (simp [Pm,frp,Pu]; done) | (simp [Pm,frp,Pu,nbq]; done) | (simp [Pm,lkO,frp,Pu,frO]; done) | (simp [Pm,lkO,frp,Pu,frO]; rfl) | (simp [Pm,lkO,frp,Pu,frO,nbq]; done)),trivial⟩ ⟨(by first | rfl | (simp [Pm,frp]; done) | (simp [Pm,frp,Pu]; done) | (simp [Pm,frp,Pu,nbq]; done) | (simp [Pm,lkO,frp,Pu,frO]; done) | (simp [Pm,lkO,frp,Pu,frO]; rfl) | (simp [Pm,lkO,frp,Pu,frO,nbq]; done)),trivial⟩))) fun nn=>?_
 refine A 5 ?_
 refine bD fun r3 hr3=>?_
 refine A 4 ?_
 refine cD r ?_ ?_
 ·exact B
 ·refine A 12 ?_
  refine lP (E:=fun (s : Int) (g : Nat)=>[(2,.optr 2 g 0 0),(3,.fptr (.agg [.sl (l2.Out.map (eL Pa))]) 0),(15,.int .i64 (f1.Code.length : Int)),(16,.int .i64 s)]) (O:=fun _ g=>[(2,some (g,⟨false,true,3,40,[.agg [.int .i64 f1.Params,.sl (f1.Slots.map Ph),.sl (f1.Code.map Pg)]]⟩))]) (body:=fun s=>UD f1 l2 s) (s:=0) _ ((hE ⟨rfl,r,r,r,trivial⟩ ⟨rfl,trivial⟩))<|?_
  rintro x4 v2x1 nn
  try dsimp only
  unfold UD
  refine A 6 ?_
  refine cD r ?_ ?_
  ·refine A 10 ?_
   refine TG (E:=[(2,.optr 2 _ 0 0),(3,.fptr (.agg [.sl (l2.Out.map (eL Pa))]) 0),(7,.fptr (.int .i64 x4) 0),(15,.int .i64 (f1.Code.length : Int)),(16,.int .i64 x4)]) (O:=[(2,some (_,⟨false,true,3,40,[.agg [.int .i64 f1.Params,.sl (f1.Slots.map Ph),.sl (f1.Code.map Pg)]]⟩))]) ((Zb (g:=7) r (by first | rfl | (simp [cells,frp,Pu,PI]; done)) (hE ⟨(by first | rfl | (simp [Pm,frp]; done) | (simp [Pm,frp,Pu]; done) | (simp [Pm,frp,Pu,nbq]; done) | (simp [Pm,lkO,frp,Pu,frO]; done) | (simp [Pm,lkO,frp,Pu,frO]; rfl) | (simp [Pm,lkO,frp,Pu,frO,nbq]; done)),(by first | rfl | (simp [Pm,frp]; done) | (simp [Pm,frp,Pu]; done) | (simp [Pm,frp,Pu,nbq]; done) | (simp [Pm,lkO,frp,Pu,frO]; done) | (simp [Pm,lkO,frp,Pu,frO]; rfl) | (simp [Pm,lkO,frp,Pu,frO,nbq]; done)),(by first | rfl | (simp [Pm,frp]; done) | (simp [Pm,frp,Pu]; done) | (simp [Pm,frp,Pu,nbq]; done) | (simp [Pm,lkO,frp,Pu,frO]; done) | (simp [Pm,lkO,frp,Pu,frO]; rfl) | (simp [Pm,lkO,frp,Pu,frO,nbq]; done)),(by first | rfl | (simp [Pm,frp]; done) | (simp [Pm,frp,Pu]; done) | (simp [Pm,frp,Pu,nbq]; done) | (simp [Pm,lkO,frp,Pu,frO]; done) | (simp [Pm,lkO,frp,Pu,frO]; rfl) | (simp [Pm,lkO,frp,Pu,frO,nbq]; done)),(by first | rfl | (simp [Pm,frp]; done) | (simp [Pm,frp,Pu]; done) | (simp [Pm,frp,Pu,nbq]; done) | (simp [Pm,lkO,frp,Pu,frO]; done) | (simp [Pm,lkO,frp,Pu,frO]; rfl) | (simp [Pm,lkO,frp,Pu,frO,nbq]; done)),trivial⟩ ⟨(by first | rfl | (simp [Pm,frp]; done) | (simp [Pm,frp,Pu]; done) | (simp [Pm,frp,Pu,nbq]; done) | (simp [Pm,lkO,frp,Pu,frO]; done) | (simp [Pm,lkO,frp,Pu,frO]; rfl) | (simp [Pm,lkO,frp,Pu,frO,nbq]; done)),trivial⟩))) fun nn=>?_
   refine A 10 ?_
   refine bD fun r5 hr5=>?_
   refine A 1 ?_
   refine mF (caps:=[.optr 8 _ 0 0,.fptr (.agg [.sl (l2.Out.map (eL Pa))]) 0,.fptr (.int .i64 x4) 0]) r r (by simp [Aax])<|bD fun r6 hr6=>cV (f1,x4,r5,[],l2,x4) rfl rfl (show _ = some Rk from by kernel_rfl) SX rfl rfl (by simp) (by first | rfl | (simp only [OV]; rfl) | (simp only [OW]; rfl) | (simp only [OV,OW]; rfl) | simp [PS,Qe,QA,QA]) hr6<|?_
   exact B
  ·exact B

def AeT (b : Int) : D:=.int .i64 b
noncomputable def Yr : Dw.Spec:=Pe [] .ground PF PE (fun a=>Th a.1 a.2) AeT noE
theorem AaK : Pd Tryz.prog 25 Yr:=by
 refine fn2 2 (Pk (l:=[(47,Xa),(48,Aba)]) (by simp [Aah,Aee])) Tryz.func25<|?_
 intro a
 unfold Th
 exact B

def SV (a : OX × (List Int)) : List D:=[Qe a.1,.sl (a.2.map Pa)]
def SU (ds : List D) : OX × (List Int):=(Sn (ds.getD 0 .top),(uL uI) (ds.getD 1 .top))
theorem AeD (a : OX × (List Int)) : SU (SV a) = a:=by simp [SU,SV,Qa (u:=uI) (en:=Pa) (fun _=>rfl)]
instance : PA SV SU:=⟨AeD⟩
def Afr (b : Bool) : D:=.bool b
noncomputable def Abr : Dw.Spec:=Pe [] .ground SV SU (fun a=>Vh a.1 a.2) Afr noE
theorem AeE : Pd Tryz.prog 49 Abr:=by
 refine fn2 2 (Pz) Tryz.func49<|?_
 rintro ⟨f1,to2⟩
 unfold Vh
 refine A 17 ?_
 refine cD r ?_ ?_
 ·exact B
 ·refine A 11 ?_
  refine lP (E:=fun (s : Int) (g : Nat)=>[(1,.sl (to2.map Pa)),(2,.optr 2 g 0 0),(13,.sl (to2.map Pa)),(14,.int .i64 (to2.length : Int)),(15,.int .i64 s)]) (O:=fun _ g=>[(2,some (g,⟨false,true,3,40,[.agg [.int .i64 f1.Params,.sl (f1.Slots.map Ph),.sl (f1.Code.map Pg)]]⟩))]) (body:=fun s=>UR to2 f1 s) (s:=0) _ ((hE ⟨rfl,r,r,r,r,trivial⟩ ⟨rfl,trivial⟩))<|?_
  rintro x3 v2x1 nn
  try dsimp only
  unfold UR
  exact B

def Aeb (b : Bool) : D:=.bool b
noncomputable def AaI : Dw.Spec:=Pe [] .ground Qn Qm (fun a=>Vw a) Aeb noE
theorem AdL : Pd Tryz.prog 50 AaI:=by
 refine fn2 1 (Pk (l:=[(56,Vv)]) (by simp [Yo])) Tryz.func50<|?_
 intro a
 unfold Vw
 exact B

def Rp (a : OX × Pj) : List D:=[Qe a.1,Ug a.2]
def Ro (ds : List D) : OX × Pj:=(Sn (ds.getD 0 .top),Aaz (ds.getD 1 .top))
theorem AfP (a : OX × Pj) : Ro (Rp a) = a:=by simp [Ro,Rp]
instance : PA Rp Ro:=⟨AfP⟩
def Agu (b : Int) : D:=.int .i64 b
noncomputable def ZY : Dw.Spec:=Pe [] .ground Rp Ro (fun a=>Uo a.1 a.2) Agu noE
theorem AbE : Pd Tryz.prog 26 ZY:=by
 refine fn2 2 (Pk (l:=[(49,Abr),(50,AaI)]) (by simp [AeE,AdL])) Tryz.func26<|?_
 rintro ⟨f1,r2⟩
 unfold Uo
 refine A 7 ?_
 refine sC (E:=fun (_s : Unit) (g : Nat × Nat)=>[(2,.optr 2 g.1 0 0),(3,.optr 3 g.2 0 0)]) (O:=fun _ g=>[(2,some (g.1,⟨false,true,3,40,[.agg [.int .i64 f1.Params,.sl (f1.Slots.map Ph),.sl (f1.Code.map Pg)]]⟩)),(3,some (g.2,⟨false,true,2,33,[.agg [.sl (r2.To.map Pa),.sl (r2.Keep.map D.bool)]]⟩))]) (j:=fun _=>VP f1 r2) ?_ ?_
 ·exact B
 ·rintro ⟨⟩ ⟨v2x1,v3x1⟩ nn
  try dsimp only
  unfold VP
  refine A 10 ?_
  refine lP (E:=fun (s : Int) (g : Nat)=>[(3,.optr 3 g 0 0),(22,.sl (f1.Code.map Pg)),(23,.int .i64 (f1.Code.length : Int)),(24,.int .i64 s)]) (O:=fun _ g=>[(3,some (g,⟨false,true,2,33,[.agg [.sl (r2.To.map Pa),.sl (r2.Keep.map D.bool)]]⟩))]) (body:=fun s=>VO f1 r2 s) (s:=0) _ ((hE ⟨rfl,r,r,r,trivial⟩ ⟨rfl,trivial⟩))<|?_
  rintro x4 v3x2 nn
  try dsimp only
  unfold VO
  exact B

def Qv (a : Int × OX × Pj × Pf) : List D:=[.int .i64 a.1,.fptr (Qe a.2.1) 0,.fptr (Ug a.2.2.1) 0,.fptr (QA a.2.2.2) 0]
def Qu (ds : List D) : Int × OX × Pj × Pf:=(uI (ds.getD 0 .top),Sn (fpD (ds.getD 1 .top)),Aaz (fpD (ds.getD 2 .top)),VR (fpD (ds.getD 3 .top)))
theorem Ze (a : Int × OX × Pj × Pf) : Qu (Qv a) = a:=by simp [Qu,Qv,uI,fpD]
instance : PA Qv Qu:=⟨Ze⟩
def Zr (b : Int × Bool) : D:=.tup [.int .i64 b.1,.bool b.2]
noncomputable def Ud : Dw.Spec:=Pe [] .ground Qv Qu (fun a=>Qs a.1 a.2.1 a.2.2.1 a.2.2.2) Zr noE
theorem Zf : Pd Tryz.prog 55 Ud:=by
 refine fn2 4 (Pk (l:=[(56,Vv)]) (by simp [Yo])) Tryz.func55<|?_
 rintro ⟨k1,cap2,cap3,cap4⟩
 unfold Qs
 refine A 11 ?_
 refine bD fun x_x5 hx_x5=>?_
 refine A 9 ?_
 refine bD fun r6 hr6=>?_
 refine A 8 ?_
 refine sC (E:=fun (_s : Unit) (_g : Unit)=>[(0,.int .i64 k1),(2,.fptr (.agg [.sl (cap3.To.map Pa),.sl (cap3.Keep.map D.bool)]) 0),(3,.fptr (.agg [.sl (cap4.Out.map (eL Pa))]) 0),(8,.int .i64 r6.1)]) (O:=fun _ _=>[]) (j:=fun _=>PR cap4 k1 cap3 r6) ?_ ?_
 ·exact B
 ·rintro ⟨⟩ ⟨⟩ nn
  try dsimp only
  unfold PR
  refine A 6 ?_
  refine bD fun x_x9 hx_x9=>?_
  refine A 7 ?_
  refine lP (E:=fun (s : Int) (_g : Unit)=>[(0,.int .i64 k1),(2,.fptr (.agg [.sl (cap3.To.map Pa),.sl (cap3.Keep.map D.bool)]) 0),(8,.int .i64 r6.1),(48,.sl (x_x9.map Pa)),(49,.int .i64 (x_x9.length : Int)),(50,.int .i64 s)]) (O:=fun _ _=>[]) (body:=fun s=>QB x_x9 cap3 k1 r6 s) (s:=0) () ((hE ⟨rfl,r,r,r,r,r,trivial⟩ trivial))<|?_
  rintro x10 ⟨⟩ nn
  try dsimp only
  unfold QB
  exact B

def Alp : OH:=(.seq (.reg [P 3 (.box (T 0) 3 40),P 4 (.box (T 1) 1 29),P 5 (.box (T 2) 2 33),P 6 (.asg (.c .nilf) none)] false) (.seq (.reg [P 7 (.mkf 55 [(T 3),(T 5),(T 4)]),P 6 (.asg (T 7) none)] false) .ret))
theorem Amt : (Tryz.f29.body.bind (OK Tryz.prog Tryz.f29.ntmps)) = some Alp:=by kernel_rfl
theorem Amu : Tryz.f29.results.toList.mapM (OM Tryz.prog) = some [(.t 6)]:=by kernel_rfl

end Go.Proofs.YtpagjjmondojpaaGreatDoor
