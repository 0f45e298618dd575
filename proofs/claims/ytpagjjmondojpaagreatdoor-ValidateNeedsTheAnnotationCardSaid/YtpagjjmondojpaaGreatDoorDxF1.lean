/-
  Programs on typed data, and the proofs that the code does what they say; written by a program (dx.py).
-/
import Derived.Test.YtpagjjmondojpaaGreatDoorProg
import Derived.Test.YtpagjjmondojpaaGreatDoorDc
import Derived.KernelRfl
import Derived.Test.YtpagjjmondojpaaGreatDoorSh
import Derived.Test.YtpagjjmondojpaaGreatDoorDxP
namespace Go.Proofs.YtpagjjmondojpaaGreatDoor
open Go Go.Dw Go.Proofs
set_option maxRecDepth 100000
set_option maxHeartbeats 4000000
open Go.Dw renaming QV → bD,Pr → cK,AcM → bS,Abq → cV,ZG → cG,Acv → aP,Uz → sE,Aef → cD,Aby → hE,Abp → cP,AgY → lP,AcN → sC,Aaf → bC,AlY → mF,rf → r
def Py (a : Int) : List D:=[.int .i64 a]
def Px (ds : List D) : Int:=uI (ds.getD 0 .top)
theorem AcD (a : Int) : Px (Py a) = a:=by simp [Px,Py,uI]
instance : Pc Py Px:=⟨AcD⟩
def Adn (b : Bool) : D:=.bool b
noncomputable def VW : Dw.Spec:=OH [] .ground Py Px (fun a=>Qq a) Adn noE
theorem Zi : OE Tryz.prog 109 VW:=by
 refine fn2 1 (Pb) Tryz.func109<|?_
 intro a
 unfold Qq
 exact B

def Re (a : (List Int)) : List D:=[.sl (a.map OB)]
def Rc (ds : List D) : (List Int):=(uL uI) (ds.getD 0 .top)
theorem AfD (a : (List Int)) : Rc (Re a) = a:=by simp [Rc,Re,PD (u:=uI) (en:=OB) (fun _=>rfl)]
instance : Pc Re Rc:=⟨AfD⟩
def Agl (b : Bool) : D:=.bool b
noncomputable def AbZ : Dw.Spec:=OH [] .ground Re Rc (fun a=>WA a) Agl noE
theorem AfE : OE Tryz.prog 82 AbZ:=by
 refine fn2 1 (OL (l:=[(109,VW)]) (by simp [Zi])) Tryz.func82<|?_
 intro s1
 unfold WA
 refine A 14 ?_
 refine lP (E:=fun (s : Int) (_g : Unit)=>[(0,.sl (s1.map OB)),(5,.sl (s1.map OB)),(6,.int .i64 (s1.length : Int)),(7,.int .i64 s)]) (O:=fun _ _=>[]) (body:=fun s=>QW s1 s) (s:=0) () ((hE ⟨rfl,r,r,r,trivial⟩ trivial))<|?_
 rintro x2 ⟨⟩ nn
 try dsimp only
 unfold QW
 exact B

def Ry (a : (List Int) × Oy) : List D:=[.sl (a.1.map OB),.fptr (PH a.2) 0]
def Rx (ds : List D) : (List Int) × Oy:=((uL uI) (ds.getD 0 .top),RU (fpD (ds.getD 1 .top)))
theorem Aba (a : (List Int) × Oy) : Rx (Ry a) = a:=by simp [Rx,Ry,fpD,PD (u:=uI) (en:=OB) (fun _=>rfl)]
instance : Pc Ry Rx:=⟨Aba⟩
def Abr (b : Bool) : D:=.bool b
noncomputable def XS : Dw.Spec:=OH [] .ground Ry Rx (fun a=>Rp a.1 a.2) Abr noE
theorem Abb : OE Tryz.prog 81 XS:=by
 refine fn2 2 (OL (l:=[(82,AbZ)]) (by simp [AfE])) Tryz.func81<|?_
 intro a
 unfold Rp
 exact B

def Pv (a : (List (List Int)) × Oy) : List D:=[.sl (a.1.map (eL OB)),.clo 81 [.fptr (PH a.2) 0]]
def Pu (ds : List D) : (List (List Int)) × Oy:=((uL (uL uI)) (ds.getD 0 .top),RU (fpD (AeY (ds.getD 1 .top) 0)))
theorem QE (a : (List (List Int)) × Oy) : Pu (Pv a) = a:=by simp [Pu,Pv,fpD,AeY,PD (u:=(uL uI)) (en:=(eL OB)) (PD (u:=uI) (en:=OB) (fun _=>rfl))]
instance : Pc Pv Pu:=⟨QE⟩
def XQ (b : Int) : D:=.int .i64 b
noncomputable def QQ : Dw.Spec:=OH [] .ground Pv Pu (fun a=>PG a.1 a.2) XQ noE
theorem WT : OE Tryz.prog 110 QQ:=by
 refine fn2 2 (OL (l:=[(81,XS)]) (by simp [Abb])) Tryz.func110<|?_
 rintro ⟨s1,f2⟩
 unfold PG
 refine A 14 ?_
 refine lP (E:=fun (s : Int) (_g : Unit)=>[(0,.sl (s1.map (eL OB))),(1,.clo 81 [.fptr (.agg [.int .i64 f2.Params,.sl (f2.Slots.map OK),.sl (f2.Code.map OI)]) 0]),(7,.int .i64 (s1.length : Int)),(8,.int .i64 s)]) (O:=fun _ _=>[]) (body:=fun s=>PV s1 f2 s) (s:=0) () ((hE ⟨rfl,r,r,r,trivial⟩ trivial))<|?_
 rintro x3 ⟨⟩ nn
 try dsimp only
 unfold PV
 exact B

def VY (b : Bool) : D:=.bool b
noncomputable def Qt : Dw.Spec:=OH [] .ground Pv Pu (fun a=>PU a.1 a.2) VY noE
theorem VL : OE Tryz.prog 83 Qt:=by
 refine fn2 2 (OL (l:=[(335982,QQ)]) (by simp [WT])) Tryz.func83<|?_
 rintro ⟨s1,f2⟩
 unfold PU
 refine A 9 ?_
 refine bD fun r3 hr3=>cG (s1,f2) rfl rfl (show _ = some QQ from by kernel_rfl) QE rfl rfl (by simp) r hr3 r<|?_
 exact B

def Pg (a : Oy × OG) : List D:=[PH a.1,Qe a.2]
def Pf (ds : List D) : Oy × OG:=(RU (ds.getD 0 .top),VA (ds.getD 1 .top))
theorem Adt (a : Oy × OG) : Pf (Pg a) = a:=by simp [Pf,Pg]
instance : Pc Pg Pf:=⟨Adt⟩
def AdM (b : Bool) : D:=.bool b
noncomputable def WJ : Dw.Spec:=OH [] .ground Pg Pf (fun a=>Sc a.1 a.2) AdM noE
theorem ZN : OE Tryz.prog 47 WJ:=by
 refine fn2 2 (OL (l:=[(335955,Qt)]) (by simp [VL])) Tryz.func47<|?_
 rintro ⟨f1,l2⟩
 unfold Sc
 refine A 6 ?_
 refine Tn (E:=[(2,.fptr (.agg [.int .i64 f1.Params,.sl (f1.Slots.map OK),.sl (f1.Code.map OI)]) 0),(3,.optr 3 _ 0 0)]) (O:=[(3,some (_,⟨false,true,1,29,[.agg [.sl (l2.Out.map (eL OB))]]⟩))]) ((YL (g:=2) r (by first | rfl | (simp [cells,frp,OW,Pk]; done)) (hE ⟨(by first | rfl | (simp [ON,frp]; done) | (simp [ON,frp,OW]; done) | (simp [ON,frp,OW,nbq]; done) | (simp [ON,lkO,frp,OW,frO]; done) | (simp [ON,lkO,frp,OW,frO]; rfl) | (simp [ON,lkO,frp,OW,frO,nbq]; done)),(by first | rfl | (simp [ON,frp]; done) | (simp [ON,frp,OW]; done) | (simp [ON,frp,OW,nbq]; done) | (simp [ON,lkO,frp,OW,frO]; done) | (simp [ON,lkO,frp,OW,frO]; rfl) | (simp [ON,lkO,frp,OW,frO,nbq]; done)),trivial⟩ ⟨(by first | rfl | (simp [ON,frp]; done) | (simp [ON,frp,OW]; done) | (simp [ON,frp,OW,nbq]; done) | (simp [ON,lkO,frp,OW,frO]; done) | (simp [ON,lkO,frp,OW,frO]; rfl) | (simp [ON,lkO,frp,OW,frO,nbq]; done)),trivial⟩))) fun nn=>?_
 refine A 2 ?_
 refine mF (caps:=[.fptr (.agg [.int .i64 f1.Params,.sl (f1.Slots.map OK),.sl (f1.Code.map OI)]) 0]) r r (by simp [Aad])<|?_
 refine A 13 ?_
 refine AaQ r ?_ ?_
 ·refine A 3 ?_
  refine bD fun r3 hr3=>cG (l2.Out,f1) rfl rfl (show _ = some Qt from by kernel_rfl) QE rfl rfl (by simp) r hr3 r<|?_
  exact B
 ·exact B

def Uo (a : OG) : List D:=[Qe a]
def Un (ds : List D) : OG:=VA (ds.getD 0 .top)
theorem AeD (a : OG) : Un (Uo a) = a:=by simp [Un,Uo]
instance : Pc Uo Un:=⟨AeD⟩
def Afe (b : OG) : D:=.clo 113 [.fptr (Qe b) 0]
noncomputable def Abc : Dw.Spec:=OH [] .val Uo Un (fun a=>Xb a) Afe noE
theorem AeE : OE Tryz.prog 85 Abc:=by
 refine fn2 1 (Pb) Tryz.func85<|?_
 intro l1
 unfold Xb
 refine A 5 ?_
 refine Tn (E:=[(1,.fptr (.agg [.sl (l1.Out.map (eL OB))]) 0)]) (O:=[]) ((YL (g:=1) r (by first | rfl | (simp [cells,frp,OW,Pk]; done)) (hE ⟨(by first | rfl | (simp [ON,frp]; done) | (simp [ON,frp,OW]; done) | (simp [ON,frp,OW,nbq]; done) | (simp [ON,lkO,frp,OW,frO]; done) | (simp [ON,lkO,frp,OW,frO]; rfl) | (simp [ON,lkO,frp,OW,frO,nbq]; done)),trivial⟩ trivial))) fun nn=>?_
 refine A 2 ?_
 refine mF (caps:=[.fptr (.agg [.sl (l1.Out.map (eL OB))]) 0]) r r (by simp [Aad])<|?_
 exact B

def Afy (b : Bool) : D:=.bool b
noncomputable def Abm : Dw.Spec:=OH [] .ground Py Px (fun a=>XP a) Afy noE
theorem AeG : OE Tryz.prog 132 Abm:=by
 refine fn2 1 (Pb) Tryz.func132<|?_
 intro a
 unfold XP
 exact B

def VC (a : Oy × Int) : List D:=[PH a.1,.int .i64 a.2]
def VB (ds : List D) : Oy × Int:=(RU (ds.getD 0 .top),uI (ds.getD 1 .top))
theorem Aiy (a : Oy × Int) : VB (VC a) = a:=by simp [VB,VC,uI]
instance : Pc VC VB:=⟨Aiy⟩
def Ajv (b : (List Int)) : D:=.sl (b.map OB)
noncomputable def AeL : Dw.Spec:=OH [] (.row 1 3) VC VB (fun a=>Aaq a.1 a.2) Ajv noE
theorem Aiz : OE Tryz.prog 111 AeL:=by
 refine fn2 2 (OL (l:=[(132,Abm),(133,YY),(134,WS)]) (by simp [AeG,AbT,AaO])) Tryz.func111<|?_
 rintro ⟨f1,k2⟩
 unfold Aaq
 refine A 6 ?_
 refine sC (E:=fun (_s : Unit) (g : Nat)=>[(1,.int .i64 k2),(2,.optr 2 g 0 0)]) (O:=fun _ g=>[(2,some (g,⟨false,true,3,40,[.agg [.int .i64 f1.Params,.sl (f1.Slots.map OK),.sl (f1.Code.map OI)]]⟩))]) (j:=fun _=>Zm f1 k2) ?_ ?_
 ·exact B
 ·rintro ⟨⟩ v2x1 nn
  try dsimp only
  unfold Zm
  refine A 10 ?_
  refine bD fun x_x3 hx_x3=>?_
  refine A 6 ?_
  refine sC (E:=fun (s : (List Int)) (g : Nat × Nat)=>[(5,.osl 5 g.1 0 s.length),(6,.optr 6 g.2 0 0)]) (O:=fun s g=>[(5,some (g.1,⟨false,false,1,3,s.map OB⟩)),(6,some (g.2,⟨false,true,5,69,[.agg [.int .i64 x_x3.Op,.int .i64 x_x3.A,.int .i64 x_x3.B,.int .i64 x_x3.C,.int .u64 x_x3.Imm]]⟩))]) (j:=fun s=>WH x_x3 s) ?_ ?_
  ·exact B
  ·rintro l4 ⟨v5x2,v6x2⟩ nn
   try dsimp only
   unfold WH
   exact B

def RT (a : Int × OG) : List D:=[.int .i64 a.1,.fptr (Qe a.2) 0]
def RS (ds : List D) : Int × OG:=(uI (ds.getD 0 .top),VA (fpD (ds.getD 1 .top)))
theorem AbR (a : Int × OG) : RS (RT a) = a:=by simp [RS,RT,uI,fpD]
instance : Pc RT RS:=⟨AbR⟩
def Ack (b : (List Int)) : D:=.sl (b.map OB)
noncomputable def YX : Dw.Spec:=OH [] .val RT RS (fun a=>TL a.1 a.2) Ack noE
theorem AbS : OE Tryz.prog 113 YX:=by
 refine fn2 2 (Pb) Tryz.func113<|?_
 intro a
 unfold TL
 exact B

def PR (a : OA) : List D:=[OI a]
def PQ (ds : List D) : OA:=Acw (ds.getD 0 .top)
theorem AeA (a : OA) : PQ (PR a) = a:=by simp [PQ,PR]
instance : Pc PR PQ:=⟨AeA⟩
def Afd (b : Int × Bool) : D:=.tup [.int .i64 b.1,.bool b.2]
noncomputable def Ve : Dw.Spec:=OH [] .ground PR PQ (fun a=>Sa a) Afd noE
theorem XX : OE Tryz.prog 56 Ve:=by
 refine fn2 1 (Pb) Tryz.func56<|?_
 intro a
 unfold Sa
 exact B

def Sn (a : Oz × Int × Bool) : List D:=[Pd a.1,.int .i64 a.2.1,.bool a.2.2]
def Sm (ds : List D) : Oz × Int × Bool:=(QF (ds.getD 0 .top),uI (ds.getD 1 .top),uBo (ds.getD 2 .top))
theorem Ace (a : Oz × Int × Bool) : Sm (Sn a) = a:=by simp [Sm,Sn,uI,uBo]
instance : Pc Sn Sm:=⟨Ace⟩
def AcC (_b : Oz) : D:=.tup []
def AcB (b : Oz) : List D:=[Pd b]
noncomputable def Vd : Dw.Spec:=OH [(0,(8,185))] .val Sn Sm (fun a=>Ri a.1 a.2.1 a.2.2) AcC AcB
theorem YQ : OE Tryz.prog 138 Vd:=by
 refine fn2 3 (OL (l:=[(109,VW)]) (by simp [Zi])) Tryz.func138<|?_
 rintro ⟨s1,n2,in3⟩
 unfold Ri
 refine A 13 ?_
 refine bD fun r4 hr4=>?_
 refine A 5 ?_
 refine cD r ?_ ?_
 ·exact B
 ·refine A 6 ?_
  refine cD r ?_ ?_
  ·refine A 5 ?_
   refine cK fun hq=>Tx r r r hq<|bD fun s_e5 hs_e5=>Vz (q:=s_e5) (l:=s1.toList) (en:=XW) (j:=(IntKind.i64.wrap (n2.tdiv 64)).toNat) (by simp) r r r hs_e5 r (fun _=>r)<|?_
   refine A 3 ?_
   refine cK fun hq=>Tx r r r hq<|bD fun s_o6 hs_o6=>AbK (q:=s_o6) (q':=IntKind.u64.wrap ((BitVec.ofInt IntKind.u64.bits s_e5 ||| BitVec.ofInt IntKind.u64.bits (IntKind.u64.wrap (1 * 2 ^ (Nat.min ((IntKind.u64.wrap (n2)).tmod 64).toNat IntKind.u64.bits)))).toNat)) (l:=s1.toList) (en:=XW) (j:=(IntKind.i64.wrap (n2.tdiv 64)).toNat) (z':=.agg [.int .u64 ((s1.set ((IntKind.i64.wrap (n2.tdiv 64)).toNat) (IntKind.u64.wrap ((BitVec.ofInt IntKind.u64.bits s_e5 ||| BitVec.ofInt IntKind.u64.bits (IntKind.u64.wrap (1 * 2 ^ (Nat.min ((IntKind.u64.wrap (n2)).tmod 64).toNat IntKind.u64.bits)))).toNat))).a0),.int .u64 ((s1.set ((IntKind.i64.wrap (n2.tdiv 64)).toNat) (IntKind.u64.wrap ((BitVec.ofInt IntKind.u64.bits s_e5 ||| BitVec.ofInt IntKind.u64.bits (IntKind.u64.wrap (1 * 2 ^ (Nat.min ((IntKind.u64.wrap (n2)).tmod 64).toNat IntKind.u64.bits)))).toNat))).a1),.int .u64 ((s1.set ((IntKind.i64.wrap (n2.tdiv 64)).toNat) (IntKind.u64.wrap ((BitVec.ofInt IntKind.u64.bits s_e5 ||| BitVec.ofInt IntKind.u64.bits (IntKind.u64.wrap (1 * 2 ^ (Nat.min ((IntKind.u64.wrap (n2)).tmod 64).toNat IntKind.u64.bits)))).toNat))).a2),.int .u64 ((s1.set ((IntKind.i64.wrap (n2.tdiv 64)).toNat) (IntKind.u64.wrap ((BitVec.ofInt IntKind.u64.bits s_e5 ||| BitVec.ofInt IntKind.u64.bits (IntKind.u64.wrap (1 * 2 ^ (Nat.min ((IntKind.u64.wrap (n2)).tmod 64).toNat IntKind.u64.bits)))).toNat))).a3),.int .u64 ((s1.set ((IntKind.i64.wrap (n2.tdiv 64)).toNat) (IntKind.u64.wrap ((BitVec.ofInt IntKind.u64.bits s_e5 ||| BitVec.ofInt IntKind.u64.bits (IntKind.u64.wrap (1 * 2 ^ (Nat.min ((IntKind.u64.wrap (n2)).tmod 64).toNat IntKind.u64.bits)))).toNat))).a4),.int .u64 ((s1.set ((IntKind.i64.wrap (n2.tdiv 64)).toNat) (IntKind.u64.wrap ((BitVec.ofInt IntKind.u64.bits s_e5 ||| BitVec.ofInt IntKind.u64.bits (IntKind.u64.wrap (1 * 2 ^ (Nat.min ((IntKind.u64.wrap (n2)).tmod 64).toNat IntKind.u64.bits)))).toNat))).a5),.int .u64 ((s1.set ((IntKind.i64.wrap (n2.tdiv 64)).toNat) (IntKind.u64.wrap ((BitVec.ofInt IntKind.u64.bits s_e5 ||| BitVec.ofInt IntKind.u64.bits (IntKind.u64.wrap (1 * 2 ^ (Nat.min ((IntKind.u64.wrap (n2)).tmod 64).toNat IntKind.u64.bits)))).toNat))).a6),.int .u64 ((s1.set ((IntKind.i64.wrap (n2.tdiv 64)).toNat) (IntKind.u64.wrap ((BitVec.ofInt IntKind.u64.bits s_e5 ||| BitVec.ofInt IntKind.u64.bits (IntKind.u64.wrap (1 * 2 ^ (Nat.min ((IntKind.u64.wrap (n2)).tmod 64).toNat IntKind.u64.bits)))).toNat))).a7)]) (by simp) r r r r r hs_o6 r r (congrArg (fun l=>D.agg (l.map XW)) (QJ s1 ((IntKind.i64.wrap (n2.tdiv 64)).toNat) (IntKind.u64.wrap ((BitVec.ofInt IntKind.u64.bits s_e5 ||| BitVec.ofInt IntKind.u64.bits (IntKind.u64.wrap (1 * 2 ^ (Nat.min ((IntKind.u64.wrap (n2)).tmod 64).toNat IntKind.u64.bits)))).toNat))).symm) r r<|?_
   exact B
  ·refine A 5 ?_
   refine cK fun hq=>Tx r r r hq<|bD fun s_e7 hs_e7=>Vz (q:=s_e7) (l:=s1.toList) (en:=XW) (j:=(IntKind.i64.wrap (n2.tdiv 64)).toNat) (by simp) r r r hs_e7 r (fun _=>r)<|?_
   refine A 3 ?_
   refine cK fun hq=>Tx r r r hq<|bD fun s_o8 hs_o8=>AbK (q:=s_o8) (q':=IntKind.u64.wrap ((BitVec.ofInt IntKind.u64.bits s_e7 &&& ~~~ BitVec.ofInt IntKind.u64.bits (IntKind.u64.wrap (1 * 2 ^ (Nat.min ((IntKind.u64.wrap (n2)).tmod 64).toNat IntKind.u64.bits)))).toNat)) (l:=s1.toList) (en:=XW) (j:=(IntKind.i64.wrap (n2.tdiv 64)).toNat) (z':=.agg [.int .u64 ((s1.set ((IntKind.i64.wrap (n2.tdiv 64)).toNat) (IntKind.u64.wrap ((BitVec.ofInt IntKind.u64.bits s_e7 &&& ~~~ BitVec.ofInt IntKind.u64.bits (IntKind.u64.wrap (1 * 2 ^ (Nat.min ((IntKind.u64.wrap (n2)).tmod 64).toNat IntKind.u64.bits)))).toNat))).a0),.int .u64 ((s1.set ((IntKind.i64.wrap (n2.tdiv 64)).toNat) (IntKind.u64.wrap ((BitVec.ofInt IntKind.u64.bits s_e7 &&& ~~~ BitVec.ofInt IntKind.u64.bits (IntKind.u64.wrap (1 * 2 ^ (Nat.min ((IntKind.u64.wrap (n2)).tmod 64).toNat IntKind.u64.bits)))).toNat))).a1),.int .u64 ((s1.set ((IntKind.i64.wrap (n2.tdiv 64)).toNat) (IntKind.u64.wrap ((BitVec.ofInt IntKind.u64.bits s_e7 &&& ~~~ BitVec.ofInt IntKind.u64.bits (IntKind.u64.wrap (1 * 2 ^ (Nat.min ((IntKind.u64.wrap (n2)).tmod 64).toNat IntKind.u64.bits)))).toNat))).a2),.int .u64 ((s1.set ((IntKind.i64.wrap (n2.tdiv 64)).toNat) (IntKind.u64.wrap ((BitVec.ofInt IntKind.u64.bits s_e7 &&& ~~~ BitVec.ofInt IntKind.u64.bits (IntKind.u64.wrap (1 * 2 ^ (Nat.min ((IntKind.u64.wrap (n2)).tmod 64).toNat IntKind.u64.bits)))).toNat))).a3),.int .u64 ((s1.set ((IntKind.i64.wrap (n2.tdiv 64)).toNat) (IntKind.u64.wrap ((BitVec.ofInt IntKind.u64.bits s_e7 &&& ~~~ BitVec.ofInt IntKind.u64.bits (IntKind.u64.wrap (1 * 2 ^ (Nat.min ((IntKind.u64.wrap (n2)).tmod 64).toNat IntKind.u64.bits)))).toNat))).a4),.int .u64 ((s1.set ((IntKind.i64.wrap (n2.tdiv 64)).toNat) (IntKind.u64.wrap ((BitVec.ofInt IntKind.u64.bits s_e7 &&& ~~~ BitVec.ofInt IntKind.u64.bits (IntKind.u64.wrap (1 * 2 ^ (Nat.min ((IntKind.u64.wrap (n2)).tmod 64).toNat IntKind.u64.bits)))).toNat))).a5),.int .u64 ((s1.set ((IntKind.i64.wrap (n2.tdiv 64)).toNat) (IntKind.u64.wrap ((BitVec.ofInt IntKind.u64.bits s_e7 &&& ~~~ BitVec.ofInt IntKind.u64.bits (IntKind.u64.wrap (1 * 2 ^ (Nat.min ((IntKind.u64.wrap (n2)).tmod 64).toNat IntKind.u64.bits)))).toNat))).a6),.int .u64 ((s1.set ((IntKind.i64.wrap (n2.tdiv 64)).toNat) (IntKind.u64.wrap ((BitVec.ofInt IntKind.u64.bits s_e7 &&& ~~~ BitVec.ofInt IntKind.u64.bits (IntKind.u64.wrap (1 * 2 ^ (Nat.min ((IntKind.u64.wrap (n2)).tmod 64).toNat IntKind.u64.bits)))).toNat))).a7)]) (by simp) r r r r r hs_o8 r r (congrArg (fun l=>D.agg (l.map XW)) (QJ s1 ((IntKind.i64.wrap (n2.tdiv 64)).toNat) (IntKind.u64.wrap ((BitVec.ofInt IntKind.u64.bits s_e7 &&& ~~~ BitVec.ofInt IntKind.u64.bits (IntKind.u64.wrap (1 * 2 ^ (Nat.min ((IntKind.u64.wrap (n2)).tmod 64).toNat IntKind.u64.bits)))).toNat))).symm) r r<|?_
   exact B

def AfI (b : Oz) : D:=Pd b
noncomputable def TY : Dw.Spec:=OH [] (.ptr 8 185) Re Rc (fun a=>QG a) AfI noE
theorem Vc : OE Tryz.prog 114 TY:=by
 refine fn2 1 (OL (l:=[(138,Vd)]) (by simp [YQ])) Tryz.func114<|?_
 intro l1
 unfold QG
 refine A 21 ?_
 refine lP (E:=fun (s : Oz × Int) (g : Nat)=>[(3,.optr 7 g 0 0),(8,.sl (l1.map OB)),(9,.int .i64 (l1.length : Int)),(10,.int .i64 s.2)]) (O:=fun s g=>[(7,some (g,⟨false,true,8,185,[.agg [.int .u64 s.1.a0,.int .u64 s.1.a1,.int .u64 s.1.a2,.int .u64 s.1.a3,.int .u64 s.1.a4,.int .u64 s.1.a5,.int .u64 s.1.a6,.int .u64 s.1.a7]]⟩))]) (body:=fun s=>Vb l1 s.1 s.2) (s:=((Oz.mk 0 0 0 0 0 0 0 0),0)) _ ((hE ⟨rfl,r,r,r,trivial⟩ ⟨rfl,trivial⟩))<|?_
 rintro ⟨x2,x3⟩ v7x1 nn
 try dsimp only
 unfold Vb
 exact B

def RP (a : Oz) : List D:=[Pd a]
def RO (ds : List D) : Oz:=QF (ds.getD 0 .top)
theorem AbM (a : Oz) : RO (RP a) = a:=by simp [RO,RP]
instance : Pc RP RO:=⟨AbM⟩
def Acd (b : (List Int) × Oz) : D:=.sl (b.1.map OB)
def Acb (b : (List Int) × Oz) : List D:=[Pd b.2]
noncomputable def Rh : Dw.Spec:=OH [(0,(8,185))] (.row 1 3) RP RO (fun a=>PX a) Acd Acb
theorem Sl : OE Tryz.prog 117 Rh:=by
 refine fn2 1 (OL (l:=[(139,Aji)]) (by simp [Ama])) Tryz.func117<|?_
 intro s1
 unfold PX
 refine A 18 ?_
 refine lP (E:=fun (s : (List Int) × Int) (g : Nat)=>[(3,.osl 3 g 0 s.1.length),(6,.optr 8192 0 0 0),(7,.int .i64 s.2)]) (O:=fun s g=>[(3,some (g,⟨false,false,1,3,s.1.map OB⟩)),(8192,some (0,⟨false,true,8,185,[.agg [.int .u64 s1.a0,.int .u64 s1.a1,.int .u64 s1.a2,.int .u64 s1.a3,.int .u64 s1.a4,.int .u64 s1.a5,.int .u64 s1.a6,.int .u64 s1.a7]]⟩))]) (body:=fun s=>Sj s1 s.1 s.2) (s:=(([] : List Int),0)) _ ((hE ⟨rfl,r,r,trivial⟩ ⟨rfl,r,trivial⟩))<|?_
 rintro ⟨l2,x3⟩ v3x1 nn
 try dsimp only
 unfold Sj
 refine A 6 ?_
 refine cD r ?_ ?_
 ·refine A 8 ?_
  refine cK fun hq=>Tx r r r hq<|bD fun s_e4 hs_e4=>Vz (q:=s_e4) (l:=s1.toList) (en:=XW) (j:=x3.toNat) (by simp) r r r hs_e4 r (fun _=>r)<|?_
  refine A 5 ?_
  refine lP (E:=fun (s : (List Int) × Int) (g : Nat)=>[(3,.osl 3 g 0 s.1.length),(4,.int .i64 x3),(5,.int .u64 s.2),(6,.optr 8192 0 0 0),(7,.int .i64 x3)]) (O:=fun s g=>[(3,some (g,⟨false,false,1,3,s.1.map OB⟩)),(8192,some (0,⟨false,true,8,185,[.agg [.int .u64 s1.a0,.int .u64 s1.a1,.int .u64 s1.a2,.int .u64 s1.a3,.int .u64 s1.a4,.int .u64 s1.a5,.int .u64 s1.a6,.int .u64 s1.a7]]⟩))]) (body:=fun s=>Sk x3 s.1 s.2) (s:=(l2,s_e4)) _ ((hE ⟨rfl,r,r,r,r,trivial⟩ ⟨rfl,r,trivial⟩))<|?_
  rintro ⟨l5,x6⟩ v3x2 nn
  try dsimp only
  unfold Sk
  exact B
 ·exact B

def Qp (a : (List Int) × Int) : List D:=[.sl (a.1.map OB),.int .i64 a.2]
def Qo (ds : List D) : (List Int) × Int:=((uL uI) (ds.getD 0 .top),uI (ds.getD 1 .top))
theorem AeV (a : (List Int) × Int) : Qo (Qp a) = a:=by simp [Qo,Qp,uI,PD (u:=uI) (en:=OB) (fun _=>rfl)]
instance : Pc Qp Qo:=⟨AeV⟩
def AfG (b : (List Int)) : D:=.sl (b.map OB)
noncomputable def Abu : Dw.Spec:=OH [] .val Qp Qo (fun a=>TO a.1 a.2) AfG noE
theorem AeW : OE Tryz.prog 135 Abu:=by
 refine fn2 2 (OL (l:=[(114,TY),(138,Vd),(117,Rh)]) (by simp [Vc,YQ,Sl])) Tryz.func135<|?_
 intro a
 unfold TO
 exact B

def Ahq (b : (List Int)) : D:=.sl (b.map OB)
noncomputable def AcR : Dw.Spec:=OH [] (.row 1 3) PR PQ (fun a=>VM a) Ahq noE
theorem Agp : OE Tryz.prog 137 AcR:=by
 refine fn2 1 (Pb) Tryz.func137<|?_
 intro a
 unfold VM
 exact B

def Ajn (b : (List Int)) : D:=.sl (b.map OB)
noncomputable def AeH : Dw.Spec:=OH [] (.row 1 3) Re Rc (fun a=>WB a) Ajn noE
theorem Ain : OE Tryz.prog 136 AeH:=by
 refine fn2 1 (OL (l:=[(114,TY),(117,Rh)]) (by simp [Vc,Sl])) Tryz.func136<|?_
 intro a
 unfold WB
 exact B

def SA (a : Int × Int) : List D:=[.int .u64 a.1,.int .u64 a.2]
def Sz (ds : List D) : Int × Int:=(uI (ds.getD 0 .top),uI (ds.getD 1 .top))
theorem Aej (a : Int × Int) : Sz (SA a) = a:=by simp [Sz,SA,uI]
instance : Pc SA Sz:=⟨Aej⟩
def AeX (b : Int) : D:=.int .u64 b
noncomputable def AaW : Dw.Spec:=OH [] .ground SA Sz (fun a=>UO a.1 a.2) AeX noE
theorem Aek : OE Tryz.prog 116 AaW:=by
 refine fn2 2 (Pb) Tryz.func116<|?_
 intro a
 unfold UO
 exact B

def Qk (a : Oz × Oz) : List D:=[Pd a.1,Pd a.2,.clo 116 []]
def Qj (ds : List D) : Oz × Oz:=(QF (ds.getD 0 .top),QF (ds.getD 1 .top))
theorem Ua (a : Oz × Oz) : Qj (Qk a) = a:=by simp [Qj,Qk]
instance : Pc Qk Qj:=⟨Ua⟩
def ZK (b : Oz × Oz × Oz) : D:=Pd b.1
def ZJ (b : Oz × Oz × Oz) : List D:=[Pd b.2.1,Pd b.2.2]
noncomputable def RN : Dw.Spec:=OH [(0,(8,185)),(1,(8,185))] (.ptr 8 185) Qk Qj (fun a=>Qb a.1 a.2) ZK ZJ
theorem Zh : OE Tryz.prog 115 RN:=by
 refine fn2 3 (OL (l:=[(116,AaW)]) (by simp [Aek])) Tryz.func115<|?_
 rintro ⟨s1,t2⟩
 unfold Qb
 refine A 19 ?_
 refine lP (E:=fun (s : Oz × Int) (g : Nat)=>[(0,.optr 8192 0 0 0),(1,.optr 8193 1 0 0),(2,.clo 116 []),(7,.optr 10 g 0 0),(11,.int .i64 s.2)]) (O:=fun s g=>[(10,some (g,⟨false,true,8,185,[.agg [.int .u64 s.1.a0,.int .u64 s.1.a1,.int .u64 s.1.a2,.int .u64 s.1.a3,.int .u64 s.1.a4,.int .u64 s.1.a5,.int .u64 s.1.a6,.int .u64 s.1.a7]]⟩)),(8192,some (0,⟨false,true,8,185,[.agg [.int .u64 s1.a0,.int .u64 s1.a1,.int .u64 s1.a2,.int .u64 s1.a3,.int .u64 s1.a4,.int .u64 s1.a5,.int .u64 s1.a6,.int .u64 s1.a7]]⟩)),(8193,some (1,⟨false,true,8,185,[.agg [.int .u64 t2.a0,.int .u64 t2.a1,.int .u64 t2.a2,.int .u64 t2.a3,.int .u64 t2.a4,.int .u64 t2.a5,.int .u64 t2.a6,.int .u64 t2.a7]]⟩))]) (body:=fun s=>PN s1 t2 s.1 s.2) (s:=((Oz.mk 0 0 0 0 0 0 0 0),0)) _ ((hE ⟨rfl,r,r,r,r,trivial⟩ ⟨rfl,r,r,trivial⟩))<|?_
 rintro ⟨x3,x4⟩ v10x1 nn
 try dsimp only
 unfold PN
 refine A 6 ?_
 refine cD r ?_ ?_
 ·refine A 17 ?_
  refine cK fun hq=>Tx r r r hq<|bD fun s_e5 hs_e5=>Vz (q:=s_e5) (l:=s1.toList) (en:=XW) (j:=x4.toNat) (by simp) r r r hs_e5 r (fun _=>r)<|?_
  refine A 3 ?_
  refine cK fun hq=>Tx r r r hq<|bD fun t_e6 ht_e6=>Vz (q:=t_e6) (l:=t2.toList) (en:=XW) (j:=x4.toNat) (by simp) r r r ht_e6 r (fun _=>r)<|bD fun r7 hr7=>?_
  refine A 2 ?_
  refine cK fun hq=>Tx r r r hq<|bD fun x_o8 hx_o8=>Agh (q:=x_o8) (q':=r7) (l:=x3.toList) (en:=XW) (j:=x4.toNat) (z':=.agg [.int .u64 ((x3.set x4.toNat r7).a0),.int .u64 ((x3.set x4.toNat r7).a1),.int .u64 ((x3.set x4.toNat r7).a2),.int .u64 ((x3.set x4.toNat r7).a3),.int .u64 ((x3.set x4.toNat r7).a4),.int .u64 ((x3.set x4.toNat r7).a5),.int .u64 ((x3.set x4.toNat r7).a6),.int .u64 ((x3.set x4.toNat r7).a7)]) (by simp) r r r r r hx_o8 r r (congrArg (fun l=>D.agg (l.map XW)) (QJ x3 x4.toNat r7).symm)<|?_
  exact B
 ·exact B

def Qz (a : (List Int) × (List Int)) : List D:=[.sl (a.1.map OB),.sl (a.2.map OB)]
def Qy (ds : List D) : (List Int) × (List Int):=((uL uI) (ds.getD 0 .top),(uL uI) (ds.getD 1 .top))
theorem AfH (a : (List Int) × (List Int)) : Qy (Qz a) = a:=by simp [Qy,Qz,PD (u:=uI) (en:=OB) (fun _=>rfl)]
instance : Pc Qz Qy:=⟨AfH⟩
def Agn (b : (List Int)) : D:=.sl (b.map OB)
noncomputable def ZQ : Dw.Spec:=OH [] .val Qz Qy (fun a=>Sy a.1 a.2) Agn noE
theorem Abv : OE Tryz.prog 87 ZQ:=by
 refine fn2 2 (OL (l:=[(114,TY),(479347,RN),(117,Rh)]) (by simp [Vc,Zh,Sl])) Tryz.func87<|?_
 rintro ⟨a1,b2⟩
 unfold Sy
 refine A 8 ?_
 refine bD fun r3 hr3=>?_
 refine A 2 ?_
 refine bD fun r4 hr4=>?_
 refine A 1 ?_
 refine bD fun r5 hr5=>cP (r3,r4) rfl rfl (show _ = some RN from by kernel_rfl) Ua rfl rfl (by simp) r hr5<|?_
 exact B

def TR (a : OA × (List Int)) : List D:=[OI a.1,.sl (a.2.map OB)]
def TQ (ds : List D) : OA × (List Int):=(Acw (ds.getD 0 .top),(uL uI) (ds.getD 1 .top))
theorem Aiw (a : OA × (List Int)) : TQ (TR a) = a:=by simp [TQ,TR,PD (u:=uI) (en:=OB) (fun _=>rfl)]
instance : Pc TR TQ:=⟨Aiw⟩
def Aju (b : (List Int)) : D:=.sl (b.map OB)
noncomputable def AeK : Dw.Spec:=OH [] .val TR TQ (fun a=>Aao a.1 a.2) Aju noE
theorem Aix : OE Tryz.prog 112 AeK:=by
 refine fn2 2 (OL (l:=[(56,Ve),(135,Abu),(137,AcR),(136,AeH),(87,ZQ)]) (by simp [XX,AeW,Agp,Ain,Abv])) Tryz.func112<|?_
 intro a
 unfold Aao
 exact B

def AeU (b : Int) : D:=.int .u64 b
noncomputable def AaV : Dw.Spec:=OH [] .ground SA Sz (fun a=>UN a.1 a.2) AeU noE
theorem Aei : OE Tryz.prog 118 AaV:=by
 refine fn2 2 (Pb) Tryz.func118<|?_
 intro a
 unfold UN
 exact B

def Qi (a : Oz × Oz) : List D:=[Pd a.1,Pd a.2,.clo 118 []]
def Qh (ds : List D) : Oz × Oz:=(QF (ds.getD 0 .top),QF (ds.getD 1 .top))
theorem TZ (a : Oz × Oz) : Qh (Qi a) = a:=by simp [Qh,Qi]
instance : Pc Qi Qh:=⟨TZ⟩
def ZI (b : Oz × Oz × Oz) : D:=Pd b.1
def ZH (b : Oz × Oz × Oz) : List D:=[Pd b.2.1,Pd b.2.2]
noncomputable def RM : Dw.Spec:=OH [(0,(8,185)),(1,(8,185))] (.ptr 8 185) Qi Qh (fun a=>Qa a.1 a.2) ZI ZH
theorem Zg : OE Tryz.prog 115 RM:=by
 refine fn2 3 (OL (l:=[(118,AaV)]) (by simp [Aei])) Tryz.func115<|?_
 rintro ⟨s1,t2⟩
 unfold Qa
 refine A 19 ?_
 refine lP (E:=fun (s : Oz × Int) (g : Nat)=>[(0,.optr 8192 0 0 0),(1,.optr 8193 1 0 0),(2,.clo 118 []),(7,.optr 10 g 0 0),(11,.int .i64 s.2)]) (O:=fun s g=>[(10,some (g,⟨false,true,8,185,[.agg [.int .u64 s.1.a0,.int .u64 s.1.a1,.int .u64 s.1.a2,.int .u64 s.1.a3,.int .u64 s.1.a4,.int .u64 s.1.a5,.int .u64 s.1.a6,.int .u64 s.1.a7]]⟩)),(8192,some (0,⟨false,true,8,185,[.agg [.int .u64 s1.a0,.int .u64 s1.a1,.int .u64 s1.a2,.int .u64 s1.a3,.int .u64 s1.a4,.int .u64 s1.a5,.int .u64 s1.a6,.int .u64 s1.a7]]⟩)),(8193,some (1,⟨false,true,8,185,[.agg [.int .u64 t2.a0,.int .u64 t2.a1,.int .u64 t2.a2,.int .u64 t2.a3,.int .u64 t2.a4,.int .u64 t2.a5,.int .u64 t2.a6,.int .u64 t2.a7]]⟩))]) (body:=fun s=>PM s1 t2 s.1 s.2) (s:=((Oz.mk 0 0 0 0 0 0 0 0),0)) _ ((hE ⟨rfl,r,r,r,r,trivial⟩ ⟨rfl,r,r,trivial⟩))<|?_
 rintro ⟨x3,x4⟩ v10x1 nn
 try dsimp only
 unfold PM
 refine A 6 ?_
 refine cD r ?_ ?_
 ·refine A 17 ?_
  refine cK fun hq=>Tx r r r hq<|bD fun s_e5 hs_e5=>Vz (q:=s_e5) (l:=s1.toList) (en:=XW) (j:=x4.toNat) (by simp) r r r hs_e5 r (fun _=>r)<|?_
  refine A 3 ?_
  refine cK fun hq=>Tx r r r hq<|bD fun t_e6 ht_e6=>Vz (q:=t_e6) (l:=t2.toList) (en:=XW) (j:=x4.toNat) (by simp) r r r ht_e6 r (fun _=>r)<|bD fun r7 hr7=>?_
  refine A 2 ?_
  refine cK fun hq=>Tx r r r hq<|bD fun x_o8 hx_o8=>Agh (q:=x_o8) (q':=r7) (l:=x3.toList) (en:=XW) (j:=x4.toNat) (z':=.agg [.int .u64 ((x3.set x4.toNat r7).a0),.int .u64 ((x3.set x4.toNat r7).a1),.int .u64 ((x3.set x4.toNat r7).a2),.int .u64 ((x3.set x4.toNat r7).a3),.int .u64 ((x3.set x4.toNat r7).a4),.int .u64 ((x3.set x4.toNat r7).a5),.int .u64 ((x3.set x4.toNat r7).a6),.int .u64 ((x3.set x4.toNat r7).a7)]) (by simp) r r r r r hx_o8 r r (congrArg (fun l=>D.agg (l.map XW)) (QJ x3 x4.toNat r7).symm)<|?_
  exact B
 ·exact B

def Agm (b : (List Int)) : D:=.sl (b.map OB)
noncomputable def Aca : Dw.Spec:=OH [] .val Qz Qy (fun a=>UM a.1 a.2) Agm noE
theorem AfF : OE Tryz.prog 88 Aca:=by
 refine fn2 2 (OL (l:=[(114,TY),(487539,RM),(117,Rh)]) (by simp [Vc,Zg,Sl])) Tryz.func88<|?_
 rintro ⟨a1,b2⟩
 unfold UM
 refine A 8 ?_
 refine bD fun r3 hr3=>?_
 refine A 2 ?_
 refine bD fun r4 hr4=>?_
 refine A 1 ?_
 refine bD fun r5 hr5=>cP (r3,r4) rfl rfl (show _ = some RM from by kernel_rfl) TZ rfl rfl (by simp) r hr5<|?_
 exact B

def Qx (a : (List Int) × (List Int) × OG × Int) : List D:=[.sl (a.1.map OB),.sl (a.2.1.map OB),.fptr (Qe a.2.2.1) 0,.fptr (.int .i64 a.2.2.2) 0]
def Qw (ds : List D) : (List Int) × (List Int) × OG × Int:=((uL uI) (ds.getD 0 .top),(uL uI) (ds.getD 1 .top),VA (fpD (ds.getD 2 .top)),uI (fpD (ds.getD 3 .top)))
theorem ZT (a : (List Int) × (List Int) × OG × Int) : Qw (Qx a) = a:=by simp [Qw,Qx,uI,fpD,PD (u:=uI) (en:=OB) (fun _=>rfl)]
instance : Pc Qx Qw:=⟨ZT⟩
def Aat (b : Bool × (List Int)) : D:=.bool b.1
def Aas (b : Bool × (List Int)) : List D:=[.sl (b.2.map OB)]
noncomputable def Va : Dw.Spec:=OH [(1,(1,30))] .val Qx Qw (fun a=>Rv a.1 a.2.1 a.2.2.1 a.2.2.2) Aat Aas
theorem ZU : OE Tryz.prog 86 Va:=by
 refine fn2 4 (OL (l:=[(88,Aca),(87,ZQ)]) (by simp [AfF,Abv])) Tryz.func86<|?_
 rintro ⟨need1,cap2,cap3,cap4⟩
 unfold Rv
 refine A 12 ?_
 refine bD fun x_x5 hx_x5=>?_
 refine A 2 ?_
 refine bD fun r6 hr6=>?_
 refine A 1 ?_
 refine bD fun r7 hr7=>?_
 refine A 1 ?_
 refine Yr (i:=0) (es':=[.sl (r7.map OB)]) r r r r r r r (by first | trivial | (simp; done) | (simp; omega)) r r r r r r<|?_
 exact B

def Pt (a : Oy × Int × OG × (List Int) × OG × Int) : List D:=[PH a.1,.int .i64 a.2.1,.clo 113 [.fptr (Qe a.2.2.1) 0],.clo 86 [.sl (a.2.2.2.1.map OB),.fptr (Qe a.2.2.2.2.1) 0,.fptr (.int .i64 a.2.2.2.2.2) 0]]
def PL (ds : List D) : Oy × Int × OG × (List Int) × OG × Int:=(RU (ds.getD 0 .top),uI (ds.getD 1 .top),VA (fpD (AeY (ds.getD 2 .top) 0)),(uL uI) (AeY (ds.getD 3 .top) 0),VA (fpD (AeY (ds.getD 3 .top) 1)),uI (fpD (AeY (ds.getD 3 .top) 2)))
theorem SE (a : Oy × Int × OG × (List Int) × OG × Int) : PL (Pt a) = a:=by simp [PL,Pt,uI,fpD,AeY,PD (u:=uI) (en:=OB) (fun _=>rfl)]
instance : Pc Pt PL:=⟨SE⟩
def Xa (b : Bool × (List Int)) : D:=.bool b.1
def WZ (b : Bool × (List Int)) : List D:=[.sl (b.2.map OB)]
noncomputable def QO : Dw.Spec:=OH [(256,(1,30))] .val Pt PL (fun a=>PF a.1 a.2.1 a.2.2.1 a.2.2.2.1 a.2.2.2.2.1 a.2.2.2.2.2) Xa WZ
theorem WI : OE Tryz.prog 84 QO:=by
 refine fn2 4 (OL (l:=[(111,AeL),(113,YX),(112,AeK),(86,Va)]) (by simp [Aiz,AbS,Aix,ZU])) Tryz.func84<|?_
 rintro ⟨f1,k2,set3,visit4,visit5,visit6⟩
 unfold PF
 refine A 11 ?_
 refine bD fun r7 hr7=>?_
 refine A 6 ?_
 refine lP (E:=fun (s : (List Int) × Int) (g : Nat × Nat)=>[(2,.clo 113 [.fptr (.agg [.sl (set3.Out.map (eL OB))]) 0]),(3,.clo 86 [.optr 8448 256 0 0,.fptr (.agg [.sl (visit5.Out.map (eL OB))]) 0,.fptr (.int .i64 visit6) 0]),(4,.optr 4 g.1 0 0),(13,.osl 13 g.2 0 r7.length),(14,.int .i64 (r7.length : Int)),(15,.int .i64 s.2)]) (O:=fun s g=>[(4,some (g.1,⟨false,true,3,40,[.agg [.int .i64 f1.Params,.sl (f1.Slots.map OK),.sl (f1.Code.map OI)]]⟩)),(13,some (g.2,⟨false,false,1,3,r7.map OB⟩)),(8448,some (256,⟨false,true,1,30,[.sl (s.1.map OB)]⟩))]) (body:=fun s=>Ph r7 f1 set3 visit5 visit6 s.1 s.2) (s:=(visit4,0)) (_,_) ((hE ⟨rfl,r,r,r,r,r,trivial⟩ ⟨rfl,r,r,trivial⟩))<|?_
 rintro ⟨x8,x9⟩ ⟨v4x1,v13x1⟩ nn
 try dsimp only
 unfold Ph
 exact B

def AeC (b : Int × Int × Bool) : D:=.tup [.int .i64 b.1,.int .i64 b.2.1,.bool b.2.2]
noncomputable def AaI : Dw.Spec:=OH [] .ground Pg Pf (fun a=>Ul a.1 a.2) AeC noE
theorem AdL : OE Tryz.prog 48 AaI:=by
 refine fn2 2 (OL (l:=[(47,WJ),(85,Abc),(1460084820,QO)]) (by simp [ZN,AeE,WI])) Tryz.func48<|?_
 rintro ⟨f1,l2⟩
 unfold Ul
 refine A 8 ?_
 refine Tn (E:=[(2,.optr 2 _ 0 0),(3,.fptr (.agg [.sl (l2.Out.map (eL OB))]) 0)]) (O:=[(2,some (_,⟨false,true,3,40,[.agg [.int .i64 f1.Params,.sl (f1.Slots.map OK),.sl (f1.Code.map OI)]]⟩))]) ((YL (g:=3) r (by first | rfl | (simp [cells,frp,OW,Pk]; done)) (hE ⟨(by first | rfl | (simp [ON,frp]; done) | (simp [ON,frp,OW]; done) | (simp [ON,frp,OW,nbq]; done) | (simp [ON,lkO,frp,OW,frO]; done) | (simp [ON,lkO,frp,OW,frO]; rfl) | (simp [ON,lkO,frp,OW,frO,nbq]; done)),(by first | rfl | (simp [ON,frp]; done) | (simp [ON,frp,OW]; done) | (simp [ON,frp,OW,nbq]; done) | (simp [ON,lkO,frp,OW,frO]; done) | (simp [ON,lkO,frp,OW,frO]; rfl) | (simp [ON,lkO,frp,OW,frO,nbq]; done)),trivial⟩ ⟨(by first | rfl | (simp [ON,frp]; done) | (simp [ON,frp,OW]; done) | (simp [ON,frp,OW,nbq]; done) | (simp [ON,lkO,frp,OW,frO]; done) | (simp [ON,lkO,frp,OW,frO]; rfl) | (simp [ON,lkO,frp,OW,frO,nbq]; done)),trivial⟩))) fun nn=>?_
 refine A 5 ?_
 refine bD fun r3 hr3=>?_
 refine A 4 ?_
 refine cD r ?_ ?_
 ·exact B
 ·refine A 12 ?_
  refine lP (E:=fun (s : Int) (g : Nat)=>[(2,.optr 2 g 0 0),(3,.fptr (.agg [.sl (l2.Out.map (eL OB))]) 0),(15,.int .i64 (f1.Code.length : Int)),(16,.int .i64 s)]) (O:=fun _ g=>[(2,some (g,⟨false,true,3,40,[.agg [.int .i64 f1.Params,.sl (f1.Slots.map OK),.sl (f1.Code.map OI)]]⟩))]) (body:=fun s=>Um f1 l2 s) (s:=0) _ ((hE ⟨rfl,r,r,r,trivial⟩ ⟨rfl,trivial⟩))<|?_
  rintro x4 v2x1 nn
  try dsimp only
  unfold Um
  refine A 6 ?_
  refine cD r ?_ ?_
  ·refine A 10 ?_
   refine Tn (E:=[(2,.optr 2 _ 0 0),(3,.fptr (.agg [.sl (l2.Out.map (eL OB))]) 0),(7,.fptr (.int .i64 x4) 0),(15,.int .i64 (f1.Code.length : Int)),(16,.int .i64 x4)]) (O:=[(2,some (_,⟨false,true,3,40,[.agg [.int .i64 f1.Params,.sl (f1.Slots.map OK),.sl (f1.Code.map OI)]]⟩))]) ((YL (g:=7) r (by first | rfl | (simp [cells,frp,OW,Pk]; done)) (hE ⟨(by first | rfl | (simp [ON,frp]; done) | (simp [ON,frp,OW]; done) | (simp [ON,frp,OW,nbq]; done) | (simp [ON,lkO,frp,OW,frO]; done) | (simp [ON,lkO,frp,OW,frO]; rfl) | (simp [ON,lkO,frp,OW,frO,nbq]; done)),(by first | rfl | (simp [ON,frp]; done) | (simp [ON,frp,OW]; done) | (simp [ON,frp,OW,nbq]; done) | (simp [ON,lkO,frp,OW,frO]; done) | (simp [ON,lkO,frp,OW,frO]; rfl) | (simp [ON,lkO,frp,OW,frO,nbq]; done)),(by first | rfl | (simp [ON,frp]; done) | (simp [ON,frp,OW]; done) | (simp [ON,frp,OW,nbq]; done) | (simp [ON,lkO,frp,OW,frO]; done) | (simp [ON,lkO,frp,OW,frO]; rfl) | (simp [ON,lkO,frp,OW,frO,nbq]; done)),(by first | rfl | (simp [ON,frp]; done) | (simp [ON,frp,OW]; done) | (simp [ON,frp,OW,nbq]; done) | (simp [ON,lkO,frp,OW,frO]; done) | (simp [ON,lkO,frp,OW,frO]; rfl) | (simp [ON,lkO,frp,OW,frO,nbq]; done)),(by first | rfl | (simp [ON,frp]; done) | (simp [ON,frp,OW]; done) | (simp [ON,frp,OW,nbq]; done) | (simp [ON,lkO,frp,OW,frO]; done) | (simp [ON,lkO,frp,OW,frO]; rfl) | (simp [ON,lkO,frp,OW,frO,nbq]; done)),trivial⟩ ⟨(by first | rfl | (simp [ON,frp]; done) | (simp [ON,frp,OW]; done) | (simp [ON,frp,OW,nbq]; done) | (simp [ON,lkO,frp,OW,frO]; done) | (simp [ON,lkO,frp,OW,frO]; rfl) | (simp [ON,lkO,frp,OW,frO,nbq]; done)),trivial⟩))) fun nn=>?_
   refine A 10 ?_
   refine bD fun r5 hr5=>?_
   refine A 1 ?_
   refine mF (caps:=[.optr 8 _ 0 0,.fptr (.agg [.sl (l2.Out.map (eL OB))]) 0,.fptr (.int .i64 x4) 0]) r r (by simp [Aad])<|bD fun r6 hr6=>cV (f1,x4,r5,[],l2,x4) rfl rfl (show _ = some QO from by kernel_rfl) SE rfl rfl (by simp) (by first | rfl | (simp only [Ow]; rfl) | (simp only [Ox]; rfl) | (simp only [Ow,Ox]; rfl) | simp [Pt,PH,Qe,Qe]) hr6<|?_
   exact B
  ·exact B

def AeB (b : Int) : D:=.int .i64 b
noncomputable def Ya : Dw.Spec:=OH [] .ground Pg Pf (fun a=>SP a.1 a.2) AeB noE
theorem Aar : OE Tryz.prog 25 Ya:=by
 refine fn2 2 (OL (l:=[(47,WJ),(48,AaI)]) (by simp [ZN,AdL])) Tryz.func25<|?_
 intro a
 unfold SP
 exact B

def SC (a : Oy × (List Int)) : List D:=[PH a.1,.sl (a.2.map OB)]
def SB (ds : List D) : Oy × (List Int):=(RU (ds.getD 0 .top),(uL uI) (ds.getD 1 .top))
theorem Ael (a : Oy × (List Int)) : SB (SC a) = a:=by simp [SB,SC,PD (u:=uI) (en:=OB) (fun _=>rfl)]
instance : Pc SC SB:=⟨Ael⟩
def AeZ (b : Bool) : D:=.bool b
noncomputable def AaX : Dw.Spec:=OH [] .ground SC SB (fun a=>UP a.1 a.2) AeZ noE
theorem Aem : OE Tryz.prog 49 AaX:=by
 refine fn2 2 (Pb) Tryz.func49<|?_
 rintro ⟨f1,to2⟩
 unfold UP
 refine A 17 ?_
 refine cD r ?_ ?_
 ·exact B
 ·refine A 11 ?_
  refine lP (E:=fun (s : Int) (g : Nat)=>[(1,.sl (to2.map OB)),(2,.optr 2 g 0 0),(13,.sl (to2.map OB)),(14,.int .i64 (to2.length : Int)),(15,.int .i64 s)]) (O:=fun _ g=>[(2,some (g,⟨false,true,3,40,[.agg [.int .i64 f1.Params,.sl (f1.Slots.map OK),.sl (f1.Code.map OI)]]⟩))]) (body:=fun s=>UA to2 f1 s) (s:=0) _ ((hE ⟨rfl,r,r,r,r,trivial⟩ ⟨rfl,trivial⟩))<|?_
  rintro x3 v2x1 nn
  try dsimp only
  unfold UA
  exact B

def AdI (b : Bool) : D:=.bool b
noncomputable def Aap : Dw.Spec:=OH [] .ground PR PQ (fun a=>Vf a) AdI noE
theorem Ads : OE Tryz.prog 50 Aap:=by
 refine fn2 1 (OL (l:=[(56,Ve)]) (by simp [XX])) Tryz.func50<|?_
 intro a
 unfold Vf
 exact B

def QU (a : Oy × OJ) : List D:=[PH a.1,TP a.2]
def QT (ds : List D) : Oy × OJ:=(RU (ds.getD 0 .top),Aag (ds.getD 1 .top))
theorem Afx (a : Oy × OJ) : QT (QU a) = a:=by simp [QT,QU]
instance : Pc QU QT:=⟨Afx⟩
def Agd (b : Int) : D:=.int .i64 b
noncomputable def ZF : Dw.Spec:=OH [] .ground QU QT (fun a=>TX a.1 a.2) Agd noE
theorem Abk : OE Tryz.prog 26 ZF:=by
 refine fn2 2 (OL (l:=[(49,AaX),(50,Aap)]) (by simp [Aem,Ads])) Tryz.func26<|?_
 rintro ⟨f1,r2⟩
 unfold TX
 refine A 7 ?_
 refine sC (E:=fun (_s : Unit) (g : Nat × Nat)=>[(2,.optr 2 g.1 0 0),(3,.optr 3 g.2 0 0)]) (O:=fun _ g=>[(2,some (g.1,⟨false,true,3,40,[.agg [.int .i64 f1.Params,.sl (f1.Slots.map OK),.sl (f1.Code.map OI)]]⟩)),(3,some (g.2,⟨false,true,2,33,[.agg [.sl (r2.To.map OB),.sl (r2.Keep.map D.bool)]]⟩))]) (j:=fun _=>Vy f1 r2) ?_ ?_
 ·exact B
 ·rintro ⟨⟩ ⟨v2x1,v3x1⟩ nn
  try dsimp only
  unfold Vy
  refine A 10 ?_
  refine lP (E:=fun (s : Int) (g : Nat)=>[(3,.optr 3 g 0 0),(22,.sl (f1.Code.map OI)),(23,.int .i64 (f1.Code.length : Int)),(24,.int .i64 s)]) (O:=fun _ g=>[(3,some (g,⟨false,true,2,33,[.agg [.sl (r2.To.map OB),.sl (r2.Keep.map D.bool)]]⟩))]) (body:=fun s=>Vx f1 r2 s) (s:=0) _ ((hE ⟨rfl,r,r,r,trivial⟩ ⟨rfl,trivial⟩))<|?_
  rintro x4 v3x2 nn
  try dsimp only
  unfold Vx
  exact B

def PZ (a : Int × Oy × OJ × OG) : List D:=[.int .i64 a.1,.fptr (PH a.2.1) 0,.fptr (TP a.2.2.1) 0,.fptr (Qe a.2.2.2) 0]
def PY (ds : List D) : Int × Oy × OJ × OG:=(uI (ds.getD 0 .top),RU (fpD (ds.getD 1 .top)),Aag (fpD (ds.getD 2 .top)),VA (fpD (ds.getD 3 .top)))
theorem YO (a : Int × Oy × OJ × OG) : PY (PZ a) = a:=by simp [PY,PZ,uI,fpD]
instance : Pc PZ PY:=⟨YO⟩
def Za (b : Int × Bool) : D:=.tup [.int .i64 b.1,.bool b.2]
noncomputable def TM : Dw.Spec:=OH [] .ground PZ PY (fun a=>PW a.1 a.2.1 a.2.2.1 a.2.2.2) Za noE
theorem YP : OE Tryz.prog 55 TM:=by
 refine fn2 4 (OL (l:=[(56,Ve)]) (by simp [XX])) Tryz.func55<|?_
 rintro ⟨k1,cap2,cap3,cap4⟩
 unfold PW
 refine A 11 ?_
 refine bD fun x_x5 hx_x5=>?_
 refine A 9 ?_
 refine bD fun r6 hr6=>?_
 refine A 8 ?_
 refine sC (E:=fun (_s : Unit) (_g : Unit)=>[(0,.int .i64 k1),(2,.fptr (.agg [.sl (cap3.To.map OB),.sl (cap3.Keep.map D.bool)]) 0),(3,.fptr (.agg [.sl (cap4.Out.map (eL OB))]) 0),(8,.int .i64 r6.1)]) (O:=fun _ _=>[]) (j:=fun _=>Ps cap4 k1 cap3 r6) ?_ ?_
 ·exact B
 ·rintro ⟨⟩ ⟨⟩ nn
  try dsimp only
  unfold Ps
  refine A 6 ?_
  refine bD fun x_x9 hx_x9=>?_
  refine A 7 ?_
  refine lP (E:=fun (s : Int) (_g : Unit)=>[(0,.int .i64 k1),(2,.fptr (.agg [.sl (cap3.To.map OB),.sl (cap3.Keep.map D.bool)]) 0),(8,.int .i64 r6.1),(48,.sl (x_x9.map OB)),(49,.int .i64 (x_x9.length : Int)),(50,.int .i64 s)]) (O:=fun _ _=>[]) (body:=fun s=>Qf x_x9 cap3 k1 r6 s) (s:=0) () ((hE ⟨rfl,r,r,r,r,r,trivial⟩ trivial))<|?_
  rintro x10 ⟨⟩ nn
  try dsimp only
  unfold Qf
  exact B

def AkZ : Qv:=(.seq (.reg [P 3 (.box (T 0) 3 40),P 4 (.box (T 1) 1 29),P 5 (.box (T 2) 2 33),P 6 (.asg (.c .nilf) none)] false) (.seq (.reg [P 7 (.mkf 55 [(T 3),(T 5),(T 4)]),P 6 (.asg (T 7) none)] false) .ret))
theorem Amk : (Tryz.f29.body.bind (So Tryz.prog Tryz.f29.ntmps)) = some AkZ:=by kernel_rfl
theorem Aml : Tryz.f29.results.toList.mapM (Aay Tryz.prog) = some [(.t 6)]:=by kernel_rfl

def Ru (a : Oy × OG × OJ) : List D:=[PH a.1,Qe a.2.1,TP a.2.2]
def Rt (ds : List D) : Oy × OG × OJ:=(RU (ds.getD 0 .top),VA (ds.getD 1 .top),Aag (ds.getD 2 .top))
theorem AcP (a : Oy × OG × OJ) : Rt (Ru a) = a:=by simp [Rt,Ru]
instance : Pc Ru Rt:=⟨AcP⟩
def Adu (b : Int × Int × Bool) : D:=.tup [.int .i64 b.1,.int .i64 b.2.1,.bool b.2.2]
noncomputable def ZO : Dw.Spec:=OH [] .ground Ru Rt (fun a=>Tc a.1 a.2.1 a.2.2) Adu noE
noncomputable def Ys : Dw.Spec:=Agx (specs []) 3 [(.t 6)] AkZ
theorem Abs : OE Tryz.prog 29 Ys:=Alm (Pb) Tryz.func29 (by decide) Amk Aml (by decide)
theorem AcQ : OE Tryz.prog 10 ZO:=by
 refine fn2 3 (OL (l:=[(25,Ya),(26,ZF),(29,Ys),(55,TM)]) (by simp [Aar,Abk,Abs,YP])) Tryz.func10<|?_
 rintro ⟨f1,l2,r3⟩
 unfold Tc
 refine A 10 ?_
 refine sC (E:=fun (_s : Unit) (g : Nat × Nat × Nat)=>[(3,.optr 3 g.1 0 0),(4,.optr 4 g.2.1 0 0),(5,.optr 5 g.2.2 0 0)]) (O:=fun _ g=>[(3,some (g.1,⟨false,true,3,40,[.agg [.int .i64 f1.Params,.sl (f1.Slots.map OK),.sl (f1.Code.map OI)]]⟩)),(4,some (g.2.1,⟨false,true,1,29,[.agg [.sl (l2.Out.map (eL OB))]]⟩)),(5,some (g.2.2,⟨false,true,2,33,[.agg [.sl (r3.To.map OB),.sl (r3.Keep.map D.bool)]]⟩))]) (j:=fun _=>Tl f1 r3 l2) ?_ ?_
 ·exact B
 ·rintro ⟨⟩ ⟨v3x1,v4x1,v5x1⟩ nn
  try dsimp only
  unfold Tl
  refine A 5 ?_
  refine AlX (E:=fun (g : Nat)=>[(3,.optr 1003 g 0 0),(23,.agg [.int .i64 f1.Params,.sl (f1.Slots.map OK),.sl (f1.Code.map OI)]),(24,.agg [.sl (l2.Out.map (eL OB))]),(25,.agg [.sl (r3.To.map OB),.sl (r3.Keep.map D.bool)])]) (O:=fun g=>[(1003,some (g,⟨false,true,3,40,[.agg [.int .i64 f1.Params,.sl (f1.Slots.map OK),.sl (f1.Code.map OI)]]⟩))]) _ ((AiD (fun g=>bif Nat.ble 4096 g then g + 20000 else g + 1000) (by rfl) (hE ⟨rfl,r,r,r,trivial⟩ ⟨rfl,trivial⟩)))<|?_
  rintro v1003x2 nn
  try dsimp only
  refine Alr (ds:=[.agg [.int .i64 f1.Params,.sl (f1.Slots.map OK),.sl (f1.Code.map OI)],.agg [.sl (l2.Out.map (eL OB))],.agg [.sl (r3.To.map OB),.sl (r3.Keep.map D.bool)]]) (caps:=[]) (E:=[(0,.agg [.int .i64 f1.Params,.sl (f1.Slots.map OK),.sl (f1.Code.map OI)]),(1,.agg [.sl (l2.Out.map (eL OB))]),(2,.agg [.sl (r3.To.map OB),.sl (r3.Keep.map D.bool)])]) r r r r r r r r<|?_
  unfold AkZ
  refine A 7 ?_
  refine Tn (E:=[(3,.fptr (.agg [.int .i64 f1.Params,.sl (f1.Slots.map OK),.sl (f1.Code.map OI)]) 0),(4,.fptr (.agg [.sl (l2.Out.map (eL OB))]) 0),(5,.fptr (.agg [.sl (r3.To.map OB),.sl (r3.Keep.map D.bool)]) 0)]) (O:=[(1003,some (v1003x2,⟨false,true,3,40,[.agg [.int .i64 f1.Params,.sl (f1.Slots.map OK),.sl (f1.Code.map OI)]]⟩))]) ((YL (g:=3) r (by first | rfl | (simp [cells,frp,OW,Pk]; done)) (YL (g:=4) r (by first | rfl | (simp [cells,frp,OW,Pk]; done)) (YL (g:=5) r (by first | rfl | (simp [cells,frp,OW,Pk]; done)) (hE ⟨(by first | rfl | (simp [ON,frp]; done) | (simp [ON,frp,OW]; done) | (simp [ON,frp,OW,nbq]; done) | (simp [ON,lkO,frp,OW,frO]; done) | (simp [ON,lkO,frp,OW,frO]; rfl) | (simp [ON,lkO,frp,OW,frO,nbq]; done)),(by first | rfl | (simp [ON,frp]; done) | (simp [ON,frp,OW]; done) | (simp [ON,frp,OW,nbq]; done) | (simp [ON,lkO,frp,OW,frO]; done) | (simp [ON,lkO,frp,OW,frO]; rfl) | (simp [ON,lkO,frp,OW,frO,nbq]; done)),(by first | rfl | (simp [ON,frp]; done) | (simp [ON,frp,OW]; done) | (simp [ON,frp,OW,nbq]; done) | (simp [ON,lkO,frp,OW,frO]; done) | (simp [ON,lkO,frp,OW,frO]; rfl) | (simp [ON,lkO,frp,OW,frO,nbq]; done)),trivial⟩ ⟨(by first | rfl | (simp [ON,frp]; done) | (simp [ON,frp,OW]; done) | (simp [ON,frp,OW,nbq]; done) | (simp [ON,lkO,frp,OW,frO]; done) | (simp [ON,lkO,frp,OW,frO]; rfl) | (simp [ON,lkO,frp,OW,frO,nbq]; done)),trivial⟩))))) fun nn=>?_
  refine A 2 ?_
  refine mF (caps:=[.fptr (.agg [.int .i64 f1.Params,.sl (f1.Slots.map OK),.sl (f1.Code.map OI)]) 0,.fptr (.agg [.sl (r3.To.map OB),.sl (r3.Keep.map D.bool)]) 0,.fptr (.agg [.sl (l2.Out.map (eL OB))]) 0]) r r (by simp [Aad])<|?_
  refine A 4 ?_
  refine AlZ (d:=.clo 55 [.fptr (.agg [.int .i64 f1.Params,.sl (f1.Slots.map OK),.sl (f1.Code.map OI)]) 0,.fptr (.agg [.sl (r3.To.map OB),.sl (r3.Keep.map D.bool)]) 0,.fptr (.agg [.sl (l2.Out.map (eL OB))]) 0]) (E:=[(3,.optr 3 _ 0 0),(26,.clo 55 [.fptr (.agg [.int .i64 f1.Params,.sl (f1.Slots.map OK),.sl (f1.Code.map OI)]) 0,.fptr (.agg [.sl (r3.To.map OB),.sl (r3.Keep.map D.bool)]) 0,.fptr (.agg [.sl (l2.Out.map (eL OB))]) 0])]) (O:=[(3,some (_,⟨false,true,3,40,[.agg [.int .i64 f1.Params,.sl (f1.Slots.map OK),.sl (f1.Code.map OI)]]⟩))]) r (by first | rfl | (simp [SG,PA,rdA,raw,strip,QK,cells,Ql]; done) | (simp [SG,PA,rdA,raw,strip,QK,S.ge,S.go,look,Als,cells,Ql]; done)) r ((Ale (E1:=[(3,.optr 1003 v1003x2 0 0),(26,.clo 55 [.fptr (.agg [.int .i64 f1.Params,.sl (f1.Slots.map OK),.sl (f1.Code.map OI)]) 0,.fptr (.agg [.sl (r3.To.map OB),.sl (r3.Keep.map D.bool)]) 0,.fptr (.agg [.sl (l2.Out.map (eL OB))]) 0])]) (O1:=[(1003,some (v1003x2,⟨false,true,3,40,[.agg [.int .i64 f1.Params,.sl (f1.Slots.map OK),.sl (f1.Code.map OI)]]⟩))]) (hE ⟨rfl,r,trivial⟩ ⟨rfl,trivial⟩) (fun _=>AiD (fun g=>bif Nat.ble 24096 g then g - 20000 else bif (Nat.ble 1000 g && Nat.blt g 4096) then g - 1000 else g) (by rfl) (hE ⟨rfl,r,trivial⟩ ⟨rfl,trivial⟩)))) fun nn=>?_
  refine A 13 ?_
  refine lP (E:=fun (s : Int) (_g : Unit)=>[(9,.clo 55 [.fptr (.agg [.int .i64 f1.Params,.sl (f1.Slots.map OK),.sl (f1.Code.map OI)]) 0,.fptr (.agg [.sl (r3.To.map OB),.sl (r3.Keep.map D.bool)]) 0,.fptr (.agg [.sl (l2.Out.map (eL OB))]) 0]),(29,.int .i64 (f1.Code.length : Int)),(30,.int .i64 s)]) (O:=fun _ _=>[]) (body:=fun s=>Tk f1 r3 l2 s) (s:=0) () ((hE ⟨rfl,r,r,trivial⟩ trivial))<|?_
  rintro x6 ⟨⟩ nn
  try dsimp only
  unfold Tk
  exact B

def AfA (b : Int) : D:=.int .i64 b
noncomputable def YN : Dw.Spec:=OH [] .ground Ru Rt (fun a=>Rs a.1 a.2.1 a.2.2) AfA noE
theorem AaJ : OE Tryz.prog 8 YN:=by
 refine fn2 3 (OL (l:=[(25,Ya),(26,ZF),(10,ZO)]) (by simp [Aar,Abk,AcQ])) Tryz.func8<|?_
 intro a
 unfold Rs
 exact B

def Wc (_a : Unit) : List D:=[]
def Wb (_ds : List D) : Unit:=()
theorem Agt (a : Unit) : Wb (Wc a) = a:=by simp [Wb,Wc]
instance : Pc Wc Wb:=⟨Agt⟩
def Ahr (b : Bool) : D:=.bool b
noncomputable def AcS : Dw.Spec:=OH [] .ground Wc Wb (fun a=>Yc) Ahr noE
theorem Agu : OE Tryz.prog 6 AcS:=by
 refine fn2 0 (OL (l:=[(8,YN)]) (by simp [AaJ])) Tryz.func6<|?_
 intro _
 unfold Yc
 refine A 9 ?_
 refine bS ([(OO.mk 8 8),(OO.mk 8 8)] : List OO) OK r r r (by simp) r r r<|?_
 refine A 4 ?_
 refine bS ([(OA.mk 16 0 0 0 0),(OA.mk 16 1 0 0 0),(OA.mk 15 0 0 0 0),(OA.mk 23 0 0 0 0)] : List OA) OI r r r (by simp) r r r<|?_
 refine A 9 ?_
 refine bS (([] : List Int) : List Int) OB r r r (by simp) r r r<|bS (([] : List Int) : List Int) OB r r r (by simp) r r r<|bS ([([0] : List Int),([0] : List Int),([] : List Int),([] : List Int)] : List (List Int)) (eL OB) r r r (by simp) r (by simp [Wa,eL]) r<|?_
 refine A 7 ?_
 refine bS ([true,true,true,true] : List Bool) D.bool r r r (by simp) r r r<|?_
 refine A 7 ?_
 refine bS ([0,1] : List Int) OB r r r (by simp) r r r<|?_
 refine A 2 ?_
 refine bD fun r1 hr1=>?_
 refine A 3 ?_
 refine AaQ r ?_ ?_
 ·refine A 2 ?_
  refine bS ([0,0] : List Int) OB r r r (by simp) r r r<|?_
  exact B
 ·exact B

def Zl (a : (List Int) × Int) : List D:=[.sl (a.1.map eU8),.int .i64 a.2]
def Zk (ds : List D) : (List Int) × Int:=((uL uI) (ds.getD 0 .top),uI (ds.getD 1 .top))
theorem Ajs (a : (List Int) × Int) : Zk (Zl a) = a:=by simp [Zk,Zl,uI,PD (u:=uI) (en:=eU8) (fun _=>rfl)]
instance : Pc Zl Zk:=⟨Ajs⟩
def AjY (b : Mk) : D:=Pa b
noncomputable def AfJ : Dw.Spec:=OH [] (.ptr 2 91) Zl Zk (fun a=>AaY a.1 a.2) AjY noE
theorem Ajt : OE Tryz.prog 19 AfJ:=by
 refine fn2 2 (Pb) Tryz.func19<|?_
 intro a
 unfold AaY
 exact B

def Qs (a : Mk) : List D:=[Pa a]
def Qr (ds : List D) : Mk:=RB (ds.getD 0 .top)
theorem Adw (a : Mk) : Qr (Qs a) = a:=by simp [Qr,Qs]
instance : Pc Qs Qr:=⟨Adw⟩
def Aeo (b : Bool × Mk) : D:=.bool b.1
def Aen (b : Bool × Mk) : List D:=[Pa b.2]
noncomputable def AaE : Dw.Spec:=OH [(0,(2,91))] .val Qs Qr (fun a=>VZ a) Aeo Aen
theorem Adx : OE Tryz.prog 41 AaE:=by
 refine fn2 1 (Pb) Tryz.func41<|?_
 intro a
 unfold VZ
 exact B

def RW (a : Mk × Int) : List D:=[Pa a.1,.int .i64 a.2]
def RV (ds : List D) : Mk × Int:=(RB (ds.getD 0 .top),uI (ds.getD 1 .top))
theorem AdA (a : Mk × Int) : RV (RW a) = a:=by simp [RV,RW,uI]
instance : Pc RW RV:=⟨AdA⟩
def Aer (b : Int × Mk) : D:=.int .i64 b.1
def Aeq (b : Int × Mk) : List D:=[Pa b.2]
noncomputable def Pn : Dw.Spec:=OH [(0,(2,91))] .val RW RV (fun a=>OD a.1 a.2) Aer Aeq
theorem Po : OE Tryz.prog 21 Pn:=by
 refine fn2 2 (OL (l:=[(41,AaE)]) (by simp [Adx])) Tryz.func21<|?_
 rintro ⟨c1,n2⟩
 unfold OD
 refine A 5 ?_
 refine sC (E:=fun (_s : (List Int) × Int) (_g : Unit)=>[(0,.optr 8192 0 0 0),(1,.int .i64 n2)]) (O:=fun s _=>[(8192,some (0,⟨false,true,2,91,[.agg [.sl (s.1.map eU8),.int .i64 s.2]]⟩))]) (j:=fun s=>Ug n2 s.1 s.2) ?_ ?_
 ·exact B
 ·rintro ⟨c3,c4⟩ ⟨⟩ nn
  try dsimp only
  unfold Ug
  refine A 10 ?_
  refine bD fun x_x6 hx_x6=>?_
  refine A 15 ?_
  refine Yr (i:=0) (es':=[.agg [.sl (c3.map eU8),.int .i64 (IntKind.i64.wrap (c4 + 1))]]) r r r r r r r (by first | trivial | (simp; done) | (simp; omega)) r r r r r r<|?_
  exact B

def Aet (b : OO × Mk) : D:=OK b.1
def Aes (b : OO × Mk) : List D:=[Pa b.2]
noncomputable def AaG : Dw.Spec:=OH [(0,(2,91))] .val Qs Qr (fun a=>Uh a) Aet Aes
theorem AdB : OE Tryz.prog 95 AaG:=by
 refine fn2 1 (OL (l:=[(21,Pn)]) (by simp [Po])) Tryz.func95<|?_
 intro c1
 unfold Uh
 refine A 7 ?_
 refine bS ([8,4,8,1,2,16,8] : List Int) OB r r r (by simp) r r r<|?_
 refine A 1 ?_
 refine bD fun r2 hr2=>?_
 refine A 2 ?_
 refine bD fun x_e3 hx_e3=>?_
 refine A 1 ?_
 refine bS ([8,4,1,8,16,2,32,64] : List Int) OB r r r (by simp) r r r<|?_
 exact B

def AdD (b : (List OO) × Mk) : D:=.sl (b.1.map OK)
def AdC (b : (List OO) × Mk) : List D:=[Pa b.2]
noncomputable def Aak : Dw.Spec:=OH [(0,(2,91))] (.row 2 67) RW RV (fun a=>TA a.1 a.2) AdD AdC
theorem Adr : OE Tryz.prog 69 Aak:=by
 refine fn2 2 (OL (l:=[(21,Pn),(95,AaG)]) (by simp [Po,AdB])) Tryz.func69<|?_
 rintro ⟨c1,most2⟩
 unfold TA
 refine A 16 ?_
 refine bD fun r3 hr3=>?_
 refine A 5 ?_
 refine lP (E:=fun (s : (List Int) × Int × (List OO) × Int) (g : Nat)=>[(0,.optr 8192 0 0 0),(5,.osl 5 g 0 s.2.2.1.length),(6,.int .i64 s.2.2.2)]) (O:=fun s g=>[(5,some (g,⟨false,false,2,67,s.2.2.1.map OK⟩)),(8192,some (0,⟨false,true,2,91,[.agg [.sl (s.1.map eU8),.int .i64 s.2.1]]⟩))]) (body:=fun s=>TG s.1 s.2.1 s.2.2.1 s.2.2.2) (s:=(r3.2.list,r3.2.at_,([] : List OO),r3.1)) _ ((hE ⟨rfl,r,r,trivial⟩ ⟨rfl,r,trivial⟩))<|?_
 rintro ⟨c4,c5,l6,n7⟩ v5x1 nn
 try dsimp only
 unfold TG
 refine A 7 ?_
 refine cD r ?_ ?_
 ·refine A 7 ?_
  refine bD fun r8 hr8=>?_
  refine A 1 ?_
  refine bS ([r8.1] : List OO) OK r r r (by simp) r r r<|?_
  exact B
 ·exact B

def TK (a : Mk × Oy × Int) : List D:=[Pa a.1,PH a.2.1,.int .i64 a.2.2]
def TJ (ds : List D) : Mk × Oy × Int:=(RB (ds.getD 0 .top),RU (ds.getD 1 .top),uI (ds.getD 2 .top))
theorem AdG (a : Mk × Oy × Int) : TJ (TK a) = a:=by simp [TJ,TK,uI]
instance : Pc TK TJ:=⟨AdG⟩
def Aez (b : Int × Mk) : D:=.int .i64 b.1
def Aey (b : Int × Mk) : List D:=[Pa b.2]
noncomputable def XV : Dw.Spec:=OH [(0,(2,91))] .val TK TJ (fun a=>SM a.1 a.2.1 a.2.2) Aez Aey
theorem Aam : OE Tryz.prog 46 XV:=by
 refine fn2 3 (OL (l:=[(21,Pn)]) (by simp [Po])) Tryz.func46<|?_
 rintro ⟨c1,f2,s3⟩
 unfold SM
 refine A 18 ?_
 refine lP (E:=fun (s : (List Int) × Int) (g : Nat × Nat)=>[(0,.optr 8192 0 0 0),(2,.int .i64 s3),(4,.optr 4 g.1 0 0),(7,.osl 7 g.2 0 s.1.length),(8,.int .i64 s.2)]) (O:=fun s g=>[(4,some (g.1,⟨false,true,3,40,[.agg [.int .i64 f2.Params,.sl (f2.Slots.map OK),.sl (f2.Code.map OI)]]⟩)),(7,some (g.2,⟨false,false,1,3,s.1.map OB⟩)),(8192,some (0,⟨false,true,2,91,[.agg [.sl (c1.list.map eU8),.int .i64 c1.at_]]⟩))]) (body:=fun s=>Uk f2 s3 c1 s.1 s.2) (s:=(([] : List Int),0)) (_,_) ((hE ⟨rfl,r,r,r,r,trivial⟩ ⟨rfl,r,r,trivial⟩))<|?_
 rintro ⟨l4,k5⟩ ⟨v4x1,v7x1⟩ nn
 try dsimp only
 unfold Uk
 exact B

def Aev (b : Int × Mk) : D:=.int .u64 b.1
def Aeu (b : Int × Mk) : List D:=[Pa b.2]
noncomputable def XU : Dw.Spec:=OH [(0,(2,91))] .val Qs Qr (fun a=>SL a) Aev Aeu
theorem Aal : OE Tryz.prog 38 XU:=by
 refine fn2 1 (OL (l:=[(21,Pn)]) (by simp [Po])) Tryz.func38<|?_
 intro a
 unfold SL
 exact B

def TI (a : Mk × Oy × Int × (List Int)) : List D:=[Pa a.1,PH a.2.1,.int .i64 a.2.2.1,.sl (a.2.2.2.map OB)]
def TH (ds : List D) : Mk × Oy × Int × (List Int):=(RB (ds.getD 0 .top),RU (ds.getD 1 .top),uI (ds.getD 2 .top),(uL uI) (ds.getD 3 .top))
theorem AdE (a : Mk × Oy × Int × (List Int)) : TH (TI a) = a:=by simp [TH,TI,uI,PD (u:=uI) (en:=OB) (fun _=>rfl)]
instance : Pc TI TH:=⟨AdE⟩
def Aex (b : (List OA) × Mk) : D:=.sl (b.1.map OI)
def Aew (b : (List OA) × Mk) : List D:=[Pa b.2]
noncomputable def AaH : Dw.Spec:=OH [(0,(2,91))] (.row 5 69) TI TH (fun a=>Ui a.1 a.2.1 a.2.2.1 a.2.2.2) Aex Aew
theorem AdF : OE Tryz.prog 70 AaH:=by
 refine fn2 4 (OL (l:=[(21,Pn),(46,XV),(38,XU)]) (by simp [Po,Aam,Aal])) Tryz.func70<|?_
 rintro ⟨c1,f2,i3,params4⟩
 unfold Ui
 refine A 9 ?_
 refine bD fun r5 hr5=>?_
 refine A 15 ?_
 refine bD fun r6 hr6=>?_
 refine A 4 ?_
 refine bC (E:=fun (_s : Unit) (_g : Unit)=>[(9,.int .i64 r5.1)]) (O:=fun _ _=>[(8192,some (0,⟨false,true,2,91,[.agg [.sl (r6.2.list.map eU8),.int .i64 r6.2.at_]]⟩))]) (j:=fun _=>WG r5 r6) ?_ ?_
 ·refine sC (E:=fun (s : Bool) (g : Nat)=>[(0,.optr 8192 0 0 0),(2,.int .i64 i3),(3,.sl (params4.map OB)),(5,.optr 5 g 0 0),(9,.int .i64 r5.1),(10,.int .i64 (f2.Slots.length : Int)),(11,.int .i64 r6.1),(23,.bool s)]) (O:=fun _ g=>[(5,some (g,⟨false,true,3,40,[.agg [.int .i64 f2.Params,.sl (f2.Slots.map OK),.sl (f2.Code.map OI)]]⟩)),(8192,some (0,⟨false,true,2,91,[.agg [.sl (r6.2.list.map eU8),.int .i64 r6.2.at_]]⟩))]) (j:=fun s=>Rk r6 f2 r5 params4 i3 s) ?_ ?_
  ·exact B
  ·rintro x7 v5x1 nn
   try dsimp only
   unfold Rk
   refine cD r ?_ ?_
   ·refine A 4 ?_
    refine bD fun r8 hr8=>?_
    refine A 3 ?_
    refine bS ([(OA.mk 16 r8.1 r5.1 0 0)] : List OA) OI r r r (by simp) r r r<|?_
    exact B
   ·refine sC (E:=fun (s : Bool) (g : Nat)=>[(0,.optr 8192 0 0 0),(2,.int .i64 i3),(3,.sl (params4.map OB)),(5,.optr 5 g 0 0),(9,.int .i64 r5.1),(10,.int .i64 (f2.Slots.length : Int)),(11,.int .i64 r6.1),(36,.bool s)]) (O:=fun _ g=>[(5,some (g,⟨false,true,3,40,[.agg [.int .i64 f2.Params,.sl (f2.Slots.map OK),.sl (f2.Code.map OI)]]⟩)),(8192,some (0,⟨false,true,2,91,[.agg [.sl (r6.2.list.map eU8),.int .i64 r6.2.at_]]⟩))]) (j:=fun s=>Rl r6 f2 r5 params4 i3 s) ?_ ?_
    ·exact B
    ·rintro x9 v5x2 nn
     try dsimp only
     unfold Rl
     refine cD r ?_ ?_
     ·refine A 5 ?_
      refine bD fun r10 hr10=>?_
      refine A 2 ?_
      refine bS ([(OA.mk 15 r5.1 r10.1 0 0)] : List OA) OI r r r (by simp) r r r<|?_
      exact B
     ·refine sC (E:=fun (s : Bool) (g : Nat)=>[(0,.optr 8192 0 0 0),(2,.int .i64 i3),(3,.sl (params4.map OB)),(5,.optr 5 g 0 0),(9,.int .i64 r5.1),(10,.int .i64 (f2.Slots.length : Int)),(11,.int .i64 r6.1),(49,.bool s)]) (O:=fun _ g=>[(5,some (g,⟨false,true,3,40,[.agg [.int .i64 f2.Params,.sl (f2.Slots.map OK),.sl (f2.Code.map OI)]]⟩)),(8192,some (0,⟨false,true,2,91,[.agg [.sl (r6.2.list.map eU8),.int .i64 r6.2.at_]]⟩))]) (j:=fun s=>Rm r6 f2 r5 params4 i3 s) ?_ ?_
      ·exact B
      ·rintro x11 v5x3 nn
       try dsimp only
       unfold Rm
       refine cD r ?_ ?_
       ·refine A 4 ?_
        refine bD fun r12 hr12=>?_
        refine A 9 ?_
        refine bD fun r13 hr13=>?_
        refine A 3 ?_
        refine bS ([(OA.mk 17 r13.1 r12.1 0 0)] : List OA) OI r r r (by simp) r r r<|?_
        exact B
       ·refine A 7 ?_
        refine cD r ?_ ?_
        ·refine A 4 ?_
         refine bD fun r14 hr14=>?_
         refine A 2 ?_
         refine bS ([(OA.mk 0 r5.1 0 0 r14.1)] : List OA) OI r r r (by simp) r r r<|?_
         exact B
        ·refine A 7 ?_
         refine cD r ?_ ?_
         ·refine A 3 ?_
          refine bD fun r15 hr15=>?_
          refine A 4 ?_
          refine bD fun r16 hr16=>?_
          refine A 2 ?_
          refine bD fun r17 hr17=>?_
          refine A 2 ?_
          refine bS ([(OA.mk (IntKind.i64.wrap (2 + r15.1)) r5.1 r16.1 r17.1 0)] : List OA) OI r r r (by simp) r r r<|?_
          exact B
         ·refine A 7 ?_
          refine cD r ?_ ?_
          ·refine A 4 ?_
           refine bS ([(OA.mk 14 r5.1 0 0 0)] : List OA) OI r r r (by simp) r r r<|?_
           exact B
          ·refine A 7 ?_
           refine cD r ?_ ?_
           ·refine A 2 ?_
            refine bS ([13,12,1] : List Int) OB r r r (by simp) r r r<|?_
            refine A 1 ?_
            refine bD fun r18 hr18=>?_
            refine A 2 ?_
            refine bD fun x_e19 hx_e19=>?_
            refine A 3 ?_
            refine bS ([(OA.mk x_e19 r5.1 0 0 0)] : List OA) OI r r r (by simp) r r r<|?_
            exact B
           ·refine sC (E:=fun (s : Bool) (g : Nat)=>[(0,.optr 8192 0 0 0),(2,.int .i64 i3),(3,.sl (params4.map OB)),(5,.optr 5 g 0 0),(9,.int .i64 r5.1),(11,.int .i64 r6.1),(104,.bool s)]) (O:=fun _ g=>[(5,some (g,⟨false,true,3,40,[.agg [.int .i64 f2.Params,.sl (f2.Slots.map OK),.sl (f2.Code.map OI)]]⟩)),(8192,some (0,⟨false,true,2,91,[.agg [.sl (r6.2.list.map eU8),.int .i64 r6.2.at_]]⟩))]) (j:=fun s=>Rn r6 f2 r5 params4 i3 s) ?_ ?_
            ·exact B
            ·rintro x20 v5x4 nn
             try dsimp only
             unfold Rn
             refine cD r ?_ ?_
             ·refine A 6 ?_
              refine bD fun r21 hr21=>?_
              refine A 2 ?_
              refine bS ([(OA.mk 19 r5.1 r21.1 0 0)] : List OA) OI r r r (by simp) r r r<|?_
              exact B
             ·refine sC (E:=fun (s : Bool) (_g : Unit)=>[(0,.optr 8192 0 0 0),(2,.int .i64 i3),(3,.sl (params4.map OB)),(9,.int .i64 r5.1),(119,.bool s)]) (O:=fun _ _=>[(8192,some (0,⟨false,true,2,91,[.agg [.sl (r6.2.list.map eU8),.int .i64 r6.2.at_]]⟩))]) (j:=fun s=>Ro r6 params4 i3 r5 s) ?_ ?_
              ·exact B
              ·rintro x22 ⟨⟩ nn
               try dsimp only
               unfold Ro
               refine cD r ?_ ?_
               ·refine A 10 ?_
                refine bD fun r23 hr23=>?_
                refine A 17 ?_
                refine lP (E:=fun (s : (List Int) × Int × (List OA) × Int) (g : Nat)=>[(0,.optr 8192 0 0 0),(3,.sl (params4.map OB)),(13,.int .i64 (IntKind.i64.wrap ((IntKind.i64.wrap (i3 + 1)) + r23.1))),(14,.osl 14 g 0 s.2.2.1.length),(15,.int .i64 s.2.2.2)]) (O:=fun s g=>[(14,some (g,⟨false,false,5,69,s.2.2.1.map OI⟩)),(8192,some (0,⟨false,true,2,91,[.agg [.sl (s.1.map eU8),.int .i64 s.2.1]]⟩))]) (body:=fun s=>Uj params4 i3 r23 s.1 s.2.1 s.2.2.1 s.2.2.2) (s:=(r23.2.list,r23.2.at_,([] : List OA),0)) _ ((hE ⟨rfl,r,r,r,r,trivial⟩ ⟨rfl,r,trivial⟩))<|?_
                rintro ⟨c24,c25,out26,a27⟩ v14x6 nn
                try dsimp only
                unfold Uj
                refine A 6 ?_
                refine bD fun x_x28 hx_x28=>?_
                refine A 5 ?_
                refine cD r ?_ ?_
                ·refine A 7 ?_
                 refine bD fun r29 hr29=>?_
                 refine A 4 ?_
                 refine cD r ?_ ?_
                 ·refine A 4 ?_
                  refine bD fun r30 hr30=>?_
                  refine A 2 ?_
                  refine bS ([(OA.mk 18 a27 r30.1 0 0)] : List OA) OI r r r (by simp) r r r<|?_
                  exact B
                 ·exact B
                ·refine A 10 ?_
                 refine bS ([(OA.mk 22 (IntKind.i64.wrap ((IntKind.i64.wrap (i3 + 1)) + r23.1)) 0 0 0)] : List OA) OI r r r (by simp) r r r<|?_
                 exact B
               ·exact B
 ·rintro ⟨⟩ ⟨⟩ nn
  try dsimp only
  unfold WG
  refine A 4 ?_
  refine bS ([(OA.mk 14 r5.1 0 0 0)] : List OA) OI r r r (by simp) r r r<|?_
  exact B

def RR (a : Mk × Int × (List Int) × Int) : List D:=[Pa a.1,.int .i64 a.2.1,.sl (a.2.2.1.map OB),.int .i64 a.2.2.2]
def RQ (ds : List D) : Mk × Int × (List Int) × Int:=(RB (ds.getD 0 .top),uI (ds.getD 1 .top),(uL uI) (ds.getD 2 .top),uI (ds.getD 3 .top))
theorem AbP (a : Mk × Int × (List Int) × Int) : RQ (RR a) = a:=by simp [RQ,RR,uI,PD (u:=uI) (en:=OB) (fun _=>rfl)]
instance : Pc RR RQ:=⟨AbP⟩
def YT (b : Oy × Mk) : D:=PH b.1
def Aci (b : Oy × Mk) : List D:=[Pa b.2]
noncomputable def YU : Dw.Spec:=OH [(0,(2,91))] .val RR RQ (fun a=>RX a.1 a.2.1 a.2.2.1 a.2.2.2) YT Aci
theorem AbQ : OE Tryz.prog 40 YU:=by
 refine fn2 4 (OL (l:=[(69,Aak),(21,Pn),(70,AaH),(38,XU)]) (by simp [Adr,Po,AdF,Aal])) Tryz.func40<|?_
 rintro ⟨c1,i2,params3,most4⟩
 unfold RX
 refine A 9 ?_
 refine bD fun x_x5 hx_x5=>?_
 refine A 3 ?_
 refine bD fun r6 hr6=>?_
 refine A 18 ?_
 refine lP (E:=fun (s : (List Int) × Int × (List OA) × Int) (g : Nat × Nat × Nat × Nat)=>[(0,.optr 8192 0 0 0),(1,.int .i64 i2),(2,.sl (params3.map OB)),(3,.int .i64 most4),(8,.optr 8 g.1 0 0),(9,.optr 9 g.2.1 0 0),(10,.osl 10 g.2.2.1 0 s.2.2.1.length),(11,.int .i64 s.2.2.2)]) (O:=fun s g=>[(8,some (g.1,⟨false,true,3,40,[.agg [.int .i64 0,.nils,.nils]]⟩)),(9,some (g.2.1,⟨false,true,3,40,[.agg [.int .i64 x_x5,.osl 21 g.2.2.2 0 r6.1.length,.nils]]⟩)),(10,some (g.2.2.1,⟨false,false,5,69,s.2.2.1.map OI⟩)),(21,some (g.2.2.2,⟨false,false,2,67,r6.1.map OK⟩)),(8192,some (0,⟨false,true,2,91,[.agg [.sl (s.1.map eU8),.int .i64 s.2.1]]⟩))]) (body:=fun s=>Sr r6 most4 x_x5 i2 params3 s.1 s.2.1 s.2.2.1 s.2.2.2) (s:=(r6.2.list,r6.2.at_,([] : List OA),0)) (_,_,_,_) ((hE ⟨rfl,r,r,r,r,r,r,r,trivial⟩ ⟨rfl,r,r,r,r,trivial⟩))<|?_
 rintro ⟨c7,c8,code9,s10⟩ ⟨v8x1,v9x1,v10x1,v21x1⟩ nn
 try dsimp only
 unfold Sr
 refine A 10 ?_
 refine cD r ?_ ?_
 ·refine A 7 ?_
  refine bD fun r11 hr11=>?_
  refine A 4 ?_
  refine cD r ?_ ?_
  ·refine A 4 ?_
   refine bD fun r12 hr12=>?_
   refine A 2 ?_
   refine bS ([(OA.mk 16 s10 r12.1 0 0)] : List OA) OI r r r (by simp) r r r<|?_
   exact B
  ·exact B
 ·refine A 11 ?_
  refine bD fun r13 hr13=>?_
  refine A 5 ?_
  refine lP (E:=fun (s : (List Int) × Int × (List OA) × (List OO) × Int) (g : Nat × Nat × Nat)=>[(0,.optr 8192 0 0 0),(1,.int .i64 i2),(2,.sl (params3.map OB)),(8,.optr 8 g.1 0 0),(9,.optr 9 g.2.1 0 0),(10,.osl 10 g.2.2 0 s.2.2.1.length),(12,.int .i64 s.2.2.2.2)]) (O:=fun s g=>[(8,some (g.1,⟨false,true,3,40,[.agg [.int .i64 0,.nils,.nils]]⟩)),(9,some (g.2.1,⟨false,true,3,40,[.agg [.int .i64 x_x5,.sl (s.2.2.2.1.map OK),.nils]]⟩)),(10,some (g.2.2,⟨false,false,5,69,s.2.2.1.map OI⟩)),(8192,some (0,⟨false,true,2,91,[.agg [.sl (s.1.map eU8),.int .i64 s.2.1]]⟩))]) (body:=fun s=>Ss x_x5 i2 params3 s.1 s.2.1 s.2.2.1 s.2.2.2.1 s.2.2.2.2) (s:=(r13.2.list,r13.2.at_,code9,r6.1,r13.1)) (_,_,_) ((ZS [(21,some (_,⟨true,false,2,67,r6.1.map OK⟩))] ⟨⟨_,_,r,r,r⟩,trivial⟩ ⟨(Pe r),(Pe r),(Pe r),(Pe r),(Pe r),(Pe r),(Pe r),trivial⟩ ⟨(.inl r),(.inr ⟨_,_,_,_,r,r,r,r,YJ r ⟨(Ub r),(WD (l:=r6.1) (en:=OK) r r r (by simp)),(Ub r),trivial⟩⟩),(.inl r),(.inl r),trivial⟩))<|?_
  rintro ⟨c14,c15,code16,f17,n18⟩ ⟨v8x2,v9x2,v10x2⟩ nn
  try dsimp only
  unfold Ss
  refine A 7 ?_
  refine cD r ?_ ?_
  ·refine A 11 ?_
   refine bD fun r19 hr19=>?_
   refine A 8 ?_
   refine bD fun r20 hr20=>?_
   refine A 10 ?_
   refine cD r ?_ ?_
   ·refine A 3 ?_
    refine bD fun r21 hr21=>?_
    refine A 2 ?_
    refine bS ([(OA.mk 21 r21.1 (-1) 0 0)] : List OA) OI r r r (by simp) r r r<|?_
    exact B
   ·refine A 6 ?_
    refine cD r ?_ ?_
    ·refine A 3 ?_
     refine bD fun r22 hr22=>?_
     refine A 4 ?_
     refine cD r ?_ ?_
     ·refine A 3 ?_
      refine bS ([(OA.mk 20 (-1) 0 0 0)] : List OA) OI r r r (by simp) r r r<|?_
      exact B
     ·exact B
    ·exact B
  ·refine A 12 ?_
   refine sC (E:=fun (_s : (List Int) × Int × Int × Int) (g : Nat × Nat × Nat × Nat)=>[(0,.optr 8192 0 0 0),(8,.optr 8 g.1 0 0),(9,.optr 9 g.2.1 0 0),(10,.osl 10 g.2.2.1 0 code16.length),(13,.optr 13 g.2.2.2 0 0)]) (O:=fun s g=>[(8,some (g.1,⟨false,true,3,40,[.agg [.int .i64 0,.nils,.nils]]⟩)),(9,some (g.2.1,⟨false,true,3,40,[.agg [.int .i64 x_x5,.sl (f17.map OK),.nils]]⟩)),(10,some (g.2.2.1,⟨false,false,5,69,code16.map OI⟩)),(13,some (g.2.2.2,⟨false,true,5,69,[.agg [.int .i64 s.2.2.1,.int .i64 0,.int .i64 0,.int .i64 0,.int .u64 s.2.2.2]]⟩)),(8192,some (0,⟨false,true,2,91,[.agg [.sl (s.1.map eU8),.int .i64 s.2.1]]⟩))]) (j:=fun s=>Qn code16 x_x5 f17 s.1 s.2.1 s.2.2.1 s.2.2.2) ?_ ?_
   ·exact B
   ·rintro ⟨c23,c24,end25,end26⟩ ⟨v8x3,v9x3,v10x3,v13x3⟩ nn
    try dsimp only
    unfold Qn
    refine A 4 ?_
    refine bS ([(OA.mk end25 0 0 0 end26)] : List OA) OI r r r (by simp) r r r<|cK fun hq=>aP (code16) (([(OA.mk end25 0 0 0 end26)] : List OA)) OI r r r r r r r (by simp) (SU _ _ r) r r (by simp) (RL _ _ r) (fun _=>r) r hq<|?_
    refine A 10 ?_
    refine lP (E:=fun (s : (List Int) × Int × (List OA) × Int) (g : Nat × Nat × Nat)=>[(0,.optr 8192 0 0 0),(8,.optr 8 g.1 0 0),(9,.optr 9 g.2.1 0 0),(10,.osl 10 g.2.2 0 s.2.2.1.length),(14,.int .i64 s.2.2.2)]) (O:=fun s g=>[(8,some (g.1,⟨false,true,3,40,[.agg [.int .i64 0,.nils,.nils]]⟩)),(9,some (g.2.1,⟨false,true,3,40,[.agg [.int .i64 x_x5,.sl (f17.map OK),.nils]]⟩)),(10,some (g.2.2,⟨false,false,5,69,s.2.2.1.map OI⟩)),(8192,some (0,⟨false,true,2,91,[.agg [.sl (s.1.map eU8),.int .i64 s.2.1]]⟩))]) (body:=fun s=>QY x_x5 f17 s.1 s.2.1 s.2.2.1 s.2.2.2) (s:=(c23,c24,code16 ++ ([(OA.mk end25 0 0 0 end26)] : List OA),0)) (_,_,_) ((hE ⟨rfl,r,r,r,r,trivial⟩ ⟨rfl,r,r,r,trivial⟩))<|?_
    rintro ⟨c29,c30,code31,k32⟩ ⟨v8x4,v9x4,v10x4⟩ nn
    try dsimp only
    unfold QY
    refine A 9 ?_
    refine cD r ?_ ?_
    ·refine A 8 ?_
     refine bD fun r33 hr33=>?_
     refine A 6 ?_
     refine sC (E:=fun (s : Int) (g : Nat × Nat × Nat)=>[(0,.optr 8192 0 0 0),(8,.optr 8 g.1 0 0),(9,.optr 9 g.2.1 0 0),(10,.osl 10 g.2.2 0 code31.length),(14,.int .i64 k32),(15,.int .i64 s)]) (O:=fun _ g=>[(8,some (g.1,⟨false,true,3,40,[.agg [.int .i64 0,.nils,.nils]]⟩)),(9,some (g.2.1,⟨false,true,3,40,[.agg [.int .i64 x_x5,.sl (f17.map OK),.nils]]⟩)),(10,some (g.2.2,⟨false,false,5,69,code31.map OI⟩)),(8192,some (0,⟨false,true,2,91,[.agg [.sl (r33.2.list.map eU8),.int .i64 r33.2.at_]]⟩))]) (j:=fun s=>PE k32 code31 r33 s) ?_ ?_
     ·exact B
     ·rintro to34 ⟨v8x5,v9x5,v10x5⟩ nn
      try dsimp only
      unfold PE
      refine A 1 ?_
      refine sC (E:=fun (s : Bool) (g : Nat × Nat × Nat)=>[(0,.optr 8192 0 0 0),(8,.optr 8 g.1 0 0),(9,.optr 9 g.2.1 0 0),(10,.osl 10 g.2.2 0 code31.length),(14,.int .i64 k32),(15,.int .i64 to34),(107,.bool s)]) (O:=fun _ g=>[(8,some (g.1,⟨false,true,3,40,[.agg [.int .i64 0,.nils,.nils]]⟩)),(9,some (g.2.1,⟨false,true,3,40,[.agg [.int .i64 x_x5,.sl (f17.map OK),.nils]]⟩)),(10,some (g.2.2,⟨false,false,5,69,code31.map OI⟩)),(8192,some (0,⟨false,true,2,91,[.agg [.sl (r33.2.list.map eU8),.int .i64 r33.2.at_]]⟩))]) (j:=fun s=>QZ k32 code31 r33 to34 s) ?_ ?_
      ·exact B
      ·rintro x35 ⟨v8x6,v9x6,v10x6⟩ nn
       try dsimp only
       unfold QZ
       refine cD r ?_ ?_
       ·refine A 6 ?_
        refine bD fun code_o38 hcode_o38=>sE (l:=code31) (en:=OI) (q':=(OA.mk code_o38.Op to34 code_o38.B code_o38.C code_o38.Imm)) r r r r r r r (by simp) hcode_o38 r r r r r<|?_
        exact B
       ·refine A 6 ?_
        refine bD fun code_e39 hcode_e39=>?_
        refine A 3 ?_
        refine AaQ r ?_ ?_
        ·refine A 4 ?_
         refine bD fun code_e40 hcode_e40=>?_
         refine A 6 ?_
         refine cD r ?_ ?_
         ·refine A 6 ?_
          refine bD fun code_o41 hcode_o41=>sE (l:=code31) (en:=OI) (q':=(OA.mk code_o41.Op code_o41.A to34 code_o41.C code_o41.Imm)) r r r r r r r (by simp) hcode_o41 r r r r r<|?_
          exact B
         ·exact B
        ·exact B
    ·refine A 19 ?_
     refine TW (b:=((Oy.mk x_x5 f17 code31),(Mk.mk c29 c30))) r ?_ r r ?_ (by first | rfl | (simp only [Ow]; rfl) | (simp only [Ox]; rfl) | (simp only [Ow,Ox]; rfl) | simp [YT,PH])
     all_goals first|(simp;done)|(simp;omega)|rfl|(simp [Pk,Pp];done)

def Sq (a : Mk × Int × Int) : List D:=[Pa a.1,.int .i64 a.2.1,.int .i64 a.2.2]
def Sp (ds : List D) : Mk × Int × Int:=(RB (ds.getD 0 .top),uI (ds.getD 1 .top),uI (ds.getD 2 .top))
theorem Acg (a : Mk × Int × Int) : Sp (Sq a) = a:=by simp [Sp,Sq,uI]
instance : Pc Sq Sp:=⟨Acg⟩
def AcG (b : OV × Mk) : D:=RZ b.1
def AcF (b : OV × Mk) : List D:=[Pa b.2]
noncomputable def Zj : Dw.Spec:=OH [(0,(2,91))] .val Sq Sp (fun a=>SD a.1 a.2.1 a.2.2) AcG AcF
theorem Ach : OE Tryz.prog 20 Zj:=by
 refine fn2 3 (OL (l:=[(21,Pn),(40,YU)]) (by simp [Po,AbQ])) Tryz.func20<|?_
 rintro ⟨c1,funcs2,most3⟩
 unfold SD
 refine A 16 ?_
 refine bD fun r4 hr4=>?_
 refine A 5 ?_
 refine lP (E:=fun (s : (List Int) × Int × (List Int) × Int) (g : Nat × Nat)=>[(0,.optr 8192 0 0 0),(2,.int .i64 most3),(6,.optr 6 g.1 0 0),(7,.osl 7 g.2 0 s.2.2.1.length),(8,.int .i64 s.2.2.2)]) (O:=fun s g=>[(6,some (g.1,⟨false,true,1,26,[.agg [.nils]]⟩)),(7,some (g.2,⟨false,false,1,3,s.2.2.1.map OB⟩)),(8192,some (0,⟨false,true,2,91,[.agg [.sl (s.1.map eU8),.int .i64 s.2.1]]⟩))]) (body:=fun s=>SH most3 s.1 s.2.1 s.2.2.1 s.2.2.2) (s:=(r4.2.list,r4.2.at_,([0] : List Int),r4.1)) (_,_) ((hE ⟨rfl,r,r,r,r,trivial⟩ ⟨rfl,r,r,trivial⟩))<|?_
 rintro ⟨c5,c6,params7,n8⟩ ⟨v6x1,v7x1⟩ nn
 try dsimp only
 unfold SH
 refine A 7 ?_
 refine cD r ?_ ?_
 ·exact B
 ·refine A 17 ?_
  refine lP (E:=fun (s : (List Int) × Int × (List Oy) × Int × (List Int)) (g : Nat × Nat)=>[(0,.optr 8192 0 0 0),(2,.int .i64 most3),(6,.optr 6 g.1 0 0),(7,.sl (s.2.2.2.2.map OB)),(9,.optr 9 g.2 0 0),(10,.int .i64 s.2.2.2.1)]) (O:=fun s g=>[(6,some (g.1,⟨false,true,1,26,[.agg [.nils]]⟩)),(9,some (g.2,⟨false,true,1,26,[.agg [.sl (s.2.2.1.map PH)]]⟩)),(8192,some (0,⟨false,true,2,91,[.agg [.sl (s.1.map eU8),.int .i64 s.2.1]]⟩))]) (body:=fun s=>SI most3 s.1 s.2.1 s.2.2.1 s.2.2.2.1 s.2.2.2.2) (s:=(c5,c6,[],0,params7)) (_,_) ((ZS [(7,some (_,⟨true,false,1,3,params7.map OB⟩))] ⟨⟨_,_,r,r,r⟩,trivial⟩ ⟨(Pe r),(Pe r),(Pe r),(YS (WD (l:=params7) (en:=OB) r r r (by simp))),(Pe r),(Pe r),trivial⟩ ⟨(.inl r),(.inr ⟨_,_,_,_,r,r,r,r,YJ r ⟨(WC PH r),trivial⟩⟩),(.inl r),trivial⟩))<|?_
  rintro ⟨c10,c11,p12,i13,params14⟩ ⟨v6x2,v9x2⟩ nn
  try dsimp only
  unfold SI
  refine A 9 ?_
  refine cD r ?_ ?_
  ·refine A 13 ?_
   refine bD fun r15 hr15=>?_
   refine A 1 ?_
   refine bS ([r15.1] : List Oy) PH r r r (by simp) r r r<|?_
   refine A 16 ?_
   exact wf [11] fun _=>B
  ·exact B

def AiS (b : (List Int)) : D:=.sl (b.map OB)
noncomputable def Abf : Dw.Spec:=OH [] (.row 1 3) VC VB (fun a=>Xk a.1 a.2) AiS noE
theorem AcY : OE Tryz.prog 51 Abf:=by
 refine fn2 2 (Pb) Tryz.func51<|?_
 rintro ⟨f1,k2⟩
 unfold Xk
 refine A 6 ?_
 refine sC (E:=fun (_s : Unit) (g : Nat)=>[(1,.int .i64 k2),(2,.optr 2 g 0 0)]) (O:=fun _ g=>[(2,some (g,⟨false,true,3,40,[.agg [.int .i64 f1.Params,.sl (f1.Slots.map OK),.sl (f1.Code.map OI)]]⟩))]) (j:=fun _=>Yz f1 k2) ?_ ?_
 ·exact B
 ·rintro ⟨⟩ v2x1 nn
  try dsimp only
  unfold Yz
  refine A 5 ?_
  refine bD fun x_x3 hx_x3=>?_
  refine A 20 ?_
  refine cD r ?_ ?_
  ·exact B
  ·refine sC (E:=fun (s : Bool) (g : Nat)=>[(1,.int .i64 k2),(5,.optr 5 g 0 0),(21,.int .i64 x_x3.Op),(27,.bool s)]) (O:=fun _ g=>[(5,some (g,⟨false,true,5,69,[.agg [.int .i64 x_x3.Op,.int .i64 x_x3.A,.int .i64 x_x3.B,.int .i64 x_x3.C,.int .u64 x_x3.Imm]]⟩))]) (j:=fun s=>QH x_x3 k2 s) ?_ ?_
   ·exact B
   ·rintro x4 v5x2 nn
    try dsimp only
    unfold QH
    refine cD r ?_ ?_
    ·exact B
    ·refine A 6 ?_
     refine cD r ?_ ?_
     ·refine A 11 ?_
      refine cD r ?_ ?_
      ·refine A 6 ?_
       refine bS ([x_x3.B,IntKind.i64.wrap (k2 + 1)] : List Int) OB r r r (by simp) r r r<|?_
       exact B
      ·refine A 10 ?_
       refine cD r ?_ ?_
       ·refine A 6 ?_
        refine bS ([IntKind.i64.wrap (k2 + 1),x_x3.B] : List Int) OB r r r (by simp) r r r<|?_
        exact B
       ·exact B
     ·exact B

def AeF (b : Bool) : D:=.bool b
noncomputable def Yb : Dw.Spec:=OH [] .ground PR PQ (fun a=>QX a) AeF noE
theorem Aav : OE Tryz.prog 60 Yb:=by
 refine fn2 1 (Pb) Tryz.func60<|?_
 intro a
 unfold QX
 exact B

def AfN (b : Int × Bool) : D:=.tup [.int .i64 b.1,.bool b.2]
noncomputable def Uq : Dw.Spec:=OH [] .ground PR PQ (fun a=>Rb a) AfN noE
theorem Vg : OE Tryz.prog 61 Uq:=by
 refine fn2 1 (OL (l:=[(60,Yb)]) (by simp [Aav])) Tryz.func61<|?_
 intro a
 unfold Rb
 exact B

def AgD (b : (List Int)) : D:=.sl (b.map OB)
noncomputable def Aab : Dw.Spec:=OH [] (.row 1 3) Qp Qo (fun a=>US a.1 a.2) AgD noE
theorem AbA : OE Tryz.prog 43 Aab:=by
 refine fn2 2 (Pb) Tryz.func43<|?_
 rintro ⟨s1,n2⟩
 unfold US
 refine A 17 ?_
 refine lP (E:=fun (s : (List Int) × Int) (g : Nat)=>[(0,.sl (s1.map OB)),(1,.int .i64 n2),(5,.osl 5 g 0 s.1.length),(6,.int .i64 s.2)]) (O:=fun s g=>[(5,some (g,⟨false,false,1,3,s.1.map OB⟩))]) (body:=fun s=>RG s1 n2 s.1 s.2) (s:=(([] : List Int),0)) _ ((hE ⟨rfl,r,r,r,trivial⟩ ⟨rfl,trivial⟩))<|?_
 rintro ⟨out3,i4⟩ v5x1 nn
 try dsimp only
 unfold RG
 exact B

def AiT (b : (List Int)) : D:=.sl (b.map OB)
noncomputable def Abh : Dw.Spec:=OH [] (.row 1 3) PR PQ (fun a=>Tj a) AiT noE
theorem AcZ : OE Tryz.prog 63 Abh:=by
 refine fn2 1 (Pb) Tryz.func63<|?_
 intro a
 unfold Tj
 exact B

def AiR (b : Bool) : D:=.bool b
noncomputable def Abe : Dw.Spec:=OH [] .ground Py Px (fun a=>Up a) AiR noE
theorem AcW : OE Tryz.prog 71 Abe:=by
 refine fn2 1 (Pb) Tryz.func71<|?_
 intro a
 unfold Up
 exact B

def AjB (b : (List Int)) : D:=.sl (b.map OB)
noncomputable def VP : Dw.Spec:=OH [] (.row 1 3) Qp Qo (fun a=>RJ a.1 a.2) AjB noE
theorem WL : OE Tryz.prog 42 VP:=by
 refine fn2 2 (OL (l:=[(71,Abe)]) (by simp [AcW])) Tryz.func42<|?_
 rintro ⟨s1,n2⟩
 unfold RJ
 refine A 13 ?_
 refine bD fun r3 hr3=>?_
 refine A 12 ?_
 refine lP (E:=fun (s : (List Int) × Bool × Int) (g : Nat)=>[(0,.sl (s1.map OB)),(1,.int .i64 n2),(5,.osl 5 g 0 s.1.length),(6,.bool s.2.1),(7,.int .i64 s.2.2)]) (O:=fun s g=>[(5,some (g,⟨false,false,1,3,s.1.map OB⟩))]) (body:=fun s=>QB s1 n2 s.1 s.2.1 s.2.2) (s:=(([] : List Int),(!r3),0)) _ ((hE ⟨rfl,r,r,r,r,trivial⟩ ⟨rfl,trivial⟩))<|?_
 rintro ⟨out4,done5,i6⟩ v5x1 nn
 try dsimp only
 unfold QB
 refine A 9 ?_
 refine cD r ?_ ?_
 ·refine A 4 ?_
  refine sC (E:=fun (s : (List Int) × Bool) (g : Nat)=>[(0,.sl (s1.map OB)),(1,.int .i64 n2),(5,.osl 5 g 0 s.1.length),(6,.bool s.2),(7,.int .i64 i6)]) (O:=fun s g=>[(5,some (g,⟨false,false,1,3,s.1.map OB⟩))]) (j:=fun s=>RF s1 i6 s.1 s.2) ?_ ?_
  ·refine sC (E:=fun (s : Bool) (g : Nat)=>[(0,.sl (s1.map OB)),(1,.int .i64 n2),(5,.osl 5 g 0 out4.length),(6,.bool done5),(7,.int .i64 i6),(26,.bool s)]) (O:=fun _ g=>[(5,some (g,⟨false,false,1,3,out4.map OB⟩))]) (j:=fun s=>SF s1 i6 n2 out4 done5 s) ?_ ?_
   ·exact B
   ·rintro x9 v5x2 nn
    try dsimp only
    unfold SF
    exact B
  ·rintro ⟨out7,done8⟩ v5x3 nn
   try dsimp only
   unfold RF
   exact B
 ·exact B

def AhF (b : (List Int)) : D:=.sl (b.map OB)
noncomputable def VG : Dw.Spec:=OH [] (.row 1 3) Qz Qy (fun a=>Sv a.1 a.2) AhF noE
theorem Xi : OE Tryz.prog 52 VG:=by
 refine fn2 2 (OL (l:=[(42,VP)]) (by simp [WL])) Tryz.func52<|?_
 rintro ⟨a1,b2⟩
 unfold Sv
 refine A 19 ?_
 refine lP (E:=fun (s : (List Int) × Int) (g : Nat)=>[(1,.sl (b2.map OB)),(5,.osl 5 g 0 s.1.length),(6,.int .i64 s.2)]) (O:=fun s g=>[(5,some (g,⟨false,false,1,3,s.1.map OB⟩))]) (body:=fun s=>Ts b2 s.1 s.2) (s:=(([] : List Int) ++ a1,0)) _ ((hE ⟨rfl,r,r,trivial⟩ ⟨rfl,trivial⟩))<|?_
 rintro ⟨out3,i4⟩ v5x1 nn
 try dsimp only
 unfold Ts
 exact B

def Akg (b : (List Int)) : D:=.sl (b.map OB)
noncomputable def AcL : Dw.Spec:=OH [] (.row 1 3) TR TQ (fun a=>Aac a.1 a.2) Akg noE
theorem AeQ : OE Tryz.prog 53 AcL:=by
 refine fn2 2 (OL (l:=[(61,Uq),(43,Aab),(63,Abh),(52,VG)]) (by simp [Vg,AbA,AcZ,Xi])) Tryz.func53<|?_
 intro a
 unfold Aac
 exact B

end Go.Proofs.YtpagjjmondojpaaGreatDoor
