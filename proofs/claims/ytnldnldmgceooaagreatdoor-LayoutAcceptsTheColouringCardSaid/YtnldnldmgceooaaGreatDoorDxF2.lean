/-
  Programs on typed data, and the proofs that the code does what they say; written by a program (dx.py).
-/
import Derived.Test.YtnldnldmgceooaaGreatDoorProg
import Derived.Test.YtnldnldmgceooaaGreatDoorDd
import Derived.KernelRfl
import Derived.Test.YtnldnldmgceooaaGreatDoorDxP
import Derived.Test.YtnldnldmgceooaaGreatDoorDxF1
namespace Go.Proofs.YtnldnldmgceooaaGreatDoor
open Go Go.Dw Go.Proofs
set_option maxRecDepth 100000
set_option maxHeartbeats 4000000
open Go.Dw renaming QU → bD,PN → cK,AcW → bS,Aey → aP,Ue → sE,AbD → iO,Acy → cD,AeS → xL,Aah → hE,Aez → lP,AaZ → sC,Zg → bC,rf → r
def Wz (a : OX × Int) : List D:=[PM a.1,.int .i64 a.2]
def Wy (ds : List D) : OX × Int:=(SS (ds.getD 0 .top),uI (ds.getD 1 .top))
theorem Akz (a : OX × Int) : Wy (Wz a) = a:=by simp [Wy,Wz,uI]
instance : Px Wz Wy:=⟨Akz⟩
def AlO (b : (List Int)) : D:=.sl (b.map Pa)
noncomputable def Adc : Dw.Spec:=Pf [] (.row 1 3) Wz Wy (fun a=>Zb a.1 a.2) AlO noE
theorem Afk : Pd Tryz.prog 63 Adc:=by
 refine fn2 2 (Pv) Tryz.func63<|?_
 rintro ⟨f1,k2⟩
 unfold Zb
 refine A 6 ?_
 refine sC (E:=fun (_s : Unit) (g : Nat)=>[(1,.int .i64 k2),(2,.optr 2 g 0 0)]) (O:=fun _ g=>[(2,some (g,⟨false,true,3,40,[.agg [.int .i64 f1.Params,.sl (f1.Slots.map Po),.sl (f1.Code.map Pn)]]⟩))]) (j:=fun _=>Aak f1 k2) ?_ ?_
 ·exact B
 ·rintro ⟨⟩ v2x1 nn
  try dsimp only
  unfold Aak
  refine A 5 ?_
  refine bD fun x_x3 hx_x3=>?_
  refine A 20 ?_
  refine cD r ?_ ?_
  ·exact B
  ·refine sC (E:=fun (s : Bool) (g : Nat)=>[(1,.int .i64 k2),(5,.optr 5 g 0 0),(21,.int .i64 x_x3.Op),(27,.bool s)]) (O:=fun _ g=>[(5,some (g,⟨false,true,5,50,[.agg [.int .i64 x_x3.Op,.int .i64 x_x3.A,.int .i64 x_x3.B,.int .i64 x_x3.C,.int .u64 x_x3.Imm]]⟩))]) (j:=fun s=>Rp x_x3 k2 s) ?_ ?_
   ·exact B
   ·rintro x4 v5x2 nn
    try dsimp only
    unfold Rp
    refine cD r ?_ ?_
    ·exact B
    ·refine A 6 ?_
     refine cD r ?_ ?_
     ·refine A 11 ?_
      refine cD r ?_ ?_
      ·refine A 6 ?_
       refine bS ([x_x3.B,IntKind.i64.wrap (k2 + 1)] : List Int) Pa r r r (by simp) r r r<|?_
       exact B
      ·refine A 10 ?_
       refine cD r ?_ ?_
       ·refine A 6 ?_
        refine bS ([IntKind.i64.wrap (k2 + 1),x_x3.B] : List Int) Pa r r r (by simp) r r r<|?_
        exact B
       ·exact B
     ·exact B

def Qw (a : OZ) : List D:=[Pn a]
def Qv (ds : List D) : OZ:=Ace (ds.getD 0 .top)
theorem Agi (a : OZ) : Qv (Qw a) = a:=by simp [Qv,Qw]
instance : Px Qw Qv:=⟨Agi⟩
def AgV (b : Bool) : D:=.bool b
noncomputable def ZK : Dw.Spec:=Pf [] .ground Qw Qv (fun a=>RJ a) AgV noE
theorem Acd : Pd Tryz.prog 37 ZK:=by
 refine fn2 1 (Pv) Tryz.func37<|?_
 intro a
 unfold RJ
 exact B

def Aiv (b : Int × Bool) : D:=.tup [.int .i64 b.1,.bool b.2]
noncomputable def Vy : Dw.Spec:=Pf [] .ground Qw Qv (fun a=>Rq a) Aiv noE
theorem WY : Pd Tryz.prog 14 Vy:=by
 refine fn2 1 (Pk (l:=[(37,ZK)]) (by simp [Acd])) Tryz.func14<|?_
 intro a
 unfold Rq
 exact B

def Rj (a : (List Int) × Int) : List D:=[.sl (a.1.map Pa),.int .i64 a.2]
def Ri (ds : List D) : (List Int) × Int:=((uL uI) (ds.getD 0 .top),uI (ds.getD 1 .top))
theorem Ait (a : (List Int) × Int) : Ri (Rj a) = a:=by simp [Ri,Rj,uI,PV (u:=uI) (en:=Pa) (fun _=>rfl)]
instance : Px Rj Ri:=⟨Ait⟩
def Ajn (b : (List Int)) : D:=.sl (b.map Pa)
noncomputable def AbN : Dw.Spec:=Pf [] (.row 1 3) Rj Ri (fun a=>Ww a.1 a.2) Ajn noE
theorem Adz : Pd Tryz.prog 54 AbN:=by
 refine fn2 2 (Pv) Tryz.func54<|?_
 rintro ⟨s1,n2⟩
 unfold Ww
 refine A 17 ?_
 refine lP (E:=fun (s : (List Int) × Int) (g : Nat)=>[(0,.sl (s1.map Pa)),(1,.int .i64 n2),(5,.osl 5 g 0 s.1.length),(6,.int .i64 s.2)]) (O:=fun s g=>[(5,some (g,⟨false,false,1,3,s.1.map Pa⟩))]) (body:=fun s=>Sy s1 n2 s.1 s.2) (s:=(([] : List Int),0)) _ ((hE ⟨rfl,r,r,r,trivial⟩ ⟨rfl,trivial⟩))<|?_
 rintro ⟨out3,i4⟩ v5x1 nn
 try dsimp only
 unfold Sy
 exact B

def AlP (b : (List Int)) : D:=.sl (b.map Pa)
noncomputable def Adf : Dw.Spec:=Pf [] (.row 1 3) Qw Qv (fun a=>Ul a) AlP noE
theorem Afl : Pd Tryz.prog 88 Adf:=by
 refine fn2 1 (Pv) Tryz.func88<|?_
 intro a
 unfold Ul
 exact B

def AlN (b : Bool) : D:=.bool b
noncomputable def Adb : Dw.Spec:=Pf [] .ground PY PX (fun a=>Vx a) AlN noE
theorem Afj : Pd Tryz.prog 57 Adb:=by
 refine fn2 1 (Pv) Tryz.func57<|?_
 intro a
 unfold Vx
 exact B

def AmB (b : (List Int)) : D:=.sl (b.map Pa)
noncomputable def XE : Dw.Spec:=Pf [] (.row 1 3) Rj Ri (fun a=>SE a.1 a.2) AmB noE
theorem YB : Pd Tryz.prog 32 XE:=by
 refine fn2 2 (Pk (l:=[(57,Adb)]) (by simp [Afj])) Tryz.func32<|?_
 rintro ⟨s1,n2⟩
 unfold SE
 refine A 13 ?_
 refine bD fun r3 hr3=>?_
 refine A 12 ?_
 refine lP (E:=fun (s : (List Int) × Bool × Int) (g : Nat)=>[(0,.sl (s1.map Pa)),(1,.int .i64 n2),(5,.osl 5 g 0 s.1.length),(6,.bool s.2.1),(7,.int .i64 s.2.2)]) (O:=fun s g=>[(5,some (g,⟨false,false,1,3,s.1.map Pa⟩))]) (body:=fun s=>Rh s1 n2 s.1 s.2.1 s.2.2) (s:=(([] : List Int),(!r3),0)) _ ((hE ⟨rfl,r,r,r,r,trivial⟩ ⟨rfl,trivial⟩))<|?_
 rintro ⟨out4,done5,i6⟩ v5x1 nn
 try dsimp only
 unfold Rh
 refine A 9 ?_
 refine cD r ?_ ?_
 ·refine A 4 ?_
  refine sC (E:=fun (s : (List Int) × Bool) (g : Nat)=>[(0,.sl (s1.map Pa)),(1,.int .i64 n2),(5,.osl 5 g 0 s.1.length),(6,.bool s.2),(7,.int .i64 i6)]) (O:=fun s g=>[(5,some (g,⟨false,false,1,3,s.1.map Pa⟩))]) (j:=fun s=>Sv s1 i6 s.1 s.2) ?_ ?_
  ·refine sC (E:=fun (s : Bool) (g : Nat)=>[(0,.sl (s1.map Pa)),(1,.int .i64 n2),(5,.osl 5 g 0 out4.length),(6,.bool done5),(7,.int .i64 i6),(26,.bool s)]) (O:=fun _ g=>[(5,some (g,⟨false,false,1,3,out4.map Pa⟩))]) (j:=fun s=>TA s1 i6 n2 out4 done5 s) ?_ ?_
   ·exact B
   ·rintro x9 v5x2 nn
    try dsimp only
    unfold TA
    exact B
  ·rintro ⟨out7,done8⟩ v5x3 nn
   try dsimp only
   unfold Sv
   exact B
 ·exact B

def RI (a : (List Int) × (List Int)) : List D:=[.sl (a.1.map Pa),.sl (a.2.map Pa)]
def RG (ds : List D) : (List Int) × (List Int):=((uL uI) (ds.getD 0 .top),(uL uI) (ds.getD 1 .top))
theorem Ajo (a : (List Int) × (List Int)) : RG (RI a) = a:=by simp [RG,RI,PV (u:=uI) (en:=Pa) (fun _=>rfl)]
instance : Px RI RG:=⟨Ajo⟩
def Akx (b : (List Int)) : D:=.sl (b.map Pa)
noncomputable def Xx : Dw.Spec:=Pf [] (.row 1 3) RI RG (fun a=>Tq a.1 a.2) Akx noE
theorem Za : Pd Tryz.prog 64 Xx:=by
 refine fn2 2 (Pk (l:=[(32,XE)]) (by simp [YB])) Tryz.func64<|?_
 rintro ⟨a1,b2⟩
 unfold Tq
 refine A 19 ?_
 refine lP (E:=fun (s : (List Int) × Int) (g : Nat)=>[(1,.sl (b2.map Pa)),(5,.osl 5 g 0 s.1.length),(6,.int .i64 s.2)]) (O:=fun s g=>[(5,some (g,⟨false,false,1,3,s.1.map Pa⟩))]) (body:=fun s=>Uu b2 s.1 s.2) (s:=(([] : List Int) ++ a1,0)) _ ((hE ⟨rfl,r,r,trivial⟩ ⟨rfl,trivial⟩))<|?_
 rintro ⟨out3,i4⟩ v5x1 nn
 try dsimp only
 unfold Uu
 exact B

def WB (a : OZ × (List Int)) : List D:=[Pn a.1,.sl (a.2.map Pa)]
def WA (ds : List D) : OZ × (List Int):=(Ace (ds.getD 0 .top),(uL uI) (ds.getD 1 .top))
theorem AmD (a : OZ × (List Int)) : WA (WB a) = a:=by simp [WA,WB,PV (u:=uI) (en:=Pa) (fun _=>rfl)]
instance : Px WB WA:=⟨AmD⟩
def Anu (b : (List Int)) : D:=.sl (b.map Pa)
noncomputable def AeY : Dw.Spec:=Pf [] (.row 1 3) WB WA (fun a=>AbO a.1 a.2) Anu noE
theorem Ahi : Pd Tryz.prog 65 AeY:=by
 refine fn2 2 (Pk (l:=[(14,Vy),(54,AbN),(88,Adf),(64,Xx)]) (by simp [WY,Adz,Afl,Za])) Tryz.func65<|?_
 intro a
 unfold AbO
 exact B

def Ql (a : OX × Ph) : List D:=[PM a.1,Qz a.2]
def Qk (ds : List D) : OX × Ph:=(SS (ds.getD 0 .top),Wj (ds.getD 1 .top))
theorem AkD (a : OX × Ph) : Qk (Ql a) = a:=by simp [Qk,Ql]
instance : Px Ql Qk:=⟨AkD⟩
def Agk (b : Ph) : D:=Qz b
noncomputable def Agl : Dw.Spec:=Pf [] .val Ql Qk (fun a=>Abi a.1 a.2) Agk noE
theorem AkE : Pd Tryz.prog 39 Agl:=by
 refine fn2 2 (Pk (l:=[(63,Adc),(65,AeY),(64,Xx)]) (by simp [Afk,Ahi,Za])) Tryz.func39<|?_
 rintro ⟨f1,l2⟩
 unfold Abi
 refine A 12 ?_
 refine cK fun hq=>AdU (α:=Int) r r r hq r<|?_
 refine A 4 ?_
 refine VC (E:=[(2,.optr 2 _ 0 0),(3,.optr 3 _ 0 0),(4,.optr 4 _ 0 0),(5,.optr 5 _ 0 0)]) (O:=[(2,some (_,⟨false,true,3,40,[.agg [.int .i64 f1.Params,.sl (f1.Slots.map Po),.sl (f1.Code.map Pn)]]⟩)),(3,some (_,⟨false,true,1,29,[.agg [.sl (l2.Out.map (eL Pa))]]⟩)),(4,some (_,⟨false,true,1,29,[.agg [.nils]]⟩)),(5,some (_,⟨false,true,1,29,[.agg [.osl 13 _ 0 ((List.replicate (f1.Code.length : Int).toNat ([] : (List Int))).length)]]⟩)),(13,some (_,⟨false,false,1,30,(List.replicate (f1.Code.length : Int).toNat ([] : (List Int))).map (eL Pa)⟩))]) ((AfM (g:=13) r (Aht (l:=List.replicate (f1.Code.length : Int).toNat ([] : (List Int))) Pa (fun _ h=>List.eq_of_mem_replicate h)) (hE ⟨rfl,r,r,r,trivial⟩ ⟨rfl,r,r,r,r,trivial⟩))) fun nn=>?_
 refine A 7 ?_
 refine lP (E:=fun (s : (List (List Int)) × Int) (g : Nat × Nat × Nat × Nat × Nat)=>[(2,.optr 2 g.1 0 0),(3,.optr 3 g.2.1 0 0),(4,.optr 4 g.2.2.1 0 0),(5,.optr 5 g.2.2.2.1 0 0),(6,.int .i64 s.2)]) (O:=fun s g=>[(2,some (g.1,⟨false,true,3,40,[.agg [.int .i64 f1.Params,.sl (f1.Slots.map Po),.sl (f1.Code.map Pn)]]⟩)),(3,some (g.2.1,⟨false,true,1,29,[.agg [.sl (l2.Out.map (eL Pa))]]⟩)),(4,some (g.2.2.1,⟨false,true,1,29,[.agg [.nils]]⟩)),(5,some (g.2.2.2.1,⟨false,true,1,29,[.agg [.osl 13 g.2.2.2.2 0 s.1.length]]⟩)),(13,some (g.2.2.2.2,⟨false,false,1,30,s.1.map (eL Pa)⟩))]) (body:=fun s=>Vb f1 l2 s.1 s.2) (s:=(List.replicate (f1.Code.length : Int).toNat ([] : (List Int)),0)) (_,_,_,_,_) ((hE ⟨rfl,r,r,r,r,trivial⟩ ⟨rfl,r,r,r,r,trivial⟩))<|?_
 rintro ⟨x3,k4⟩ ⟨v2x1,v3x1,v4x1,v5x1,v13x1⟩ nn
 try dsimp only
 unfold Vb
 refine A 10 ?_
 refine cD r ?_ ?_
 ·refine A 2 ?_
  refine bC (E:=fun (_s : (List (List Int))) (g : Nat × Nat × Nat × Nat × Nat)=>[(2,.optr 2 g.1 0 0),(3,.optr 3 g.2.1 0 0),(4,.optr 4 g.2.2.1 0 0),(5,.optr 5 g.2.2.2.1 0 0),(6,.int .i64 k4)]) (O:=fun s g=>[(2,some (g.1,⟨false,true,3,40,[.agg [.int .i64 f1.Params,.sl (f1.Slots.map Po),.sl (f1.Code.map Pn)]]⟩)),(3,some (g.2.1,⟨false,true,1,29,[.agg [.sl (l2.Out.map (eL Pa))]]⟩)),(4,some (g.2.2.1,⟨false,true,1,29,[.agg [.nils]]⟩)),(5,some (g.2.2.2.1,⟨false,true,1,29,[.agg [.osl 13 g.2.2.2.2 0 s.length]]⟩)),(13,some (g.2.2.2.2,⟨false,false,1,30,s.map (eL Pa)⟩))]) (j:=fun s=>Aan k4 s) ?_ ?_
  ·refine A 4 ?_
   refine bD fun r6 hr6=>?_
   refine A 10 ?_
   refine lP (E:=fun (s : (List (List Int)) × Int) (g : Nat × Nat × Nat × Nat × Nat × Nat)=>[(2,.optr 2 g.1 0 0),(3,.optr 3 g.2.1 0 0),(4,.optr 4 g.2.2.1 0 0),(5,.optr 5 g.2.2.2.1 0 0),(6,.int .i64 k4),(7,.osl 7 g.2.2.2.2.1 0 r6.length),(8,.int .i64 s.2)]) (O:=fun s g=>[(2,some (g.1,⟨false,true,3,40,[.agg [.int .i64 f1.Params,.sl (f1.Slots.map Po),.sl (f1.Code.map Pn)]]⟩)),(3,some (g.2.1,⟨false,true,1,29,[.agg [.sl (l2.Out.map (eL Pa))]]⟩)),(4,some (g.2.2.1,⟨false,true,1,29,[.agg [.nils]]⟩)),(5,some (g.2.2.2.1,⟨false,true,1,29,[.agg [.osl 13 g.2.2.2.2.2 0 s.1.length]]⟩)),(7,some (g.2.2.2.2.1,⟨false,false,1,3,r6.map Pa⟩)),(13,some (g.2.2.2.2.2,⟨false,false,1,30,s.1.map (eL Pa)⟩))]) (body:=fun s=>Vc r6 k4 f1 l2 s.1 s.2) (s:=(x3,0)) (_,_,_,_,_,_) ((hE ⟨rfl,r,r,r,r,r,r,trivial⟩ ⟨rfl,r,r,r,r,r,trivial⟩))<|?_
   rintro ⟨x7,i8⟩ ⟨v2x2,v3x2,v4x2,v5x2,v7x2,v13x2⟩ nn
   try dsimp only
   unfold Vc
   refine A 9 ?_
   refine cD r ?_ ?_
   ·refine A 9 ?_
    refine bD fun next_e9 hnext_e9=>?_
    refine A 12 ?_
    refine bD fun x_e10 hx_e10=>?_
    refine A 4 ?_
    refine bD fun x_x11 hx_x11=>?_
    refine A 5 ?_
    refine bD fun x_x12 hx_x12=>?_
    refine A 2 ?_
    refine bD fun r13 hr13=>?_
    refine A 1 ?_
    refine bD fun r14 hr14=>?_
    refine A 2 ?_
    refine bD fun x_o15 hx_o15=>sE (l:=x7) (en:=(eL Pa)) (q':=r14) r r r r r r r (by simp) hx_o15 r r r (by simp [PH,cells,eL]) r<|?_
    refine A 8 ?_
    exact xL (s:=(x7.set k4.toNat r14,IntKind.i64.wrap (i8 + 1))) (_,_,_,_,_,_) ((hE ⟨rfl,r,r,r,r,r,r,trivial⟩ ⟨rfl,r,r,(Eq.trans (b:=some (_,⟨false,true,1,29,[.agg [.osl 13 _ 0 x7.length]]⟩)) r (by simp)),r,r,trivial⟩))
   ·exact B
  ·rintro x5 ⟨v2x3,v3x3,v4x3,v5x3,v13x3⟩ nn
   try dsimp only
   unfold Aan
   exact B
 ·refine A 12 ?_
  refine UR (b:=(Ph.mk x3)) r ?_ r r ?_ (by first | rfl | (simp only [OV]; rfl) | (simp only [OW]; rfl) | (simp only [OV,OW]; rfl) | simp [Agk,Qz])
  all_goals first|(simp;done)|(simp;omega)|rfl|(simp [PG,PE];done)

def AlM (b : Bool) : D:=.bool b
noncomputable def Agh : Dw.Spec:=Pf [] .ground RI RG (fun a=>Abf a.1 a.2) AlM noE
theorem Akw : Pd Tryz.prog 89 Agh:=by
 refine fn2 2 (Pv) Tryz.func89<|?_
 rintro ⟨a1,b2⟩
 unfold Abf
 refine A 15 ?_
 refine cD r ?_ ?_
 ·exact B
 ·refine A 9 ?_
  refine lP (E:=fun (s : Int) (_g : Unit)=>[(0,.sl (a1.map Pa)),(1,.sl (b2.map Pa)),(5,.int .i64 s)]) (O:=fun _ _=>[]) (body:=fun s=>TV a1 b2 s) (s:=0) () ((hE ⟨rfl,r,r,trivial⟩ trivial))<|?_
  rintro i3 ⟨⟩ nn
  try dsimp only
  unfold TV
  exact B

def Wa (a : (List (List Int)) × (List (List Int))) : List D:=[.sl (a.1.map (eL Pa)),.sl (a.2.map (eL Pa))]
def VZ (ds : List D) : (List (List Int)) × (List (List Int)):=((uL (uL uI)) (ds.getD 0 .top),(uL (uL uI)) (ds.getD 1 .top))
theorem AhI (a : (List (List Int)) × (List (List Int))) : VZ (Wa a) = a:=by simp [VZ,Wa,PV (u:=(uL uI)) (en:=(eL Pa)) (PV (u:=uI) (en:=Pa) (fun _=>rfl))]
instance : Px Wa VZ:=⟨AhI⟩
def Aiu (b : Bool) : D:=.bool b
noncomputable def AdA : Dw.Spec:=Pf [] .ground Wa VZ (fun a=>Xw a.1 a.2) Aiu noE
theorem AhJ : Pd Tryz.prog 66 AdA:=by
 refine fn2 2 (Pk (l:=[(89,Agh)]) (by simp [Akw])) Tryz.func66<|?_
 rintro ⟨a1,b2⟩
 unfold Xw
 refine A 15 ?_
 refine cD r ?_ ?_
 ·exact B
 ·refine A 9 ?_
  refine lP (E:=fun (s : Int) (_g : Unit)=>[(0,.sl (a1.map (eL Pa))),(1,.sl (b2.map (eL Pa))),(5,.int .i64 s)]) (O:=fun _ _=>[]) (body:=fun s=>RQ a1 b2 s) (s:=0) () ((hE ⟨rfl,r,r,trivial⟩ trivial))<|?_
  rintro i3 ⟨⟩ nn
  try dsimp only
  unfold RQ
  exact B

def Zd (a : Ph × Ph) : List D:=[Qz a.1,Qz a.2]
def Zc (ds : List D) : Ph × Ph:=(Wj (ds.getD 0 .top),Wj (ds.getD 1 .top))
theorem AkA (a : Ph × Ph) : Zc (Zd a) = a:=by simp [Zc,Zd]
instance : Px Zd Zc:=⟨AkA⟩
def AlQ (b : Bool) : D:=.bool b
noncomputable def Agj : Dw.Spec:=Pf [] .ground Zd Zc (fun a=>Abh a.1 a.2) AlQ noE
theorem AkB : Pd Tryz.prog 40 Agj:=by
 refine fn2 2 (Pk (l:=[(66,AdA)]) (by simp [AhJ])) Tryz.func40<|?_
 intro a
 unfold Abh
 exact B

def VA (a : OX) : List D:=[PM a]
def Vz (ds : List D) : OX:=SS (ds.getD 0 .top)
theorem Ajq (a : OX) : Vz (VA a) = a:=by simp [Vz,VA]
instance : Px VA Vz:=⟨Ajq⟩
def AkC (b : Ph) : D:=Qz b
noncomputable def Aal : Dw.Spec:=Pf [] .val VA Vz (fun a=>Uq a) AkC noE
theorem AbP : Pd Tryz.prog 17 Aal:=by
 refine fn2 1 (Pk (l:=[(39,Agl),(40,Agj)]) (by simp [AkE,AkB])) Tryz.func17<|?_
 intro f1
 unfold Uq
 refine A 11 ?_
 refine cK fun hq=>AdU (α:=Int) r r r hq r<|?_
 refine A 4 ?_
 refine VC (E:=[(1,.optr 1 _ 0 0),(2,.optr 2 _ 0 0),(3,.optr 3 _ 0 0)]) (O:=[(1,some (_,⟨false,true,3,40,[.agg [.int .i64 f1.Params,.sl (f1.Slots.map Po),.sl (f1.Code.map Pn)]]⟩)),(2,some (_,⟨false,true,1,29,[.agg [.nils]]⟩)),(3,some (_,⟨false,true,1,29,[.agg [.osl 8 _ 0 ((List.replicate (f1.Code.length : Int).toNat ([] : (List Int))).length)]]⟩)),(8,some (_,⟨false,false,1,30,(List.replicate (f1.Code.length : Int).toNat ([] : (List Int))).map (eL Pa)⟩))]) ((AfM (g:=8) r (Aht (l:=List.replicate (f1.Code.length : Int).toNat ([] : (List Int))) Pa (fun _ h=>List.eq_of_mem_replicate h)) (hE ⟨rfl,r,r,trivial⟩ ⟨rfl,r,r,r,trivial⟩))) fun nn=>?_
 refine A 1 ?_
 refine lP (E:=fun (_s : (List (List Int))) (g : Nat × Nat × Nat)=>[(1,.optr 1 g.1 0 0),(2,.optr 2 g.2.1 0 0),(3,.optr 3 g.2.2 0 0)]) (O:=fun s g=>[(1,some (g.1,⟨false,true,3,40,[.agg [.int .i64 f1.Params,.sl (f1.Slots.map Po),.sl (f1.Code.map Pn)]]⟩)),(2,some (g.2.1,⟨false,true,1,29,[.agg [.nils]]⟩)),(3,some (g.2.2,⟨false,true,1,29,[.agg [.sl (s.map (eL Pa))]]⟩))]) (body:=fun s=>Ze f1 s) (s:=List.replicate (f1.Code.length : Int).toNat ([] : (List Int))) (_,_,_) ((Abq [(8,some (_,⟨true,false,1,30,(List.replicate (f1.Code.length : Int).toNat ([] : (List Int))).map (eL Pa)⟩))] ⟨⟨_,_,r,r,r⟩,trivial⟩ ⟨(PF r),(PF r),(PF r),trivial⟩ ⟨(.inl r),(.inl r),(.inr ⟨_,_,_,_,r,r,r,r,ZT r ⟨(XT (l:=List.replicate (f1.Code.length : Int).toNat ([] : (List Int))) (en:=(eL Pa)) r r r (by simp)),trivial⟩⟩),trivial⟩))<|?_
 rintro l2 ⟨v1x1,v2x1,v3x1⟩ nn
 try dsimp only
 unfold Ze
 exact B

def So (a : Mk × OX) : List D:=[Pz a.1,PM a.2]
def Sn (ds : List D) : Mk × OX:=(Sl (ds.getD 0 .top),SS (ds.getD 1 .top))
theorem Afz (a : Mk × OX) : Sn (So a) = a:=by simp [Sn,So]
instance : Px So Sn:=⟨Afz⟩
def Ym (b : Ph × Mk) : D:=Qz b.1
def AfG (b : Ph × Mk) : List D:=[Pz b.2]
noncomputable def Yn : Dw.Spec:=Pf [(0,(2,99))] .val So Sn (fun a=>SY a.1 a.2) Ym AfG
theorem Abw : Pd Tryz.prog 10 Yn:=by
 refine fn2 2 (Pk (l:=[(17,Aal),(28,PO),(32,XE)]) (by simp [AbP,PQ,YB])) Tryz.func10<|?_
 rintro ⟨c1,f2⟩
 unfold SY
 refine A 9 ?_
 refine bD fun r3 hr3=>?_
 refine A 9 ?_
 refine cK fun hq=>aP (([] : List (List Int))) (r3.Out) (eL Pa) r r r r r r r (by simp) r r r (by simp) r (fun _=>r) r hq<|?_
 refine A 9 ?_
 refine bD fun r4 hr4=>?_
 refine A 5 ?_
 refine lP (E:=fun (s : (List Int) × Int × (List (List Int)) × Int) (g : Nat × Nat × Nat × Nat)=>[(0,.optr 8192 0 0 0),(3,.optr 3 g.1 0 0),(4,.optr 4 g.2.1 0 0),(6,.optr 6 g.2.2.1 0 0),(7,.int .i64 s.2.2.2)]) (O:=fun s g=>[(3,some (g.1,⟨false,true,3,40,[.agg [.int .i64 f2.Params,.sl (f2.Slots.map Po),.sl (f2.Code.map Pn)]]⟩)),(4,some (g.2.1,⟨false,true,1,29,[.agg [.nils]]⟩)),(6,some (g.2.2.1,⟨false,true,1,29,[.agg [.osl 14 g.2.2.2 0 s.2.2.1.length]]⟩)),(14,some (g.2.2.2,⟨false,false,1,30,s.2.2.1.map (eL Pa)⟩)),(8192,some (0,⟨false,true,2,99,[.agg [.sl (s.1.map eU8),.int .i64 s.2.1]]⟩))]) (body:=fun s=>UH f2 s.1 s.2.1 s.2.2.1 s.2.2.2) (s:=(r4.2.list,r4.2.at_,([] : List (List Int)) ++ r3.Out,r4.1)) (_,_,_,_) ((hE ⟨rfl,r,r,r,r,trivial⟩ ⟨rfl,r,r,r,r,trivial⟩))<|?_
 rintro ⟨c5,c6,x7,n8⟩ ⟨v3x1,v4x1,v6x1,v14x1⟩ nn
 try dsimp only
 unfold UH
 refine sC (E:=fun (_s : Unit) (g : Nat × Nat × Nat × Nat)=>[(0,.optr 8192 0 0 0),(3,.optr 3 g.1 0 0),(4,.optr 4 g.2.1 0 0),(6,.optr 6 g.2.2.1 0 0),(7,.int .i64 n8),(21,.optr 3 g.1 0 1),(22,.sl (f2.Slots.map Po)),(23,.int .i64 (f2.Slots.length : Int)),(24,.bool (decide ((f2.Slots.length : Int) > 0)))]) (O:=fun _ g=>[(3,some (g.1,⟨false,true,3,40,[.agg [.int .i64 f2.Params,.sl (f2.Slots.map Po),.sl (f2.Code.map Pn)]]⟩)),(4,some (g.2.1,⟨false,true,1,29,[.agg [.nils]]⟩)),(6,some (g.2.2.1,⟨false,true,1,29,[.agg [.osl 14 g.2.2.2 0 x7.length]]⟩)),(14,some (g.2.2.2,⟨false,false,1,30,x7.map (eL Pa)⟩)),(8192,some (0,⟨false,true,2,99,[.agg [.sl (c5.map eU8),.int .i64 c6]]⟩))]) (j:=fun _=>UJ c5 c6 f2 n8 x7) ?_ ?_
 ·refine A 5 ?_
  refine Abk r ?_ ?_
  ·refine A 7 ?_
   refine cD r ?_ ?_
   ·exact B
   ·refine A 12 ?_
    refine UR (b:=((Ph.mk x7),(Mk.mk c5 c6))) r ?_ r r ?_ (by first | rfl | (simp only [OV]; rfl) | (simp only [OW]; rfl) | (simp only [OV,OW]; rfl) | simp [Ym,Qz])
    all_goals first|(simp;done)|(simp;omega)|rfl|(simp [PG,PE];done)
  ·refine A 20 ?_
   refine UR (b:=((Ph.mk x7),(Mk.mk c5 c6))) r ?_ r r ?_ (by first | rfl | (simp only [OV]; rfl) | (simp only [OW]; rfl) | (simp only [OV,OW]; rfl) | simp [Ym,Qz])
   all_goals first|(simp;done)|(simp;omega)|rfl|(simp [PG,PE];done)
 ·rintro ⟨⟩ ⟨v3x2,v4x2,v6x2,v14x2⟩ nn
  try dsimp only
  unfold UJ
  refine bC (E:=fun (_s : (List Int) × Int × (List (List Int))) (g : Nat × Nat × Nat × Nat)=>[(0,.optr 8192 0 0 0),(3,.optr 3 g.1 0 0),(4,.optr 4 g.2.1 0 0),(6,.optr 6 g.2.2.1 0 0),(7,.int .i64 n8),(21,.optr 3 g.1 0 1),(22,.sl (f2.Slots.map Po)),(23,.int .i64 (f2.Slots.length : Int)),(24,.bool (decide ((f2.Slots.length : Int) > 0)))]) (O:=fun s g=>[(3,some (g.1,⟨false,true,3,40,[.agg [.int .i64 f2.Params,.sl (f2.Slots.map Po),.sl (f2.Code.map Pn)]]⟩)),(4,some (g.2.1,⟨false,true,1,29,[.agg [.nils]]⟩)),(6,some (g.2.2.1,⟨false,true,1,29,[.agg [.osl 14 g.2.2.2 0 s.2.2.length]]⟩)),(14,some (g.2.2.2,⟨false,false,1,30,s.2.2.map (eL Pa)⟩)),(8192,some (0,⟨false,true,2,99,[.agg [.sl (s.1.map eU8),.int .i64 s.2.1]]⟩))]) (j:=fun s=>UK n8 s.1 s.2.1 s.2.2) ?_ ?_
  ·refine A 6 ?_
   refine bD fun r12 hr12=>?_
   refine A 10 ?_
   refine lP (E:=fun (s : (List (List Int)) × Int) (g : Nat × Nat × Nat × Nat)=>[(0,.optr 8192 0 0 0),(3,.optr 3 g.1 0 0),(4,.optr 4 g.2.1 0 0),(6,.optr 6 g.2.2.1 0 0),(7,.int .i64 n8),(8,.int .i64 r12.1),(9,.int .i64 s.2),(21,.optr 3 g.1 0 1),(22,.sl (f2.Slots.map Po)),(23,.int .i64 (f2.Slots.length : Int)),(24,.bool (decide ((f2.Slots.length : Int) > 0)))]) (O:=fun s g=>[(3,some (g.1,⟨false,true,3,40,[.agg [.int .i64 f2.Params,.sl (f2.Slots.map Po),.sl (f2.Code.map Pn)]]⟩)),(4,some (g.2.1,⟨false,true,1,29,[.agg [.nils]]⟩)),(6,some (g.2.2.1,⟨false,true,1,29,[.agg [.osl 14 g.2.2.2 0 s.1.length]]⟩)),(14,some (g.2.2.2,⟨false,false,1,30,s.1.map (eL Pa)⟩)),(8192,some (0,⟨false,true,2,99,[.agg [.sl (r12.2.list.map eU8),.int .i64 r12.2.at_]]⟩))]) (body:=fun s=>UI r12 n8 s.1 s.2) (s:=(x7,0)) (_,_,_,_) ((hE ⟨rfl,r,r,r,r,r,r,r,r,r,r,trivial⟩ ⟨rfl,r,r,r,r,trivial⟩))<|?_
   rintro ⟨x13,k14⟩ ⟨v3x3,v4x3,v6x3,v14x3⟩ nn
   try dsimp only
   unfold UI
   refine A 10 ?_
   refine cD r ?_ ?_
   ·refine A 12 ?_
    refine bD fun x_e15 hx_e15=>?_
    refine A 2 ?_
    refine bD fun r16 hr16=>?_
    refine A 2 ?_
    refine bD fun x_o17 hx_o17=>sE (l:=x13) (en:=(eL Pa)) (q':=r16) r r r r r r r (by simp) hx_o17 r r r (by simp [PH,cells,eL]) r<|?_
    refine A 8 ?_
    exact xL (s:=(x13.set k14.toNat r16,IntKind.i64.wrap (k14 + 1))) (_,_,_,_) ((hE ⟨rfl,r,r,r,r,r,r,r,r,r,r,trivial⟩ ⟨rfl,r,(Eq.trans (b:=some (_,⟨false,true,1,29,[.agg [.osl 14 _ 0 x13.length]]⟩)) r (by simp)),r,r,trivial⟩))
   ·exact B
  ·rintro ⟨c9,c10,x11⟩ ⟨v3x4,v4x4,v6x4,v14x4⟩ nn
   try dsimp only
   unfold UK
   exact B

def Ahu (b : Int × Mk) : D:=.int .i64 b.1
def Ahs (b : Int × Mk) : List D:=[Pz b.2]
noncomputable def Aav : Dw.Spec:=Pf [(0,(2,99))] .val QT QS (fun a=>Rs a) Ahu Ahs
theorem Acm : Pd Tryz.prog 55 Aav:=by
 refine fn2 1 (Pk (l:=[(28,PO)]) (by simp [PQ])) Tryz.func55<|?_
 intro c1
 unfold Rs
 refine A 8 ?_
 refine bD fun r2 hr2=>?_
 refine A 11 ?_
 refine cD r ?_ ?_
 ·refine A 2 ?_
  refine bS ([9223372036854775807,(-9223372036854775808),2147483648,2147483647,(-1),16777216,33554432,1048577,512,80] : List Int) Pa r r r (by simp) r r r<|?_
  exact B
 ·exact B

def VW (b : Ph × Mk) : D:=Qz b.1
def AgE (b : Ph × Mk) : List D:=[Pz b.2]
noncomputable def Aco : Dw.Spec:=Pf [(0,(2,99))] .val So Sn (fun a=>Vi a.1 a.2) VW AgE
theorem AfF : Pd Tryz.prog 30 Aco:=by
 refine fn2 2 (Pk (l:=[(17,Aal),(28,PO),(32,XE),(54,AbN),(55,Aav)]) (by simp [AbP,PQ,YB,Adz,Acm])) Tryz.func30<|?_
 rintro ⟨c1,f2⟩
 unfold Vi
 refine A 9 ?_
 refine bD fun r3 hr3=>?_
 refine A 9 ?_
 refine bD fun r4 hr4=>?_
 refine A 4 ?_
 refine cD r ?_ ?_
 ·exact B
 ·refine A 6 ?_
  refine cK fun hq=>aP (([] : List (List Int))) (r3.Out) (eL Pa) r r r r r r r (by simp) r r r (by simp) r (fun _=>r) r hq<|?_
  refine A 5 ?_
  refine sC (E:=fun (_s : (List Int) × Int × (List (List Int))) (g : Nat × Nat × Nat)=>[(0,.optr 8192 0 0 0),(4,.optr 4 g.1 0 0),(6,.optr 6 g.2.1 0 0)]) (O:=fun s g=>[(4,some (g.1,⟨false,true,1,29,[.agg [.nils]]⟩)),(6,some (g.2.1,⟨false,true,1,29,[.agg [.osl 19 g.2.2 0 s.2.2.length]]⟩)),(19,some (g.2.2,⟨false,false,1,30,s.2.2.map (eL Pa)⟩)),(8192,some (0,⟨false,true,2,99,[.agg [.sl (s.1.map eU8),.int .i64 s.2.1]]⟩))]) (j:=fun s=>RT s.1 s.2.1 s.2.2) ?_ ?_
  ·refine A 3 ?_
   refine bD fun r8 hr8=>?_
   refine A 5 ?_
   refine lP (E:=fun (s : (List Int) × Int × (List (List Int)) × Int) (g : Nat × Nat × Nat × Nat)=>[(0,.optr 8192 0 0 0),(3,.optr 3 g.1 0 0),(4,.optr 4 g.2.1 0 0),(6,.optr 6 g.2.2.1 0 0),(7,.int .i64 s.2.2.2)]) (O:=fun s g=>[(3,some (g.1,⟨false,true,3,40,[.agg [.int .i64 f2.Params,.sl (f2.Slots.map Po),.sl (f2.Code.map Pn)]]⟩)),(4,some (g.2.1,⟨false,true,1,29,[.agg [.nils]]⟩)),(6,some (g.2.2.1,⟨false,true,1,29,[.agg [.osl 19 g.2.2.2 0 s.2.2.1.length]]⟩)),(19,some (g.2.2.2,⟨false,false,1,30,s.2.2.1.map (eL Pa)⟩)),(8192,some (0,⟨false,true,2,99,[.agg [.sl (s.1.map eU8),.int .i64 s.2.1]]⟩))]) (body:=fun s=>Vj f2 s.1 s.2.1 s.2.2.1 s.2.2.2) (s:=(r8.2.list,r8.2.at_,([] : List (List Int)) ++ r3.Out,r8.1)) (_,_,_,_) ((hE ⟨rfl,r,r,r,r,trivial⟩ ⟨rfl,r,r,r,r,trivial⟩))<|?_
   rintro ⟨c9,c10,x11,n12⟩ ⟨v3x1,v4x1,v6x1,v19x1⟩ nn
   try dsimp only
   unfold Vj
   refine sC (E:=fun (_s : Unit) (g : Nat × Nat × Nat × Nat)=>[(0,.optr 8192 0 0 0),(3,.optr 3 g.1 0 0),(4,.optr 4 g.2.1 0 0),(6,.optr 6 g.2.2.1 0 0),(7,.int .i64 n12),(26,.optr 3 g.1 0 1),(27,.sl (f2.Slots.map Po)),(28,.int .i64 (f2.Slots.length : Int)),(29,.bool (decide ((f2.Slots.length : Int) > 0)))]) (O:=fun _ g=>[(3,some (g.1,⟨false,true,3,40,[.agg [.int .i64 f2.Params,.sl (f2.Slots.map Po),.sl (f2.Code.map Pn)]]⟩)),(4,some (g.2.1,⟨false,true,1,29,[.agg [.nils]]⟩)),(6,some (g.2.2.1,⟨false,true,1,29,[.agg [.osl 19 g.2.2.2 0 x11.length]]⟩)),(19,some (g.2.2.2,⟨false,false,1,30,x11.map (eL Pa)⟩)),(8192,some (0,⟨false,true,2,99,[.agg [.sl (c9.map eU8),.int .i64 c10]]⟩))]) (j:=fun _=>Vl c9 c10 f2 n12 x11) ?_ ?_
   ·exact B
   ·rintro ⟨⟩ ⟨v3x2,v4x2,v6x2,v19x2⟩ nn
    try dsimp only
    unfold Vl
    refine bC (E:=fun (_s : (List Int) × Int × (List (List Int))) (g : Nat × Nat × Nat × Nat)=>[(0,.optr 8192 0 0 0),(3,.optr 3 g.1 0 0),(4,.optr 4 g.2.1 0 0),(6,.optr 6 g.2.2.1 0 0),(7,.int .i64 n12),(26,.optr 3 g.1 0 1),(27,.sl (f2.Slots.map Po)),(28,.int .i64 (f2.Slots.length : Int)),(29,.bool (decide ((f2.Slots.length : Int) > 0)))]) (O:=fun s g=>[(3,some (g.1,⟨false,true,3,40,[.agg [.int .i64 f2.Params,.sl (f2.Slots.map Po),.sl (f2.Code.map Pn)]]⟩)),(4,some (g.2.1,⟨false,true,1,29,[.agg [.nils]]⟩)),(6,some (g.2.2.1,⟨false,true,1,29,[.agg [.osl 19 g.2.2.2 0 s.2.2.length]]⟩)),(19,some (g.2.2.2,⟨false,false,1,30,s.2.2.map (eL Pa)⟩)),(8192,some (0,⟨false,true,2,99,[.agg [.sl (s.1.map eU8),.int .i64 s.2.1]]⟩))]) (j:=fun s=>Re n12 s.1 s.2.1 s.2.2) ?_ ?_
    ·refine A 6 ?_
     refine bD fun r16 hr16=>?_
     refine A 8 ?_
     refine bD fun r17 hr17=>?_
     refine A 4 ?_
     refine cD r ?_ ?_
     ·refine A 7 ?_
      refine lP (E:=fun (s : (List (List Int)) × Int) (g : Nat × Nat × Nat × Nat)=>[(0,.optr 8192 0 0 0),(3,.optr 3 g.1 0 0),(4,.optr 4 g.2.1 0 0),(6,.optr 6 g.2.2.1 0 0),(7,.int .i64 n12),(8,.int .i64 r16.1),(9,.int .i64 s.2),(26,.optr 3 g.1 0 1),(27,.sl (f2.Slots.map Po)),(28,.int .i64 (f2.Slots.length : Int)),(29,.bool (decide ((f2.Slots.length : Int) > 0)))]) (O:=fun s g=>[(3,some (g.1,⟨false,true,3,40,[.agg [.int .i64 f2.Params,.sl (f2.Slots.map Po),.sl (f2.Code.map Pn)]]⟩)),(4,some (g.2.1,⟨false,true,1,29,[.agg [.nils]]⟩)),(6,some (g.2.2.1,⟨false,true,1,29,[.agg [.osl 19 g.2.2.2 0 s.1.length]]⟩)),(19,some (g.2.2.2,⟨false,false,1,30,s.1.map (eL Pa)⟩)),(8192,some (0,⟨false,true,2,99,[.agg [.sl (r17.2.list.map eU8),.int .i64 r17.2.at_]]⟩))]) (body:=fun s=>Vk r16 n12 r17 s.1 s.2) (s:=(x11,0)) (_,_,_,_) ((hE ⟨rfl,r,r,r,r,r,r,r,r,r,r,trivial⟩ ⟨rfl,r,r,r,r,trivial⟩))<|?_
      rintro ⟨x18,k19⟩ ⟨v3x3,v4x3,v6x3,v19x3⟩ nn
      try dsimp only
      unfold Vk
      refine A 10 ?_
      refine cD r ?_ ?_
      ·refine A 12 ?_
       refine bD fun x_e20 hx_e20=>?_
       refine A 2 ?_
       refine bD fun r21 hr21=>?_
       refine A 2 ?_
       refine bD fun x_o22 hx_o22=>sE (l:=x18) (en:=(eL Pa)) (q':=r21) r r r r r r r (by simp) hx_o22 r r r (by simp [PH,cells,eL]) r<|?_
       refine A 8 ?_
       exact xL (s:=(x18.set k19.toNat r21,IntKind.i64.wrap (k19 + 1))) (_,_,_,_) ((hE ⟨rfl,r,r,r,r,r,r,r,r,r,r,trivial⟩ ⟨rfl,r,(Eq.trans (b:=some (_,⟨false,true,1,29,[.agg [.osl 19 _ 0 x18.length]]⟩)) r (by simp)),r,r,trivial⟩))
      ·exact B
     ·refine A 8 ?_
      refine bD fun r23 hr23=>?_
      refine A 7 ?_
      refine bD fun r24 hr24=>?_
      refine A 4 ?_
      refine cD r ?_ ?_
      ·refine A 8 ?_
       refine bD fun x_e25 hx_e25=>?_
       refine A 2 ?_
       refine bD fun r26 hr26=>?_
       refine A 2 ?_
       refine bD fun x_o27 hx_o27=>sE (l:=x11) (en:=(eL Pa)) (q':=r26) r r r r r r r (by simp) hx_o27 r r r (by simp [PH,cells,eL]) r<|?_
       refine A 1 ?_
       exact AaY (s:=(r24.2.list,r24.2.at_,x11.set r23.1.toNat r26)) (_,_,_,_) ((hE ⟨rfl,r,r,r,r,r,r,r,r,trivial⟩ ⟨rfl,r,(Eq.trans (b:=some (_,⟨false,true,1,29,[.agg [.osl 19 _ 0 x11.length]]⟩)) r (by simp)),r,r,trivial⟩))
      ·refine A 8 ?_
       refine bD fun x_e28 hx_e28=>?_
       refine A 2 ?_
       refine bD fun r29 hr29=>?_
       refine A 2 ?_
       refine bD fun x_o30 hx_o30=>sE (l:=x11) (en:=(eL Pa)) (q':=r29) r r r r r r r (by simp) hx_o30 r r r (by simp [PH,cells,eL]) r<|?_
       refine A 1 ?_
       exact AaY (s:=(r24.2.list,r24.2.at_,x11.set r23.1.toNat r29)) (_,_,_,_) ((hE ⟨rfl,r,r,r,r,r,r,r,r,trivial⟩ ⟨rfl,r,(Eq.trans (b:=some (_,⟨false,true,1,29,[.agg [.osl 19 _ 0 x11.length]]⟩)) r (by simp)),r,r,trivial⟩))
    ·rintro ⟨c13,c14,x15⟩ ⟨v3x4,v4x4,v6x4,v19x4⟩ nn
     try dsimp only
     unfold Re
     exact B
  ·rintro ⟨c5,c6,x7⟩ ⟨v4x5,v6x5,v19x5⟩ nn
   try dsimp only
   unfold RT
   refine A 4 ?_
   refine bD fun r31 hr31=>?_
   refine A 10 ?_
   refine cD r ?_ ?_
   ·refine A 3 ?_
    refine cK fun hq=>Zf (l:=x7) r r r r r r hq<|?_
    refine A 12 ?_
    refine UR (b:=((Ph.mk (x7.drop ((1 : Int).toNat))),r31.2)) r ?_ r r ?_ (by first | rfl | (simp only; rfl) | (simp only [OW]; rfl) | (simp only [OV,OW]; rfl) | simp [VW,Qz])
    all_goals first|(simp;done)|(simp;omega)|rfl|(simp [PG,PE];done)
   ·refine A 6 ?_
    refine cD r ?_ ?_
    ·refine A 4 ?_
     refine bD fun r32 hr32=>?_
     refine A 2 ?_
     refine bD fun r33 hr33=>?_
     refine A 1 ?_
     refine bS ([r32.1,r33.1] : List Int) Pa r r r (by simp) r r r<|cK fun hq=>iO (l:=x7) (en:=(eL Pa)) r r r r r hq<|bD fun x_o34 hx_o34=>sE (l:=x7) (en:=(eL Pa)) (q':=([r32.1,r33.1] : List Int)) r r r r r r r (by simp) hx_o34 r r r (by simp [PH,cells,eL]) r<|?_
     refine A 10 ?_
     refine UR (b:=((Ph.mk (x7.set ((0 : Int).toNat) ([r32.1,r33.1] : List Int))),r33.2)) r ?_ r r ?_ (by first | rfl | (simp only; rfl) | (simp only; rfl) | (simp only; rfl) | simp [VW,Qz])
     all_goals first|(simp;done)|(simp;omega)|rfl|(simp [PG,PE];done)
    ·refine A 10 ?_
     refine UR (b:=((Ph.mk x7),r31.2)) r ?_ r r ?_ (by first | rfl | (simp only [OV]; rfl) | (simp only [OW]; rfl) | (simp only [OV,OW]; rfl) | simp [VW,Qz])
     all_goals first|(simp;done)|(simp;omega)|rfl|(simp [PG,PE];done)

def AlX (b : Int) : D:=.int .i64 b
noncomputable def YI : Dw.Spec:=Pf [] .ground UX UW (fun a=>RP a.1 a.2) AlX noE
theorem Aau : Pd Tryz.prog 24 YI:=by
 refine fn2 2 (Pv) Tryz.func24<|?_
 rintro ⟨p1,i2⟩
 unfold RP
 refine A 16 ?_
 refine bD fun x_x3 hx_x3=>?_
 refine A 13 ?_
 refine lP (E:=fun (s : Int × Int) (g : Nat)=>[(2,.optr 2 g 0 0),(5,.int .i64 s.1),(6,.sl (x_x3.Code.map Pn)),(7,.int .i64 s.2)]) (O:=fun _ g=>[(2,some (g,⟨false,true,1,26,[.agg [.sl (p1.Funcs.map PM)]]⟩))]) (body:=fun s=>XA x_x3 p1 s.1 s.2) (s:=(0,0)) _ ((hE ⟨rfl,r,r,r,trivial⟩ ⟨rfl,trivial⟩))<|?_
 rintro ⟨n4,k5⟩ v2x1 nn
 try dsimp only
 unfold XA
 exact B

def Ako (b : Bool) : D:=.bool b
noncomputable def Xu : Dw.Spec:=Pf [] .ground PY PX (fun a=>Sk a) Ako noE
theorem YX : Pd Tryz.prog 47 Xu:=by
 refine fn2 1 (Pv) Tryz.func47<|?_
 intro a
 unfold Sk
 exact B

def Ant (b : Int × Int) : D:=.tup [.int .i64 b.1,.int .i64 b.2]
noncomputable def AcG : Dw.Spec:=Pf [] .ground TU TT (fun a=>VP a.1 a.2) Ant noE
theorem Aec : Pd Tryz.prog 33 AcG:=by
 refine fn2 2 (Pk (l:=[(47,Xu),(58,Aai)]) (by simp [YX,AbL])) Tryz.func33<|?_
 rintro ⟨n1,align2⟩
 unfold VP
 refine A 6 ?_
 refine sC (E:=fun (_s : Unit) (_g : Unit)=>[(0,.int .i64 n1),(1,.int .i64 align2)]) (O:=fun _ _=>[]) (j:=fun _=>ZR align2 n1) ?_ ?_
 ·exact B
 ·rintro ⟨⟩ ⟨⟩ nn
  try dsimp only
  unfold ZR
  refine A 6 ?_
  refine sC (E:=fun (s : Int) (_g : Unit)=>[(6,.int .i64 s)]) (O:=fun _ _=>[]) (j:=fun s=>VQ s) ?_ ?_
  ·exact B
  ·rintro m5 ⟨⟩ nn
   try dsimp only
   unfold VQ
   exact B

def Tf (b : Pg × Int) : D:=.tup [Qh b.1,.int .i64 b.2]
noncomputable def Aaz : Dw.Spec:=Pf [] .val Ub Ua (fun a=>Sf a.1 a.2.1 a.2.2) Tf noE
theorem AcA : Pd Tryz.prog 11 Aaz:=by
 refine fn2 3 (Pk (l:=[(24,YI),(33,AcG)]) (by simp [Aau,Aec])) Tryz.func11<|?_
 rintro ⟨p1,i2,align3⟩
 unfold Sf
 refine A 11 ?_
 refine bD fun r4 hr4=>?_
 refine A 18 ?_
 refine bD fun x_x5 hx_x5=>?_
 refine A 13 ?_
 refine lP (E:=fun (s : (List Int) × Int × Int) (g : Nat × Nat × Nat × Nat)=>[(2,.int .i64 align3),(6,.optr 6 g.1 0 0),(8,.optr 8 g.2.1 0 0),(9,.int .i64 s.2.2),(10,.sl (x_x5.Slots.map Po)),(11,.int .i64 s.2.1)]) (O:=fun s g=>[(6,some (g.1,⟨false,true,3,32,[.agg [.int .i64 0,.int .i64 0,.osl 2900 g.2.2.1 0 (([] : List Int).length)]]⟩)),(8,some (g.2.1,⟨false,true,3,32,[.agg [.int .i64 r4,.int .i64 0,.osl 2901 g.2.2.2 0 s.1.length]]⟩)),(2900,some (g.2.2.1,⟨false,false,1,3,([] : List Int).map Pa⟩)),(2901,some (g.2.2.2,⟨false,false,1,3,s.1.map Pa⟩))]) (body:=fun s=>Wh x_x5 align3 r4 s.1 s.2.1 s.2.2) (s:=(([] : List Int),0,r4)) (_,_,_,_) ((Oc (gg:=6) (off:=2) (tt:=2900) (s:=1) (tyy:=3) r r r r (Oc (gg:=8) (off:=2) (tt:=2901) (s:=1) (tyy:=3) r r r r (hE ⟨rfl,r,r,r,r,r,trivial⟩ ⟨rfl,r,r,r,trivial⟩))))<|?_
 rintro ⟨x6,k7,end8⟩ ⟨v6x1,v8x1,v2900x1,v2901x1⟩ nn
 try dsimp only
 unfold Wh
 refine A 9 ?_
 refine cD r ?_ ?_
 ·refine A 9 ?_
  refine bD fun x_x9 hx_x9=>?_
  refine A 3 ?_
  refine bD fun r10 hr10=>?_
  refine A 8 ?_
  refine sC (E:=fun (s : Pm × Pm × Int × Int × Bool) (g : Nat × Nat × Nat × Nat)=>[(2,.int .i64 align3),(6,.optr 6 g.1 0 0),(8,.optr 8 g.2.1 0 0),(10,.sl (x_x5.Slots.map Po)),(11,.int .i64 k7),(12,.int .i64 r10.1),(48,.int .i64 r10.1),(49,.sl (x_x5.Slots.map Po)),(50,.int .i64 k7),(51,.fptr (.agg [.int .i64 s.1.Size,.int .i64 s.1.Align]) 0),(52,.fptr (.agg [.int .i64 s.2.1.Size,.int .i64 s.2.1.Align]) 0),(53,.int .i64 s.2.2.1),(54,.int .i64 s.2.2.2.1),(55,.bool s.2.2.2.2)]) (O:=fun _ g=>[(6,some (g.1,⟨false,true,3,32,[.agg [.int .i64 0,.int .i64 0,.osl 2900 g.2.2.1 0 (([] : List Int).length)]]⟩)),(8,some (g.2.1,⟨false,true,3,32,[.agg [.int .i64 r4,.int .i64 0,.osl 2901 g.2.2.2 0 x6.length]]⟩)),(2900,some (g.2.2.1,⟨false,false,1,3,([] : List Int).map Pa⟩)),(2901,some (g.2.2.2,⟨false,false,1,3,x6.map Pa⟩))]) (j:=fun s=>Wi x6 r10 x_x5 k7 s.1 s.2.1 s.2.2.1 s.2.2.2.1 s.2.2.2.2) ?_ ?_
  ·refine A 5 ?_
   refine Abk r ?_ ?_
   ·refine A 26 ?_
    refine Qu (b:=((Pg.mk 0 0 ([])),9)) r ?_ r r ?_ (by first | rfl | (simp only [OV]; rfl) | (simp only [OW]; rfl) | (simp only [OV,OW]; rfl) | simp [Tf,Qh]) (by decide)
    all_goals first|(simp;done)|(simp;omega)|rfl|(simp [PG,PE];done)
   ·refine A 3 ?_
    refine bD fun x_x16 hx_x16=>?_
    refine A 8 ?_
    refine cD r ?_ ?_
    ·refine A 14 ?_
     refine Qu (b:=((Pg.mk 0 0 ([])),9)) r ?_ r r ?_ (by first | rfl | (simp only [OV]; rfl) | (simp only [OW]; rfl) | (simp only [OV,OW]; rfl) | simp [Tf,Qh]) (by decide)
     all_goals first|(simp;done)|(simp;omega)|rfl|(simp [PG,PE];done)
    ·exact B
  ·rintro ⟨x11,x12,x13,x14,x15⟩ ⟨v6x2,v8x2,v2900x2,v2901x2⟩ nn
   try dsimp only
   unfold Wi
   refine A 22 ?_
   refine bD fun x_x17 hx_x17=>?_
   refine A 13 ?_
   exact xL (s:=((([] : List Int) ++ x6) ++ ([r10.1] : List Int),IntKind.i64.wrap (k7 + 1),IntKind.i64.wrap (r10.1 + x_x17.Size))) (_,_,_,_) ((Ahq (E1:=[(2,.int .i64 align3),(6,.optr 6 _ 0 0),(8,.optr 8 _ 0 0),(9,.int .i64 (IntKind.i64.wrap (r10.1 + x_x17.Size))),(10,.sl (x_x5.Slots.map Po)),(11,.int .i64 (IntKind.i64.wrap (k7 + 1)))]) (O1:=[(6,some (_,⟨false,true,3,32,[.agg [.int .i64 0,.int .i64 0,.osl 2900 _ 0 (([] : List Int).length)]]⟩)),(8,some (_,⟨false,true,3,32,[.agg [.int .i64 r4,.int .i64 0,.osl 14 _ 0 (((([] : List Int) ++ x6) ++ ([r10.1] : List Int)).length)]]⟩)),(14,some (_,⟨false,false,1,3,((([] : List Int) ++ x6) ++ ([r10.1] : List Int)).map Pa⟩)),(2900,some (_,⟨false,false,1,3,([] : List Int).map Pa⟩))]) (hE ⟨rfl,r,r,r,r,r,trivial⟩ ⟨rfl,r,r,r,trivial⟩) (fun _=>Ahp (fun g=>bif Nat.beq g 14 then 2901 else g) (by rfl) (hE ⟨rfl,r,r,r,r,r,trivial⟩ ⟨rfl,r,r,r,trivial⟩))))
 ·refine A 9 ?_
  refine bD fun r18 hr18=>?_
  refine A 14 ?_
  refine Abk r ?_ ?_
  ·refine A 15 ?_
   refine Qu (b:=((Pg.mk 0 0 ([])),9)) r ?_ r r ?_ (by first | rfl | (simp only [OV]; rfl) | (simp only [OW]; rfl) | (simp only [OV,OW]; rfl) | simp [Tf,Qh]) (by decide)
   all_goals first|(simp;done)|(simp;omega)|rfl|(simp [PG,PE];done)
  ·refine A 5 ?_
   refine cD r ?_ ?_
   ·refine A 9 ?_
    refine Qu (b:=((Pg.mk 0 0 ([])),9)) r ?_ r r ?_ (by first | rfl | (simp only [OV]; rfl) | (simp only [OW]; rfl) | (simp only [OV,OW]; rfl) | simp [Tf,Qh]) (by decide)
    all_goals first|(simp;done)|(simp;omega)|rfl|(simp [PG,PE];done)
   ·refine A 17 ?_
    refine Qu (b:=((Pg.mk r4 r18.1 x6),0)) r ?_ r r ?_ (by first | rfl | (simp only [OV]; rfl) | (simp only [OW]; rfl) | (simp only [OV,OW]; rfl) | simp [Tf,Qh]) (by decide)
    all_goals first|(simp;done)|(simp;omega)|rfl|(simp [PG,PE];done)

def Sx (a : (List Int)) : List D:=[.sl (a.map Pa)]
def Sw (ds : List D) : (List Int):=(uL uI) (ds.getD 0 .top)
theorem Ajl (a : (List Int)) : Sw (Sx a) = a:=by simp [Sw,Sx,PV (u:=uI) (en:=Pa) (fun _=>rfl)]
instance : Px Sx Sw:=⟨Ajl⟩
def Aku (b : Bool) : D:=.bool b
noncomputable def Aci : Dw.Spec:=Pf [] .ground Sx Sw (fun a=>XF a) Aku noE
theorem Aex : Pd Tryz.prog 71 Aci:=by
 refine fn2 1 (Pk (l:=[(57,Adb)]) (by simp [Afj])) Tryz.func71<|?_
 intro s1
 unfold XF
 refine A 12 ?_
 refine lP (E:=fun (s : Int) (_g : Unit)=>[(0,.sl (s1.map Pa)),(3,.int .i64 s)]) (O:=fun _ _=>[]) (body:=fun s=>Sc s1 s) (s:=0) () ((hE ⟨rfl,r,trivial⟩ trivial))<|?_
 rintro i2 ⟨⟩ nn
 try dsimp only
 unfold Sc
 exact B

def AkH (b : Bool) : D:=.bool b
noncomputable def Ack : Dw.Spec:=Pf [] .ground Ql Qk (fun a=>XH a.1 a.2) AkH noE
theorem AeB : Pd Tryz.prog 62 Ack:=by
 refine fn2 2 (Pk (l:=[(71,Aci)]) (by simp [Aex])) Tryz.func62<|?_
 rintro ⟨f1,l2⟩
 unfold XH
 refine A 19 ?_
 refine cD r ?_ ?_
 ·exact B
 ·refine A 9 ?_
  refine lP (E:=fun (s : Int) (g : Nat × Nat)=>[(2,.optr 2 g.1 0 0),(3,.optr 3 g.2 0 0),(5,.int .i64 s)]) (O:=fun _ g=>[(2,some (g.1,⟨false,true,3,40,[.agg [.int .i64 f1.Params,.sl (f1.Slots.map Po),.sl (f1.Code.map Pn)]]⟩)),(3,some (g.2,⟨false,true,1,29,[.agg [.sl (l2.Out.map (eL Pa))]]⟩))]) (body:=fun s=>Zi l2 f1 s) (s:=0) (_,_) ((hE ⟨rfl,r,r,trivial⟩ ⟨rfl,r,trivial⟩))<|?_
  rintro k3 ⟨v2x1,v3x1⟩ nn
  try dsimp only
  unfold Zi
  exact B

def AmC (b : Bool) : D:=.bool b
noncomputable def XG : Dw.Spec:=Pf [] .ground Rj Ri (fun a=>TB a.1 a.2) AmC noE
theorem YC : Pd Tryz.prog 15 XG:=by
 refine fn2 2 (Pv) Tryz.func15<|?_
 rintro ⟨s1,n2⟩
 unfold TB
 refine A 12 ?_
 refine lP (E:=fun (s : Int) (_g : Unit)=>[(0,.sl (s1.map Pa)),(1,.int .i64 n2),(5,.int .i64 s)]) (O:=fun _ _=>[]) (body:=fun s=>Wv s1 n2 s) (s:=0) () ((hE ⟨rfl,r,r,trivial⟩ trivial))<|?_
 rintro i3 ⟨⟩ nn
 try dsimp only
 unfold Wv
 exact B

def Akv (b : (List Int)) : D:=.sl (b.map Pa)
noncomputable def Afi : Dw.Spec:=Pf [] (.row 1 3) RI RG (fun a=>ZS a.1 a.2) Akv noE
theorem Ajm : Pd Tryz.prog 116 Afi:=by
 refine fn2 2 (Pk (l:=[(15,XG)]) (by simp [YC])) Tryz.func116<|?_
 rintro ⟨a1,b2⟩
 unfold ZS
 refine A 17 ?_
 refine lP (E:=fun (s : (List Int) × Int) (g : Nat)=>[(0,.sl (a1.map Pa)),(1,.sl (b2.map Pa)),(5,.osl 5 g 0 s.1.length),(6,.int .i64 s.2)]) (O:=fun s g=>[(5,some (g,⟨false,false,1,3,s.1.map Pa⟩))]) (body:=fun s=>Ta a1 b2 s.1 s.2) (s:=(([] : List Int),0)) _ ((hE ⟨rfl,r,r,r,trivial⟩ ⟨rfl,trivial⟩))<|?_
 rintro ⟨out3,i4⟩ v5x1 nn
 try dsimp only
 unfold Ta
 exact B

def Ud (a : OX × Ph × Int) : List D:=[PM a.1,Qz a.2.1,.int .i64 a.2.2]
def Uc (ds : List D) : OX × Ph × Int:=(SS (ds.getD 0 .top),Wj (ds.getD 1 .top),uI (ds.getD 2 .top))
theorem AhM (a : OX × Ph × Int) : Uc (Ud a) = a:=by simp [Uc,Ud,uI]
instance : Px Ud Uc:=⟨AhM⟩
def Aiy (b : (List Int)) : D:=.sl (b.map Pa)
noncomputable def AdC : Dw.Spec:=Pf [] (.row 1 3) Ud Uc (fun a=>Xy a.1 a.2.1 a.2.2) Aiy noE
theorem AhN : Pd Tryz.prog 87 AdC:=by
 refine fn2 3 (Pk (l:=[(63,Adc),(65,AeY),(116,Afi),(64,Xx)]) (by simp [Afk,Ahi,Ajm,Za])) Tryz.func87<|?_
 rintro ⟨f1,l2,k3⟩
 unfold Xy
 refine A 16 ?_
 refine bD fun r4 hr4=>?_
 refine A 11 ?_
 refine lP (E:=fun (s : (List Int) × Int) (g : Nat × Nat × Nat × Nat)=>[(2,.int .i64 k3),(3,.optr 3 g.1 0 0),(4,.optr 4 g.2.1 0 0),(7,.osl 7 g.2.2.1 0 s.1.length),(8,.osl 8 g.2.2.2 0 r4.length),(9,.int .i64 s.2)]) (O:=fun s g=>[(3,some (g.1,⟨false,true,3,40,[.agg [.int .i64 f1.Params,.sl (f1.Slots.map Po),.sl (f1.Code.map Pn)]]⟩)),(4,some (g.2.1,⟨false,true,1,29,[.agg [.sl (l2.Out.map (eL Pa))]]⟩)),(7,some (g.2.2.1,⟨false,false,1,3,s.1.map Pa⟩)),(8,some (g.2.2.2,⟨false,false,1,3,r4.map Pa⟩))]) (body:=fun s=>Tb r4 f1 l2 k3 s.1 s.2) (s:=(([] : List Int),0)) (_,_,_,_) ((hE ⟨rfl,r,r,r,r,r,trivial⟩ ⟨rfl,r,r,r,trivial⟩))<|?_
 rintro ⟨out5,i6⟩ ⟨v3x1,v4x1,v7x1,v8x1⟩ nn
 try dsimp only
 unfold Tb
 exact B

end Go.Proofs.YtnldnldmgceooaaGreatDoor
