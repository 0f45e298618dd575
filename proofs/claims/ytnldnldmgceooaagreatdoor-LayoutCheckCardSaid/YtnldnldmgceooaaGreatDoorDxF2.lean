/-
  Programs on typed data, and the proofs that the code does what they say; written by a program (dx.py).
-/
import Derived.Test.YtnldnldmgceooaaGreatDoorProg
import Derived.Test.YtnldnldmgceooaaGreatDoorDd
import Derived.KernelRfl
import Derived.Test.YtnldnldmgceooaaGreatDoorDxP
import Derived.Test.YtnldnldmgceooaaGreatDoorDxF1
namespace Go.Proofs.YtnldnldmgceooaaGreatDoor
open Go Go.Dw Go.Proofs
set_option maxRecDepth 100000
set_option maxHeartbeats 4000000
open Go.Dw renaming QU → bD,PN → cK,AcW → bS,Aey → aP,Ue → sE,AbD → iO,Acy → cD,AeS → xL,Aah → hE,Aez → lP,AaZ → sC,Zg → bC,rf → r
def Wp (a : OX × Int) : List D:=[PI a.1,.int .i64 a.2]
def Wo (ds : List D) : OX × Int:=(Ss (ds.getD 0 .top),uI (ds.getD 1 .top))
theorem AkV (a : OX × Int) : Wo (Wp a) = a:=by simp [Wo,Wp,uI]
instance : Px Wp Wo:=⟨AkV⟩
def Amr (b : (List Int)) : D:=.sl (b.map OZ)
noncomputable def Adq : Dw.Spec:=Pf [] (.row 1 3) Wp Wo (fun a=>YP a.1 a.2) Amr noE
theorem AfE : Pd Tryz.prog 63 Adq:=by
 refine fn2 2 (Pv) Tryz.func63<|?_
 rintro ⟨f1,k2⟩
 unfold YP
 refine A 6 ?_
 refine sC (E:=fun (_s : Unit) (g : Nat)=>[(1,.int .i64 k2),(2,.optr 2 g 0 0)]) (O:=fun _ g=>[(2,some (g,⟨false,true,3,40,[.agg [.int .i64 f1.Params,.sl (f1.Slots.map Pn),.sl (f1.Code.map Pm)]]⟩))]) (j:=fun _=>Aaj f1 k2) ?_ ?_
 ·exact B
 ·rintro ⟨⟩ v2x1 nn
  try dsimp only
  unfold Aaj
  refine A 5 ?_
  refine bD fun x_x3 hx_x3=>?_
  refine A 20 ?_
  refine cD r ?_ ?_
  ·exact B
  ·refine sC (E:=fun (s : Bool) (g : Nat)=>[(1,.int .i64 k2),(5,.optr 5 g 0 0),(21,.int .i64 x_x3.Op),(27,.bool s)]) (O:=fun _ g=>[(5,some (g,⟨false,true,5,50,[.agg [.int .i64 x_x3.Op,.int .i64 x_x3.A,.int .i64 x_x3.B,.int .i64 x_x3.C,.int .u64 x_x3.Imm]]⟩))]) (j:=fun s=>Rj x_x3 k2 s) ?_ ?_
   ·exact B
   ·rintro x4 v5x2 nn
    try dsimp only
    unfold Rj
    refine cD r ?_ ?_
    ·exact B
    ·refine A 6 ?_
     refine cD r ?_ ?_
     ·refine A 11 ?_
      refine cD r ?_ ?_
      ·refine A 6 ?_
       refine bS ([x_x3.B,IntKind.i64.wrap (k2 + 1)] : List Int) OZ r r r (by simp) r r r<|?_
       exact B
      ·refine A 10 ?_
       refine cD r ?_ ?_
       ·refine A 6 ?_
        refine bS ([IntKind.i64.wrap (k2 + 1),x_x3.B] : List Int) OZ r r r (by simp) r r r<|?_
        exact B
       ·exact B
     ·exact B

def Qs (a : Pa) : List D:=[Pm a]
def Qr (ds : List D) : Pa:=Aco (ds.getD 0 .top)
theorem AgE (a : Pa) : Qr (Qs a) = a:=by simp [Qr,Qs]
instance : Px Qs Qr:=⟨AgE⟩
def Ahx (b : Bool) : D:=.bool b
noncomputable def ZG : Dw.Spec:=Pf [] .ground Qs Qr (fun a=>RA a) Ahx noE
theorem Acm : Pd Tryz.prog 37 ZG:=by
 refine fn2 1 (Pv) Tryz.func37<|?_
 intro a
 unfold RA
 exact B

def AiT (b : Int × Bool) : D:=.tup [.int .i64 b.1,.bool b.2]
noncomputable def TG : Dw.Spec:=Pf [] .ground Qs Qr (fun a=>Rk a) AiT noE
theorem UJ : Pd Tryz.prog 14 TG:=by
 refine fn2 1 (Pk (l:=[(37,ZG)]) (by simp [Acm])) Tryz.func14<|?_
 intro a
 unfold Rk
 exact B

def Re (a : (List Int) × Int) : List D:=[.sl (a.1.map OZ),.int .i64 a.2]
def Rc (ds : List D) : (List Int) × Int:=((uL uI) (ds.getD 0 .top),uI (ds.getD 1 .top))
theorem AiR (a : (List Int) × Int) : Rc (Re a) = a:=by simp [Rc,Re,uI,PV (u:=uI) (en:=OZ) (fun _=>rfl)]
instance : Px Re Rc:=⟨AiR⟩
def AjJ (b : (List Int)) : D:=.sl (b.map OZ)
noncomputable def AbU : Dw.Spec:=Pf [] (.row 1 3) Re Rc (fun a=>Wm a.1 a.2) AjJ noE
theorem AdO : Pd Tryz.prog 54 AbU:=by
 refine fn2 2 (Pv) Tryz.func54<|?_
 rintro ⟨s1,n2⟩
 unfold Wm
 refine A 17 ?_
 refine lP (E:=fun (s : (List Int) × Int) (g : Nat)=>[(0,.sl (s1.map OZ)),(1,.int .i64 n2),(5,.osl 5 g 0 s.1.length),(6,.int .i64 s.2)]) (O:=fun s g=>[(5,some (g,⟨false,false,1,3,s.1.map OZ⟩))]) (body:=fun s=>Sp s1 n2 s.1 s.2) (s:=(([] : List Int),0)) _ ((hE ⟨rfl,r,r,r,trivial⟩ ⟨rfl,trivial⟩))<|?_
 rintro ⟨out3,i4⟩ v5x1 nn
 try dsimp only
 unfold Sp
 exact B

def Ams (b : (List Int)) : D:=.sl (b.map OZ)
noncomputable def Ads : Dw.Spec:=Pf [] (.row 1 3) Qs Qr (fun a=>Uk a) Ams noE
theorem AfF : Pd Tryz.prog 88 Ads:=by
 refine fn2 1 (Pv) Tryz.func88<|?_
 intro a
 unfold Uk
 exact B

def Amq (b : Bool) : D:=.bool b
noncomputable def Adp : Dw.Spec:=Pf [] .ground PZ PY (fun a=>VA a) Amq noE
theorem AfD : Pd Tryz.prog 57 Adp:=by
 refine fn2 1 (Pv) Tryz.func57<|?_
 intro a
 unfold VA
 exact B

def Ang (b : (List Int)) : D:=.sl (b.map OZ)
noncomputable def Xo : Dw.Spec:=Pf [] (.row 1 3) Re Rc (fun a=>Sy a.1 a.2) Ang noE
theorem Yp : Pd Tryz.prog 32 Xo:=by
 refine fn2 2 (Pk (l:=[(57,Adp)]) (by simp [AfD])) Tryz.func32<|?_
 rintro ⟨s1,n2⟩
 unfold Sy
 refine A 13 ?_
 refine bD fun r3 hr3=>?_
 refine A 12 ?_
 refine lP (E:=fun (s : (List Int) × Bool × Int) (g : Nat)=>[(0,.sl (s1.map OZ)),(1,.int .i64 n2),(5,.osl 5 g 0 s.1.length),(6,.bool s.2.1),(7,.int .i64 s.2.2)]) (O:=fun s g=>[(5,some (g,⟨false,false,1,3,s.1.map OZ⟩))]) (body:=fun s=>Rb s1 n2 s.1 s.2.1 s.2.2) (s:=(([] : List Int),(!r3),0)) _ ((hE ⟨rfl,r,r,r,r,trivial⟩ ⟨rfl,trivial⟩))<|?_
 rintro ⟨out4,done5,i6⟩ v5x1 nn
 try dsimp only
 unfold Rb
 refine A 9 ?_
 refine cD r ?_ ?_
 ·refine A 4 ?_
  refine sC (E:=fun (s : (List Int) × Bool) (g : Nat)=>[(0,.sl (s1.map OZ)),(1,.int .i64 n2),(5,.osl 5 g 0 s.1.length),(6,.bool s.2),(7,.int .i64 i6)]) (O:=fun s g=>[(5,some (g,⟨false,false,1,3,s.1.map OZ⟩))]) (j:=fun s=>Sl s1 i6 s.1 s.2) ?_ ?_
  ·refine sC (E:=fun (s : Bool) (g : Nat)=>[(0,.sl (s1.map OZ)),(1,.int .i64 n2),(5,.osl 5 g 0 out4.length),(6,.bool done5),(7,.int .i64 i6),(26,.bool s)]) (O:=fun _ g=>[(5,some (g,⟨false,false,1,3,out4.map OZ⟩))]) (j:=fun s=>Tt s1 i6 n2 out4 done5 s) ?_ ?_
   ·exact B
   ·rintro x9 v5x2 nn
    try dsimp only
    unfold Tt
    exact B
  ·rintro ⟨out7,done8⟩ v5x3 nn
   try dsimp only
   unfold Sl
   exact B
 ·exact B

def Rz (a : (List Int) × (List Int)) : List D:=[.sl (a.1.map OZ),.sl (a.2.map OZ)]
def Ry (ds : List D) : (List Int) × (List Int):=((uL uI) (ds.getD 0 .top),(uL uI) (ds.getD 1 .top))
theorem AjK (a : (List Int) × (List Int)) : Ry (Rz a) = a:=by simp [Ry,Rz,PV (u:=uI) (en:=OZ) (fun _=>rfl)]
instance : Px Rz Ry:=⟨AjK⟩
def AkT (b : (List Int)) : D:=.sl (b.map OZ)
noncomputable def Xf : Dw.Spec:=Pf [] (.row 1 3) Rz Ry (fun a=>Tk a.1 a.2) AkT noE
theorem YO : Pd Tryz.prog 64 Xf:=by
 refine fn2 2 (Pk (l:=[(32,Xo)]) (by simp [Yp])) Tryz.func64<|?_
 rintro ⟨a1,b2⟩
 unfold Tk
 refine A 19 ?_
 refine lP (E:=fun (s : (List Int) × Int) (g : Nat)=>[(1,.sl (b2.map OZ)),(5,.osl 5 g 0 s.1.length),(6,.int .i64 s.2)]) (O:=fun s g=>[(5,some (g,⟨false,false,1,3,s.1.map OZ⟩))]) (body:=fun s=>Ut b2 s.1 s.2) (s:=(([] : List Int) ++ a1,0)) _ ((hE ⟨rfl,r,r,trivial⟩ ⟨rfl,trivial⟩))<|?_
 rintro ⟨out3,i4⟩ v5x1 nn
 try dsimp only
 unfold Ut
 exact B

def Ws (a : Pa × (List Int)) : List D:=[Pm a.1,.sl (a.2.map OZ)]
def Wq (ds : List D) : Pa × (List Int):=(Aco (ds.getD 0 .top),(uL uI) (ds.getD 1 .top))
theorem Ani (a : Pa × (List Int)) : Wq (Ws a) = a:=by simp [Wq,Ws,PV (u:=uI) (en:=OZ) (fun _=>rfl)]
instance : Px Ws Wq:=⟨Ani⟩
def AnW (b : (List Int)) : D:=.sl (b.map OZ)
noncomputable def Afs : Dw.Spec:=Pf [] (.row 1 3) Ws Wq (fun a=>AbV a.1 a.2) AnW noE
theorem AhJ : Pd Tryz.prog 65 Afs:=by
 refine fn2 2 (Pk (l:=[(14,TG),(54,AbU),(88,Ads),(64,Xf)]) (by simp [UJ,AdO,AfF,YO])) Tryz.func65<|?_
 intro a
 unfold AbV
 exact B

def Ql (a : OX × Pg) : List D:=[PI a.1,Qi a.2]
def Qk (ds : List D) : OX × Pg:=(Ss (ds.getD 0 .top),UW (ds.getD 1 .top))
theorem Ala (a : OX × Pg) : Qk (Ql a) = a:=by simp [Qk,Ql]
instance : Px Ql Qk:=⟨Ala⟩
def AgG (b : Pg) : D:=Qi b
noncomputable def AgH : Dw.Spec:=Pf [] .val Ql Qk (fun a=>Abr a.1 a.2) AgG noE
theorem Alb : Pd Tryz.prog 39 AgH:=by
 refine fn2 2 (Pk (l:=[(63,Adq),(65,Afs),(64,Xf)]) (by simp [AfE,AhJ,YO])) Tryz.func39<|?_
 rintro ⟨f1,l2⟩
 unfold Abr
 refine A 12 ?_
 refine cK fun hq=>AdU (α:=Int) r r r hq r<|?_
 refine A 4 ?_
 refine VC (E:=[(2,.optr 2 _ 0 0),(3,.optr 3 _ 0 0),(4,.optr 4 _ 0 0),(5,.optr 5 _ 0 0)]) (O:=[(2,some (_,⟨false,true,3,40,[.agg [.int .i64 f1.Params,.sl (f1.Slots.map Pn),.sl (f1.Code.map Pm)]]⟩)),(3,some (_,⟨false,true,1,29,[.agg [.sl (l2.Out.map (eL OZ))]]⟩)),(4,some (_,⟨false,true,1,29,[.agg [.nils]]⟩)),(5,some (_,⟨false,true,1,29,[.agg [.osl 13 _ 0 ((List.replicate (f1.Code.length : Int).toNat ([] : (List Int))).length)]]⟩)),(13,some (_,⟨false,false,1,30,(List.replicate (f1.Code.length : Int).toNat ([] : (List Int))).map (eL OZ)⟩))]) ((AfM (g:=13) r (Aht (l:=List.replicate (f1.Code.length : Int).toNat ([] : (List Int))) OZ (fun _ h=>List.eq_of_mem_replicate h)) (hE ⟨rfl,r,r,r,trivial⟩ ⟨rfl,r,r,r,r,trivial⟩))) fun nn=>?_
 refine A 7 ?_
 refine lP (E:=fun (s : (List (List Int)) × Int) (g : Nat × Nat × Nat × Nat × Nat)=>[(2,.optr 2 g.1 0 0),(3,.optr 3 g.2.1 0 0),(4,.optr 4 g.2.2.1 0 0),(5,.optr 5 g.2.2.2.1 0 0),(6,.int .i64 s.2)]) (O:=fun s g=>[(2,some (g.1,⟨false,true,3,40,[.agg [.int .i64 f1.Params,.sl (f1.Slots.map Pn),.sl (f1.Code.map Pm)]]⟩)),(3,some (g.2.1,⟨false,true,1,29,[.agg [.sl (l2.Out.map (eL OZ))]]⟩)),(4,some (g.2.2.1,⟨false,true,1,29,[.agg [.nils]]⟩)),(5,some (g.2.2.2.1,⟨false,true,1,29,[.agg [.osl 13 g.2.2.2.2 0 s.1.length]]⟩)),(13,some (g.2.2.2.2,⟨false,false,1,30,s.1.map (eL OZ)⟩))]) (body:=fun s=>Ve f1 l2 s.1 s.2) (s:=(List.replicate (f1.Code.length : Int).toNat ([] : (List Int)),0)) (_,_,_,_,_) ((hE ⟨rfl,r,r,r,r,trivial⟩ ⟨rfl,r,r,r,r,trivial⟩))<|?_
 rintro ⟨x3,k4⟩ ⟨v2x1,v3x1,v4x1,v5x1,v13x1⟩ nn
 try dsimp only
 unfold Ve
 refine A 10 ?_
 refine cD r ?_ ?_
 ·refine A 2 ?_
  refine bC (E:=fun (_s : (List (List Int))) (g : Nat × Nat × Nat × Nat × Nat)=>[(2,.optr 2 g.1 0 0),(3,.optr 3 g.2.1 0 0),(4,.optr 4 g.2.2.1 0 0),(5,.optr 5 g.2.2.2.1 0 0),(6,.int .i64 k4)]) (O:=fun s g=>[(2,some (g.1,⟨false,true,3,40,[.agg [.int .i64 f1.Params,.sl (f1.Slots.map Pn),.sl (f1.Code.map Pm)]]⟩)),(3,some (g.2.1,⟨false,true,1,29,[.agg [.sl (l2.Out.map (eL OZ))]]⟩)),(4,some (g.2.2.1,⟨false,true,1,29,[.agg [.nils]]⟩)),(5,some (g.2.2.2.1,⟨false,true,1,29,[.agg [.osl 13 g.2.2.2.2 0 s.length]]⟩)),(13,some (g.2.2.2.2,⟨false,false,1,30,s.map (eL OZ)⟩))]) (j:=fun s=>Aal k4 s) ?_ ?_
  ·refine A 4 ?_
   refine bD fun r6 hr6=>?_
   refine A 10 ?_
   refine lP (E:=fun (s : (List (List Int)) × Int) (g : Nat × Nat × Nat × Nat × Nat × Nat)=>[(2,.optr 2 g.1 0 0),(3,.optr 3 g.2.1 0 0),(4,.optr 4 g.2.2.1 0 0),(5,.optr 5 g.2.2.2.1 0 0),(6,.int .i64 k4),(7,.osl 7 g.2.2.2.2.1 0 r6.length),(8,.int .i64 s.2)]) (O:=fun s g=>[(2,some (g.1,⟨false,true,3,40,[.agg [.int .i64 f1.Params,.sl (f1.Slots.map Pn),.sl (f1.Code.map Pm)]]⟩)),(3,some (g.2.1,⟨false,true,1,29,[.agg [.sl (l2.Out.map (eL OZ))]]⟩)),(4,some (g.2.2.1,⟨false,true,1,29,[.agg [.nils]]⟩)),(5,some (g.2.2.2.1,⟨false,true,1,29,[.agg [.osl 13 g.2.2.2.2.2 0 s.1.length]]⟩)),(7,some (g.2.2.2.2.1,⟨false,false,1,3,r6.map OZ⟩)),(13,some (g.2.2.2.2.2,⟨false,false,1,30,s.1.map (eL OZ)⟩))]) (body:=fun s=>Vf r6 k4 f1 l2 s.1 s.2) (s:=(x3,0)) (_,_,_,_,_,_) ((hE ⟨rfl,r,r,r,r,r,r,trivial⟩ ⟨rfl,r,r,r,r,r,trivial⟩))<|?_
   rintro ⟨x7,i8⟩ ⟨v2x2,v3x2,v4x2,v5x2,v7x2,v13x2⟩ nn
   try dsimp only
   unfold Vf
   refine A 9 ?_
   refine cD r ?_ ?_
   ·refine A 9 ?_
    refine bD fun next_e9 hnext_e9=>?_
    refine A 12 ?_
    refine bD fun x_e10 hx_e10=>?_
    refine A 4 ?_
    refine bD fun x_x11 hx_x11=>?_
    refine A 5 ?_
    refine bD fun x_x12 hx_x12=>?_
    refine A 2 ?_
    refine bD fun r13 hr13=>?_
    refine A 1 ?_
    refine bD fun r14 hr14=>?_
    refine A 2 ?_
    refine bD fun x_o15 hx_o15=>sE (l:=x7) (en:=(eL OZ)) (q':=r14) r r r r r r r (by simp) hx_o15 r r r (by simp [PH,cells,eL]) r<|?_
    refine A 8 ?_
    exact xL (s:=(x7.set k4.toNat r14,IntKind.i64.wrap (i8 + 1))) (_,_,_,_,_,_) ((hE ⟨rfl,r,r,r,r,r,r,trivial⟩ ⟨rfl,r,r,(Eq.trans (b:=some (_,⟨false,true,1,29,[.agg [.osl 13 _ 0 x7.length]]⟩)) r (by simp)),r,r,trivial⟩))
   ·exact B
  ·rintro x5 ⟨v2x3,v3x3,v4x3,v5x3,v13x3⟩ nn
   try dsimp only
   unfold Aal
   exact B
 ·refine A 12 ?_
  refine UR (b:=(Pg.mk x3)) r ?_ r r ?_ (by first | rfl | (simp only [OV]; rfl) | (simp only [OW]; rfl) | (simp only [OV,OW]; rfl) | simp [AgG,Qi])
  all_goals first|(simp;done)|(simp;omega)|rfl|(simp [PG,PE];done)

def Amp (b : Bool) : D:=.bool b
noncomputable def AgD : Dw.Spec:=Pf [] .ground Rz Ry (fun a=>Abn a.1 a.2) Amp noE
theorem AkS : Pd Tryz.prog 89 AgD:=by
 refine fn2 2 (Pv) Tryz.func89<|?_
 rintro ⟨a1,b2⟩
 unfold Abn
 refine A 15 ?_
 refine cD r ?_ ?_
 ·exact B
 ·refine A 9 ?_
  refine lP (E:=fun (s : Int) (_g : Unit)=>[(0,.sl (a1.map OZ)),(1,.sl (b2.map OZ)),(5,.int .i64 s)]) (O:=fun _ _=>[]) (body:=fun s=>TP a1 b2 s) (s:=0) () ((hE ⟨rfl,r,r,trivial⟩ trivial))<|?_
  rintro i3 ⟨⟩ nn
  try dsimp only
  unfold TP
  exact B

def VT (a : (List (List Int)) × (List (List Int))) : List D:=[.sl (a.1.map (eL OZ)),.sl (a.2.map (eL OZ))]
def VS (ds : List D) : (List (List Int)) × (List (List Int)):=((uL (uL uI)) (ds.getD 0 .top),(uL (uL uI)) (ds.getD 1 .top))
theorem Aie (a : (List (List Int)) × (List (List Int))) : VS (VT a) = a:=by simp [VS,VT,PV (u:=(uL uI)) (en:=(eL OZ)) (PV (u:=uI) (en:=OZ) (fun _=>rfl))]
instance : Px VT VS:=⟨Aie⟩
def AiS (b : Bool) : D:=.bool b
noncomputable def AdP : Dw.Spec:=Pf [] .ground VT VS (fun a=>Xe a.1 a.2) AiS noE
theorem Aif : Pd Tryz.prog 66 AdP:=by
 refine fn2 2 (Pk (l:=[(89,AgD)]) (by simp [AkS])) Tryz.func66<|?_
 rintro ⟨a1,b2⟩
 unfold Xe
 refine A 15 ?_
 refine cD r ?_ ?_
 ·exact B
 ·refine A 9 ?_
  refine lP (E:=fun (s : Int) (_g : Unit)=>[(0,.sl (a1.map (eL OZ))),(1,.sl (b2.map (eL OZ))),(5,.int .i64 s)]) (O:=fun _ _=>[]) (body:=fun s=>RI a1 b2 s) (s:=0) () ((hE ⟨rfl,r,r,trivial⟩ trivial))<|?_
  rintro i3 ⟨⟩ nn
  try dsimp only
  unfold RI
  exact B

def YR (a : Pg × Pg) : List D:=[Qi a.1,Qi a.2]
def YQ (ds : List D) : Pg × Pg:=(UW (ds.getD 0 .top),UW (ds.getD 1 .top))
theorem AkX (a : Pg × Pg) : YQ (YR a) = a:=by simp [YQ,YR]
instance : Px YR YQ:=⟨AkX⟩
def Amt (b : Bool) : D:=.bool b
noncomputable def AgF : Dw.Spec:=Pf [] .ground YR YQ (fun a=>Abp a.1 a.2) Amt noE
theorem AkY : Pd Tryz.prog 40 AgF:=by
 refine fn2 2 (Pk (l:=[(66,AdP)]) (by simp [Aif])) Tryz.func40<|?_
 intro a
 unfold Abp
 exact B

def VD (a : OX) : List D:=[PI a]
def VB (ds : List D) : OX:=Ss (ds.getD 0 .top)
theorem AjM (a : OX) : VB (VD a) = a:=by simp [VB,VD]
instance : Px VD VB:=⟨AjM⟩
def AkZ (b : Pg) : D:=Qi b
noncomputable def Aak : Dw.Spec:=Pf [] .val VD VB (fun a=>Up a) AkZ noE
theorem AbW : Pd Tryz.prog 17 Aak:=by
 refine fn2 1 (Pk (l:=[(39,AgH),(40,AgF)]) (by simp [Alb,AkY])) Tryz.func17<|?_
 intro f1
 unfold Up
 refine A 11 ?_
 refine cK fun hq=>AdU (α:=Int) r r r hq r<|?_
 refine A 4 ?_
 refine VC (E:=[(1,.optr 1 _ 0 0),(2,.optr 2 _ 0 0),(3,.optr 3 _ 0 0)]) (O:=[(1,some (_,⟨false,true,3,40,[.agg [.int .i64 f1.Params,.sl (f1.Slots.map Pn),.sl (f1.Code.map Pm)]]⟩)),(2,some (_,⟨false,true,1,29,[.agg [.nils]]⟩)),(3,some (_,⟨false,true,1,29,[.agg [.osl 8 _ 0 ((List.replicate (f1.Code.length : Int).toNat ([] : (List Int))).length)]]⟩)),(8,some (_,⟨false,false,1,30,(List.replicate (f1.Code.length : Int).toNat ([] : (List Int))).map (eL OZ)⟩))]) ((AfM (g:=8) r (Aht (l:=List.replicate (f1.Code.length : Int).toNat ([] : (List Int))) OZ (fun _ h=>List.eq_of_mem_replicate h)) (hE ⟨rfl,r,r,trivial⟩ ⟨rfl,r,r,r,trivial⟩))) fun nn=>?_
 refine A 1 ?_
 refine lP (E:=fun (_s : (List (List Int))) (g : Nat × Nat × Nat)=>[(1,.optr 1 g.1 0 0),(2,.optr 2 g.2.1 0 0),(3,.optr 3 g.2.2 0 0)]) (O:=fun s g=>[(1,some (g.1,⟨false,true,3,40,[.agg [.int .i64 f1.Params,.sl (f1.Slots.map Pn),.sl (f1.Code.map Pm)]]⟩)),(2,some (g.2.1,⟨false,true,1,29,[.agg [.nils]]⟩)),(3,some (g.2.2,⟨false,true,1,29,[.agg [.sl (s.map (eL OZ))]]⟩))]) (body:=fun s=>YS f1 s) (s:=List.replicate (f1.Code.length : Int).toNat ([] : (List Int))) (_,_,_) ((Abq [(8,some (_,⟨true,false,1,30,(List.replicate (f1.Code.length : Int).toNat ([] : (List Int))).map (eL OZ)⟩))] ⟨⟨_,_,r,r,r⟩,trivial⟩ ⟨(PF r),(PF r),(PF r),trivial⟩ ⟨(.inl r),(.inl r),(.inr ⟨_,_,_,_,r,r,r,r,ZT r ⟨(XT (l:=List.replicate (f1.Code.length : Int).toNat ([] : (List Int))) (en:=(eL OZ)) r r r (by simp)),trivial⟩⟩),trivial⟩))<|?_
 rintro l2 ⟨v1x1,v2x1,v3x1⟩ nn
 try dsimp only
 unfold YS
 exact B

def Se (a : Mk × OX) : List D:=[Pz a.1,PI a.2]
def Sd (ds : List D) : Mk × OX:=(Sc (ds.getD 0 .top),Ss (ds.getD 1 .top))
theorem AfX (a : Mk × OX) : Sd (Se a) = a:=by simp [Sd,Se]
instance : Px Se Sd:=⟨AfX⟩
def Yg (b : Pg × Mk) : D:=Qi b.1
def Agf (b : Pg × Mk) : List D:=[Pz b.2]
noncomputable def Acd : Dw.Spec:=Pf [(0,(2,99))] .val Se Sd (fun a=>UB a.1 a.2) Yg Agf
theorem AfY : Pd Tryz.prog 10 Acd:=by
 refine fn2 2 (Pk (l:=[(17,Aak),(28,PO),(32,Xo)]) (by simp [AbW,PQ,Yp])) Tryz.func10<|?_
 rintro ⟨c1,f2⟩
 unfold UB
 refine A 9 ?_
 refine bD fun r3 hr3=>?_
 refine A 9 ?_
 refine cK fun hq=>aP (([] : List (List Int))) (r3.Out) (eL OZ) r r r r r r r (by simp) r r r (by simp) r (fun _=>r) r hq<|?_
 refine A 9 ?_
 refine bD fun r4 hr4=>?_
 refine A 5 ?_
 refine lP (E:=fun (s : (List Int) × Int × (List (List Int)) × Int) (g : Nat × Nat × Nat × Nat)=>[(0,.optr 8192 0 0 0),(3,.optr 3 g.1 0 0),(4,.optr 4 g.2.1 0 0),(6,.optr 6 g.2.2.1 0 0),(7,.int .i64 s.2.2.2)]) (O:=fun s g=>[(3,some (g.1,⟨false,true,3,40,[.agg [.int .i64 f2.Params,.sl (f2.Slots.map Pn),.sl (f2.Code.map Pm)]]⟩)),(4,some (g.2.1,⟨false,true,1,29,[.agg [.nils]]⟩)),(6,some (g.2.2.1,⟨false,true,1,29,[.agg [.osl 14 g.2.2.2 0 s.2.2.1.length]]⟩)),(14,some (g.2.2.2,⟨false,false,1,30,s.2.2.1.map (eL OZ)⟩)),(8192,some (0,⟨false,true,2,99,[.agg [.sl (s.1.map eU8),.int .i64 s.2.1]]⟩))]) (body:=fun s=>UK f2 s.1 s.2.1 s.2.2.1 s.2.2.2) (s:=(r4.2.list,r4.2.at_,([] : List (List Int)) ++ r3.Out,r4.1)) (_,_,_,_) ((hE ⟨rfl,r,r,r,r,trivial⟩ ⟨rfl,r,r,r,r,trivial⟩))<|?_
 rintro ⟨c5,c6,x7,n8⟩ ⟨v3x1,v4x1,v6x1,v14x1⟩ nn
 try dsimp only
 unfold UK
 refine sC (E:=fun (_s : Unit) (g : Nat × Nat × Nat × Nat)=>[(0,.optr 8192 0 0 0),(3,.optr 3 g.1 0 0),(4,.optr 4 g.2.1 0 0),(6,.optr 6 g.2.2.1 0 0),(7,.int .i64 n8),(21,.optr 3 g.1 0 1),(22,.sl (f2.Slots.map Pn)),(23,.int .i64 (f2.Slots.length : Int)),(24,.bool (decide ((f2.Slots.length : Int) > 0)))]) (O:=fun _ g=>[(3,some (g.1,⟨false,true,3,40,[.agg [.int .i64 f2.Params,.sl (f2.Slots.map Pn),.sl (f2.Code.map Pm)]]⟩)),(4,some (g.2.1,⟨false,true,1,29,[.agg [.nils]]⟩)),(6,some (g.2.2.1,⟨false,true,1,29,[.agg [.osl 14 g.2.2.2 0 x7.length]]⟩)),(14,some (g.2.2.2,⟨false,false,1,30,x7.map (eL OZ)⟩)),(8192,some (0,⟨false,true,2,99,[.agg [.sl (c5.map eU8),.int .i64 c6]]⟩))]) (j:=fun _=>UM c5 c6 f2 n8 x7) ?_ ?_
 ·refine A 5 ?_
  refine Abk r ?_ ?_
  ·refine A 7 ?_
   refine cD r ?_ ?_
   ·exact B
   ·refine A 12 ?_
    refine UR (b:=((Pg.mk x7),(Mk.mk c5 c6))) r ?_ r r ?_ (by first | rfl | (simp only [OV]; rfl) | (simp only [OW]; rfl) | (simp only [OV,OW]; rfl) | simp [Yg,Qi])
    all_goals first|(simp;done)|(simp;omega)|rfl|(simp [PG,PE];done)
  ·refine A 20 ?_
   refine UR (b:=((Pg.mk x7),(Mk.mk c5 c6))) r ?_ r r ?_ (by first | rfl | (simp only [OV]; rfl) | (simp only [OW]; rfl) | (simp only [OV,OW]; rfl) | simp [Yg,Qi])
   all_goals first|(simp;done)|(simp;omega)|rfl|(simp [PG,PE];done)
 ·rintro ⟨⟩ ⟨v3x2,v4x2,v6x2,v14x2⟩ nn
  try dsimp only
  unfold UM
  refine bC (E:=fun (_s : (List Int) × Int × (List (List Int))) (g : Nat × Nat × Nat × Nat)=>[(0,.optr 8192 0 0 0),(3,.optr 3 g.1 0 0),(4,.optr 4 g.2.1 0 0),(6,.optr 6 g.2.2.1 0 0),(7,.int .i64 n8),(21,.optr 3 g.1 0 1),(22,.sl (f2.Slots.map Pn)),(23,.int .i64 (f2.Slots.length : Int)),(24,.bool (decide ((f2.Slots.length : Int) > 0)))]) (O:=fun s g=>[(3,some (g.1,⟨false,true,3,40,[.agg [.int .i64 f2.Params,.sl (f2.Slots.map Pn),.sl (f2.Code.map Pm)]]⟩)),(4,some (g.2.1,⟨false,true,1,29,[.agg [.nils]]⟩)),(6,some (g.2.2.1,⟨false,true,1,29,[.agg [.osl 14 g.2.2.2 0 s.2.2.length]]⟩)),(14,some (g.2.2.2,⟨false,false,1,30,s.2.2.map (eL OZ)⟩)),(8192,some (0,⟨false,true,2,99,[.agg [.sl (s.1.map eU8),.int .i64 s.2.1]]⟩))]) (j:=fun s=>UN n8 s.1 s.2.1 s.2.2) ?_ ?_
  ·refine A 6 ?_
   refine bD fun r12 hr12=>?_
   refine A 10 ?_
   refine lP (E:=fun (s : (List (List Int)) × Int) (g : Nat × Nat × Nat × Nat)=>[(0,.optr 8192 0 0 0),(3,.optr 3 g.1 0 0),(4,.optr 4 g.2.1 0 0),(6,.optr 6 g.2.2.1 0 0),(7,.int .i64 n8),(8,.int .i64 r12.1),(9,.int .i64 s.2),(21,.optr 3 g.1 0 1),(22,.sl (f2.Slots.map Pn)),(23,.int .i64 (f2.Slots.length : Int)),(24,.bool (decide ((f2.Slots.length : Int) > 0)))]) (O:=fun s g=>[(3,some (g.1,⟨false,true,3,40,[.agg [.int .i64 f2.Params,.sl (f2.Slots.map Pn),.sl (f2.Code.map Pm)]]⟩)),(4,some (g.2.1,⟨false,true,1,29,[.agg [.nils]]⟩)),(6,some (g.2.2.1,⟨false,true,1,29,[.agg [.osl 14 g.2.2.2 0 s.1.length]]⟩)),(14,some (g.2.2.2,⟨false,false,1,30,s.1.map (eL OZ)⟩)),(8192,some (0,⟨false,true,2,99,[.agg [.sl (r12.2.list.map eU8),.int .i64 r12.2.at_]]⟩))]) (body:=fun s=>UL r12 n8 s.1 s.2) (s:=(x7,0)) (_,_,_,_) ((hE ⟨rfl,r,r,r,r,r,r,r,r,r,r,trivial⟩ ⟨rfl,r,r,r,r,trivial⟩))<|?_
   rintro ⟨x13,k14⟩ ⟨v3x3,v4x3,v6x3,v14x3⟩ nn
   try dsimp only
   unfold UL
   refine A 10 ?_
   refine cD r ?_ ?_
   ·refine A 12 ?_
    refine bD fun x_e15 hx_e15=>?_
    refine A 2 ?_
    refine bD fun r16 hr16=>?_
    refine A 2 ?_
    refine bD fun x_o17 hx_o17=>sE (l:=x13) (en:=(eL OZ)) (q':=r16) r r r r r r r (by simp) hx_o17 r r r (by simp [PH,cells,eL]) r<|?_
    refine A 8 ?_
    exact xL (s:=(x13.set k14.toNat r16,IntKind.i64.wrap (k14 + 1))) (_,_,_,_) ((hE ⟨rfl,r,r,r,r,r,r,r,r,r,r,trivial⟩ ⟨rfl,r,(Eq.trans (b:=some (_,⟨false,true,1,29,[.agg [.osl 14 _ 0 x13.length]]⟩)) r (by simp)),r,r,trivial⟩))
   ·exact B
  ·rintro ⟨c9,c10,x11⟩ ⟨v3x4,v4x4,v6x4,v14x4⟩ nn
   try dsimp only
   unfold UN
   exact B

def AhR (b : Int × Mk) : D:=.int .i64 b.1
def AhQ (b : Int × Mk) : List D:=[Pz b.2]
noncomputable def Aaw : Dw.Spec:=Pf [(0,(2,99))] .val QQ QP (fun a=>Rm a) AhR AhQ
theorem AcB : Pd Tryz.prog 55 Aaw:=by
 refine fn2 1 (Pk (l:=[(28,PO)]) (by simp [PQ])) Tryz.func55<|?_
 intro c1
 unfold Rm
 refine A 8 ?_
 refine bD fun r2 hr2=>?_
 refine A 11 ?_
 refine cD r ?_ ?_
 ·refine A 2 ?_
  refine bS ([9223372036854775807,(-9223372036854775808),2147483648,2147483647,(-1),16777216,33554432,1048577,512,80] : List Int) OZ r r r (by simp) r r r<|?_
  exact B
 ·exact B

def VR (b : Pg × Mk) : D:=Qi b.1
def Ahc (b : Pg × Mk) : List D:=[Pz b.2]
noncomputable def AcD : Dw.Spec:=Pf [(0,(2,99))] .val Se Sd (fun a=>Vl a.1 a.2) VR Ahc
theorem Age : Pd Tryz.prog 30 AcD:=by
 refine fn2 2 (Pk (l:=[(17,Aak),(28,PO),(32,Xo),(54,AbU),(55,Aaw)]) (by simp [AbW,PQ,Yp,AdO,AcB])) Tryz.func30<|?_
 rintro ⟨c1,f2⟩
 unfold Vl
 refine A 9 ?_
 refine bD fun r3 hr3=>?_
 refine A 9 ?_
 refine bD fun r4 hr4=>?_
 refine A 4 ?_
 refine cD r ?_ ?_
 ·exact B
 ·refine A 6 ?_
  refine cK fun hq=>aP (([] : List (List Int))) (r3.Out) (eL OZ) r r r r r r r (by simp) r r r (by simp) r (fun _=>r) r hq<|?_
  refine A 5 ?_
  refine sC (E:=fun (_s : (List Int) × Int × (List (List Int))) (g : Nat × Nat × Nat)=>[(0,.optr 8192 0 0 0),(4,.optr 4 g.1 0 0),(6,.optr 6 g.2.1 0 0)]) (O:=fun s g=>[(4,some (g.1,⟨false,true,1,29,[.agg [.nils]]⟩)),(6,some (g.2.1,⟨false,true,1,29,[.agg [.osl 19 g.2.2 0 s.2.2.length]]⟩)),(19,some (g.2.2,⟨false,false,1,30,s.2.2.map (eL OZ)⟩)),(8192,some (0,⟨false,true,2,99,[.agg [.sl (s.1.map eU8),.int .i64 s.2.1]]⟩))]) (j:=fun s=>RL s.1 s.2.1 s.2.2) ?_ ?_
  ·refine A 3 ?_
   refine bD fun r8 hr8=>?_
   refine A 5 ?_
   refine lP (E:=fun (s : (List Int) × Int × (List (List Int)) × Int) (g : Nat × Nat × Nat × Nat)=>[(0,.optr 8192 0 0 0),(3,.optr 3 g.1 0 0),(4,.optr 4 g.2.1 0 0),(6,.optr 6 g.2.2.1 0 0),(7,.int .i64 s.2.2.2)]) (O:=fun s g=>[(3,some (g.1,⟨false,true,3,40,[.agg [.int .i64 f2.Params,.sl (f2.Slots.map Pn),.sl (f2.Code.map Pm)]]⟩)),(4,some (g.2.1,⟨false,true,1,29,[.agg [.nils]]⟩)),(6,some (g.2.2.1,⟨false,true,1,29,[.agg [.osl 19 g.2.2.2 0 s.2.2.1.length]]⟩)),(19,some (g.2.2.2,⟨false,false,1,30,s.2.2.1.map (eL OZ)⟩)),(8192,some (0,⟨false,true,2,99,[.agg [.sl (s.1.map eU8),.int .i64 s.2.1]]⟩))]) (body:=fun s=>Vm f2 s.1 s.2.1 s.2.2.1 s.2.2.2) (s:=(r8.2.list,r8.2.at_,([] : List (List Int)) ++ r3.Out,r8.1)) (_,_,_,_) ((hE ⟨rfl,r,r,r,r,trivial⟩ ⟨rfl,r,r,r,r,trivial⟩))<|?_
   rintro ⟨c9,c10,x11,n12⟩ ⟨v3x1,v4x1,v6x1,v19x1⟩ nn
   try dsimp only
   unfold Vm
   refine sC (E:=fun (_s : Unit) (g : Nat × Nat × Nat × Nat)=>[(0,.optr 8192 0 0 0),(3,.optr 3 g.1 0 0),(4,.optr 4 g.2.1 0 0),(6,.optr 6 g.2.2.1 0 0),(7,.int .i64 n12),(26,.optr 3 g.1 0 1),(27,.sl (f2.Slots.map Pn)),(28,.int .i64 (f2.Slots.length : Int)),(29,.bool (decide ((f2.Slots.length : Int) > 0)))]) (O:=fun _ g=>[(3,some (g.1,⟨false,true,3,40,[.agg [.int .i64 f2.Params,.sl (f2.Slots.map Pn),.sl (f2.Code.map Pm)]]⟩)),(4,some (g.2.1,⟨false,true,1,29,[.agg [.nils]]⟩)),(6,some (g.2.2.1,⟨false,true,1,29,[.agg [.osl 19 g.2.2.2 0 x11.length]]⟩)),(19,some (g.2.2.2,⟨false,false,1,30,x11.map (eL OZ)⟩)),(8192,some (0,⟨false,true,2,99,[.agg [.sl (c9.map eU8),.int .i64 c10]]⟩))]) (j:=fun _=>Vo c9 c10 f2 n12 x11) ?_ ?_
   ·exact B
   ·rintro ⟨⟩ ⟨v3x2,v4x2,v6x2,v19x2⟩ nn
    try dsimp only
    unfold Vo
    refine bC (E:=fun (_s : (List Int) × Int × (List (List Int))) (g : Nat × Nat × Nat × Nat)=>[(0,.optr 8192 0 0 0),(3,.optr 3 g.1 0 0),(4,.optr 4 g.2.1 0 0),(6,.optr 6 g.2.2.1 0 0),(7,.int .i64 n12),(26,.optr 3 g.1 0 1),(27,.sl (f2.Slots.map Pn)),(28,.int .i64 (f2.Slots.length : Int)),(29,.bool (decide ((f2.Slots.length : Int) > 0)))]) (O:=fun s g=>[(3,some (g.1,⟨false,true,3,40,[.agg [.int .i64 f2.Params,.sl (f2.Slots.map Pn),.sl (f2.Code.map Pm)]]⟩)),(4,some (g.2.1,⟨false,true,1,29,[.agg [.nils]]⟩)),(6,some (g.2.2.1,⟨false,true,1,29,[.agg [.osl 19 g.2.2.2 0 s.2.2.length]]⟩)),(19,some (g.2.2.2,⟨false,false,1,30,s.2.2.map (eL OZ)⟩)),(8192,some (0,⟨false,true,2,99,[.agg [.sl (s.1.map eU8),.int .i64 s.2.1]]⟩))]) (j:=fun s=>QX n12 s.1 s.2.1 s.2.2) ?_ ?_
    ·refine A 6 ?_
     refine bD fun r16 hr16=>?_
     refine A 8 ?_
     refine bD fun r17 hr17=>?_
     refine A 4 ?_
     refine cD r ?_ ?_
     ·refine A 7 ?_
      refine lP (E:=fun (s : (List (List Int)) × Int) (g : Nat × Nat × Nat × Nat)=>[(0,.optr 8192 0 0 0),(3,.optr 3 g.1 0 0),(4,.optr 4 g.2.1 0 0),(6,.optr 6 g.2.2.1 0 0),(7,.int .i64 n12),(8,.int .i64 r16.1),(9,.int .i64 s.2),(26,.optr 3 g.1 0 1),(27,.sl (f2.Slots.map Pn)),(28,.int .i64 (f2.Slots.length : Int)),(29,.bool (decide ((f2.Slots.length : Int) > 0)))]) (O:=fun s g=>[(3,some (g.1,⟨false,true,3,40,[.agg [.int .i64 f2.Params,.sl (f2.Slots.map Pn),.sl (f2.Code.map Pm)]]⟩)),(4,some (g.2.1,⟨false,true,1,29,[.agg [.nils]]⟩)),(6,some (g.2.2.1,⟨false,true,1,29,[.agg [.osl 19 g.2.2.2 0 s.1.length]]⟩)),(19,some (g.2.2.2,⟨false,false,1,30,s.1.map (eL OZ)⟩)),(8192,some (0,⟨false,true,2,99,[.agg [.sl (r17.2.list.map eU8),.int .i64 r17.2.at_]]⟩))]) (body:=fun s=>Vn r16 n12 r17 s.1 s.2) (s:=(x11,0)) (_,_,_,_) ((hE ⟨rfl,r,r,r,r,r,r,r,r,r,r,trivial⟩ ⟨rfl,r,r,r,r,trivial⟩))<|?_
      rintro ⟨x18,k19⟩ ⟨v3x3,v4x3,v6x3,v19x3⟩ nn
      try dsimp only
      unfold Vn
      refine A 10 ?_
      refine cD r ?_ ?_
      ·refine A 12 ?_
       refine bD fun x_e20 hx_e20=>?_
       refine A 2 ?_
       refine bD fun r21 hr21=>?_
       refine A 2 ?_
       refine bD fun x_o22 hx_o22=>sE (l:=x18) (en:=(eL OZ)) (q':=r21) r r r r r r r (by simp) hx_o22 r r r (by simp [PH,cells,eL]) r<|?_
       refine A 8 ?_
       exact xL (s:=(x18.set k19.toNat r21,IntKind.i64.wrap (k19 + 1))) (_,_,_,_) ((hE ⟨rfl,r,r,r,r,r,r,r,r,r,r,trivial⟩ ⟨rfl,r,(Eq.trans (b:=some (_,⟨false,true,1,29,[.agg [.osl 19 _ 0 x18.length]]⟩)) r (by simp)),r,r,trivial⟩))
      ·exact B
     ·refine A 8 ?_
      refine bD fun r23 hr23=>?_
      refine A 7 ?_
      refine bD fun r24 hr24=>?_
      refine A 4 ?_
      refine cD r ?_ ?_
      ·refine A 8 ?_
       refine bD fun x_e25 hx_e25=>?_
       refine A 2 ?_
       refine bD fun r26 hr26=>?_
       refine A 2 ?_
       refine bD fun x_o27 hx_o27=>sE (l:=x11) (en:=(eL OZ)) (q':=r26) r r r r r r r (by simp) hx_o27 r r r (by simp [PH,cells,eL]) r<|?_
       refine A 1 ?_
       exact AaY (s:=(r24.2.list,r24.2.at_,x11.set r23.1.toNat r26)) (_,_,_,_) ((hE ⟨rfl,r,r,r,r,r,r,r,r,trivial⟩ ⟨rfl,r,(Eq.trans (b:=some (_,⟨false,true,1,29,[.agg [.osl 19 _ 0 x11.length]]⟩)) r (by simp)),r,r,trivial⟩))
      ·refine A 8 ?_
       refine bD fun x_e28 hx_e28=>?_
       refine A 2 ?_
       refine bD fun r29 hr29=>?_
       refine A 2 ?_
       refine bD fun x_o30 hx_o30=>sE (l:=x11) (en:=(eL OZ)) (q':=r29) r r r r r r r (by simp) hx_o30 r r r (by simp [PH,cells,eL]) r<|?_
       refine A 1 ?_
       exact AaY (s:=(r24.2.list,r24.2.at_,x11.set r23.1.toNat r29)) (_,_,_,_) ((hE ⟨rfl,r,r,r,r,r,r,r,r,trivial⟩ ⟨rfl,r,(Eq.trans (b:=some (_,⟨false,true,1,29,[.agg [.osl 19 _ 0 x11.length]]⟩)) r (by simp)),r,r,trivial⟩))
    ·rintro ⟨c13,c14,x15⟩ ⟨v3x4,v4x4,v6x4,v19x4⟩ nn
     try dsimp only
     unfold QX
     exact B
  ·rintro ⟨c5,c6,x7⟩ ⟨v4x5,v6x5,v19x5⟩ nn
   try dsimp only
   unfold RL
   refine A 4 ?_
   refine bD fun r31 hr31=>?_
   refine A 10 ?_
   refine cD r ?_ ?_
   ·refine A 3 ?_
    refine cK fun hq=>Zf (l:=x7) r r r r r r hq<|?_
    refine A 12 ?_
    refine UR (b:=((Pg.mk (x7.drop ((1 : Int).toNat))),r31.2)) r ?_ r r ?_ (by first | rfl | (simp only; rfl) | (simp only [OW]; rfl) | (simp only [OV,OW]; rfl) | simp [VR,Qi])
    all_goals first|(simp;done)|(simp;omega)|rfl|(simp [PG,PE];done)
   ·refine A 6 ?_
    refine cD r ?_ ?_
    ·refine A 4 ?_
     refine bD fun r32 hr32=>?_
     refine A 2 ?_
     refine bD fun r33 hr33=>?_
     refine A 1 ?_
     refine bS ([r32.1,r33.1] : List Int) OZ r r r (by simp) r r r<|cK fun hq=>iO (l:=x7) (en:=(eL OZ)) r r r r r hq<|bD fun x_o34 hx_o34=>sE (l:=x7) (en:=(eL OZ)) (q':=([r32.1,r33.1] : List Int)) r r r r r r r (by simp) hx_o34 r r r (by simp [PH,cells,eL]) r<|?_
     refine A 10 ?_
     refine UR (b:=((Pg.mk (x7.set ((0 : Int).toNat) ([r32.1,r33.1] : List Int))),r33.2)) r ?_ r r ?_ (by first | rfl | (simp only; rfl) | (simp only; rfl) | (simp only; rfl) | simp [VR,Qi])
     all_goals first|(simp;done)|(simp;omega)|rfl|(simp [PG,PE];done)
    ·refine A 10 ?_
     refine UR (b:=((Pg.mk x7),r31.2)) r ?_ r r ?_ (by first | rfl | (simp only [OV]; rfl) | (simp only [OW]; rfl) | (simp only [OV,OW]; rfl) | simp [VR,Qi])
     all_goals first|(simp;done)|(simp;omega)|rfl|(simp [PG,PE];done)

def Amz (b : Int) : D:=.int .i64 b
noncomputable def Yu : Dw.Spec:=Pf [] .ground Vb Va (fun a=>Sq a.1 a.2) Amz noE
theorem Aau : Pd Tryz.prog 24 Yu:=by
 refine fn2 2 (Pv) Tryz.func24<|?_
 rintro ⟨p1,i2⟩
 unfold Sq
 refine A 16 ?_
 refine bD fun x_x3 hx_x3=>?_
 refine A 13 ?_
 refine lP (E:=fun (s : Int × Int) (g : Nat)=>[(2,.optr 2 g 0 0),(5,.int .i64 s.1),(6,.sl (x_x3.Code.map Pm)),(7,.int .i64 s.2)]) (O:=fun _ g=>[(2,some (g,⟨false,true,1,26,[.agg [.sl (p1.Funcs.map PI)]]⟩))]) (body:=fun s=>Xi x_x3 p1 s.1 s.2) (s:=(0,0)) _ ((hE ⟨rfl,r,r,r,trivial⟩ ⟨rfl,trivial⟩))<|?_
 rintro ⟨n4,k5⟩ v2x1 nn
 try dsimp only
 unfold Xi
 exact B

def AkJ (b : Bool) : D:=.bool b
noncomputable def Xc : Dw.Spec:=Pf [] .ground PZ PY (fun a=>Sa a) AkJ noE
theorem YJ : Pd Tryz.prog 47 Xc:=by
 refine fn2 1 (Pv) Tryz.func47<|?_
 intro a
 unfold Sa
 exact B

def AnV (b : Int × Int) : D:=.tup [.int .i64 b.1,.int .i64 b.2]
noncomputable def AcR : Dw.Spec:=Pf [] .ground TO TN (fun a=>VL a.1 a.2) AnV noE
theorem Aeq : Pd Tryz.prog 33 AcR:=by
 refine fn2 2 (Pk (l:=[(47,Xc),(58,Aag)]) (by simp [YJ,AbT])) Tryz.func33<|?_
 rintro ⟨n1,align2⟩
 unfold VL
 refine A 6 ?_
 refine sC (E:=fun (_s : Unit) (_g : Unit)=>[(0,.int .i64 n1),(1,.int .i64 align2)]) (O:=fun _ _=>[]) (j:=fun _=>ZM align2 n1) ?_ ?_
 ·exact B
 ·rintro ⟨⟩ ⟨⟩ nn
  try dsimp only
  unfold ZM
  refine A 6 ?_
  refine sC (E:=fun (s : Int) (_g : Unit)=>[(6,.int .i64 s)]) (O:=fun _ _=>[]) (j:=fun s=>VM s) ?_ ?_
  ·exact B
  ·rintro m5 ⟨⟩ nn
   try dsimp only
   unfold VM
   exact B

def SZ (b : Pc × Int) : D:=.tup [PR b.1,.int .i64 b.2]
noncomputable def AaA : Dw.Spec:=Pf [] .val TX TW (fun a=>SY a.1 a.2.1 a.2.2) SZ noE
theorem AcL : Pd Tryz.prog 11 AaA:=by
 refine fn2 3 (Pk (l:=[(24,Yu),(33,AcR)]) (by simp [Aau,Aeq])) Tryz.func11<|?_
 rintro ⟨p1,i2,align3⟩
 unfold SY
 refine A 11 ?_
 refine bD fun r4 hr4=>?_
 refine A 18 ?_
 refine bD fun x_x5 hx_x5=>?_
 refine A 13 ?_
 refine lP (E:=fun (s : (List Int) × Int × Int) (g : Nat × Nat × Nat × Nat)=>[(2,.int .i64 align3),(6,.optr 6 g.1 0 0),(8,.optr 8 g.2.1 0 0),(9,.int .i64 s.2.2),(10,.sl (x_x5.Slots.map Pn)),(11,.int .i64 s.2.1)]) (O:=fun s g=>[(6,some (g.1,⟨false,true,3,32,[.agg [.int .i64 0,.int .i64 0,.osl 2900 g.2.2.1 0 (([] : List Int).length)]]⟩)),(8,some (g.2.1,⟨false,true,3,32,[.agg [.int .i64 r4,.int .i64 0,.osl 2901 g.2.2.2 0 s.1.length]]⟩)),(2900,some (g.2.2.1,⟨false,false,1,3,([] : List Int).map OZ⟩)),(2901,some (g.2.2.2,⟨false,false,1,3,s.1.map OZ⟩))]) (body:=fun s=>Wa x_x5 align3 r4 s.1 s.2.1 s.2.2) (s:=(([] : List Int),0,r4)) (_,_,_,_) ((Oc (gg:=6) (off:=2) (tt:=2900) (s:=1) (tyy:=3) r r r r (Oc (gg:=8) (off:=2) (tt:=2901) (s:=1) (tyy:=3) r r r r (hE ⟨rfl,r,r,r,r,r,trivial⟩ ⟨rfl,r,r,r,trivial⟩))))<|?_
 rintro ⟨x6,k7,end8⟩ ⟨v6x1,v8x1,v2900x1,v2901x1⟩ nn
 try dsimp only
 unfold Wa
 refine A 9 ?_
 refine cD r ?_ ?_
 ·refine A 9 ?_
  refine bD fun x_x9 hx_x9=>?_
  refine A 3 ?_
  refine bD fun r10 hr10=>?_
  refine A 8 ?_
  refine sC (E:=fun (s : Po × Po × Int × Int × Bool) (g : Nat × Nat × Nat × Nat)=>[(2,.int .i64 align3),(6,.optr 6 g.1 0 0),(8,.optr 8 g.2.1 0 0),(10,.sl (x_x5.Slots.map Pn)),(11,.int .i64 k7),(12,.int .i64 r10.1),(48,.int .i64 r10.1),(49,.sl (x_x5.Slots.map Pn)),(50,.int .i64 k7),(51,.fptr (.agg [.int .i64 s.1.Size,.int .i64 s.1.Align]) 0),(52,.fptr (.agg [.int .i64 s.2.1.Size,.int .i64 s.2.1.Align]) 0),(53,.int .i64 s.2.2.1),(54,.int .i64 s.2.2.2.1),(55,.bool s.2.2.2.2)]) (O:=fun _ g=>[(6,some (g.1,⟨false,true,3,32,[.agg [.int .i64 0,.int .i64 0,.osl 2900 g.2.2.1 0 (([] : List Int).length)]]⟩)),(8,some (g.2.1,⟨false,true,3,32,[.agg [.int .i64 r4,.int .i64 0,.osl 2901 g.2.2.2 0 x6.length]]⟩)),(2900,some (g.2.2.1,⟨false,false,1,3,([] : List Int).map OZ⟩)),(2901,some (g.2.2.2,⟨false,false,1,3,x6.map OZ⟩))]) (j:=fun s=>Wb x6 r10 x_x5 k7 s.1 s.2.1 s.2.2.1 s.2.2.2.1 s.2.2.2.2) ?_ ?_
  ·refine A 5 ?_
   refine Abk r ?_ ?_
   ·refine A 26 ?_
    refine Qu (b:=((Pc.mk 0 0 ([])),9)) r ?_ r r ?_ (by first | rfl | (simp only [OV]; rfl) | (simp only [OW]; rfl) | (simp only [OV,OW]; rfl) | simp [SZ,PR]) (by decide)
    all_goals first|(simp;done)|(simp;omega)|rfl|(simp [PG,PE];done)
   ·refine A 3 ?_
    refine bD fun x_x16 hx_x16=>?_
    refine A 8 ?_
    refine cD r ?_ ?_
    ·refine A 14 ?_
     refine Qu (b:=((Pc.mk 0 0 ([])),9)) r ?_ r r ?_ (by first | rfl | (simp only [OV]; rfl) | (simp only [OW]; rfl) | (simp only [OV,OW]; rfl) | simp [SZ,PR]) (by decide)
     all_goals first|(simp;done)|(simp;omega)|rfl|(simp [PG,PE];done)
    ·exact B
  ·rintro ⟨x11,x12,x13,x14,x15⟩ ⟨v6x2,v8x2,v2900x2,v2901x2⟩ nn
   try dsimp only
   unfold Wb
   refine A 22 ?_
   refine bD fun x_x17 hx_x17=>?_
   refine A 13 ?_
   exact xL (s:=((([] : List Int) ++ x6) ++ ([r10.1] : List Int),IntKind.i64.wrap (k7 + 1),IntKind.i64.wrap (r10.1 + x_x17.Size))) (_,_,_,_) ((Ahq (E1:=[(2,.int .i64 align3),(6,.optr 6 _ 0 0),(8,.optr 8 _ 0 0),(9,.int .i64 (IntKind.i64.wrap (r10.1 + x_x17.Size))),(10,.sl (x_x5.Slots.map Pn)),(11,.int .i64 (IntKind.i64.wrap (k7 + 1)))]) (O1:=[(6,some (_,⟨false,true,3,32,[.agg [.int .i64 0,.int .i64 0,.osl 2900 _ 0 (([] : List Int).length)]]⟩)),(8,some (_,⟨false,true,3,32,[.agg [.int .i64 r4,.int .i64 0,.osl 14 _ 0 (((([] : List Int) ++ x6) ++ ([r10.1] : List Int)).length)]]⟩)),(14,some (_,⟨false,false,1,3,((([] : List Int) ++ x6) ++ ([r10.1] : List Int)).map OZ⟩)),(2900,some (_,⟨false,false,1,3,([] : List Int).map OZ⟩))]) (hE ⟨rfl,r,r,r,r,r,trivial⟩ ⟨rfl,r,r,r,trivial⟩) (fun _=>Ahp (fun g=>bif Nat.beq g 14 then 2901 else g) (by rfl) (hE ⟨rfl,r,r,r,r,r,trivial⟩ ⟨rfl,r,r,r,trivial⟩))))
 ·refine A 9 ?_
  refine bD fun r18 hr18=>?_
  refine A 14 ?_
  refine Abk r ?_ ?_
  ·refine A 15 ?_
   refine Qu (b:=((Pc.mk 0 0 ([])),9)) r ?_ r r ?_ (by first | rfl | (simp only [OV]; rfl) | (simp only [OW]; rfl) | (simp only [OV,OW]; rfl) | simp [SZ,PR]) (by decide)
   all_goals first|(simp;done)|(simp;omega)|rfl|(simp [PG,PE];done)
  ·refine A 5 ?_
   refine cD r ?_ ?_
   ·refine A 9 ?_
    refine Qu (b:=((Pc.mk 0 0 ([])),9)) r ?_ r r ?_ (by first | rfl | (simp only [OV]; rfl) | (simp only [OW]; rfl) | (simp only [OV,OW]; rfl) | simp [SZ,PR]) (by decide)
    all_goals first|(simp;done)|(simp;omega)|rfl|(simp [PG,PE];done)
   ·refine A 17 ?_
    refine Qu (b:=((Pc.mk r4 r18.1 x6),0)) r ?_ r r ?_ (by first | rfl | (simp only [OV]; rfl) | (simp only [OW]; rfl) | (simp only [OV,OW]; rfl) | simp [SZ,PR]) (by decide)
    all_goals first|(simp;done)|(simp;omega)|rfl|(simp [PG,PE];done)

def So (a : (List Int)) : List D:=[.sl (a.map OZ)]
def Sn (ds : List D) : (List Int):=(uL uI) (ds.getD 0 .top)
theorem AjH (a : (List Int)) : Sn (So a) = a:=by simp [Sn,So,PV (u:=uI) (en:=OZ) (fun _=>rfl)]
instance : Px So Sn:=⟨AjH⟩
def AkP (b : Bool) : D:=.bool b
noncomputable def Acs : Dw.Spec:=Pf [] .ground So Sn (fun a=>Xp a) AkP noE
theorem AeR : Pd Tryz.prog 71 Acs:=by
 refine fn2 1 (Pk (l:=[(57,Adp)]) (by simp [AfD])) Tryz.func71<|?_
 intro s1
 unfold Xp
 refine A 12 ?_
 refine lP (E:=fun (s : Int) (_g : Unit)=>[(0,.sl (s1.map OZ)),(3,.int .i64 s)]) (O:=fun _ _=>[]) (body:=fun s=>RU s1 s) (s:=0) () ((hE ⟨rfl,r,trivial⟩ trivial))<|?_
 rintro i2 ⟨⟩ nn
 try dsimp only
 unfold RU
 exact B

def Alg (b : Bool) : D:=.bool b
noncomputable def Acw : Dw.Spec:=Pf [] .ground Ql Qk (fun a=>Xs a.1 a.2) Alg noE
theorem AeV : Pd Tryz.prog 62 Acw:=by
 refine fn2 2 (Pk (l:=[(71,Acs)]) (by simp [AeR])) Tryz.func62<|?_
 rintro ⟨f1,l2⟩
 unfold Xs
 refine A 19 ?_
 refine cD r ?_ ?_
 ·exact B
 ·refine A 9 ?_
  refine lP (E:=fun (s : Int) (g : Nat × Nat)=>[(2,.optr 2 g.1 0 0),(3,.optr 3 g.2 0 0),(5,.int .i64 s)]) (O:=fun _ g=>[(2,some (g.1,⟨false,true,3,40,[.agg [.int .i64 f1.Params,.sl (f1.Slots.map Pn),.sl (f1.Code.map Pm)]]⟩)),(3,some (g.2,⟨false,true,1,29,[.agg [.sl (l2.Out.map (eL OZ))]]⟩))]) (body:=fun s=>YU l2 f1 s) (s:=0) (_,_) ((hE ⟨rfl,r,r,trivial⟩ ⟨rfl,r,trivial⟩))<|?_
  rintro k3 ⟨v2x1,v3x1⟩ nn
  try dsimp only
  unfold YU
  exact B

def Anh (b : Bool) : D:=.bool b
noncomputable def Xq : Dw.Spec:=Pf [] .ground Re Rc (fun a=>Um a.1 a.2) Anh noE
theorem Yq : Pd Tryz.prog 15 Xq:=by
 refine fn2 2 (Pv) Tryz.func15<|?_
 rintro ⟨s1,n2⟩
 unfold Um
 refine A 12 ?_
 refine lP (E:=fun (s : Int) (_g : Unit)=>[(0,.sl (s1.map OZ)),(1,.int .i64 n2),(5,.int .i64 s)]) (O:=fun _ _=>[]) (body:=fun s=>Wl s1 n2 s) (s:=0) () ((hE ⟨rfl,r,r,trivial⟩ trivial))<|?_
 rintro i3 ⟨⟩ nn
 try dsimp only
 unfold Wl
 exact B

def AkQ (b : (List Int)) : D:=.sl (b.map OZ)
noncomputable def AfC : Dw.Spec:=Pf [] (.row 1 3) Rz Ry (fun a=>ZN a.1 a.2) AkQ noE
theorem AjI : Pd Tryz.prog 116 AfC:=by
 refine fn2 2 (Pk (l:=[(15,Xq)]) (by simp [Yq])) Tryz.func116<|?_
 rintro ⟨a1,b2⟩
 unfold ZN
 refine A 17 ?_
 refine lP (E:=fun (s : (List Int) × Int) (g : Nat)=>[(0,.sl (a1.map OZ)),(1,.sl (b2.map OZ)),(5,.osl 5 g 0 s.1.length),(6,.int .i64 s.2)]) (O:=fun s g=>[(5,some (g,⟨false,false,1,3,s.1.map OZ⟩))]) (body:=fun s=>SS a1 b2 s.1 s.2) (s:=(([] : List Int),0)) _ ((hE ⟨rfl,r,r,r,trivial⟩ ⟨rfl,trivial⟩))<|?_
 rintro ⟨out3,i4⟩ v5x1 nn
 try dsimp only
 unfold SS
 exact B

def TZ (a : OX × Pg × Int) : List D:=[PI a.1,Qi a.2.1,.int .i64 a.2.2]
def TY (ds : List D) : OX × Pg × Int:=(Ss (ds.getD 0 .top),UW (ds.getD 1 .top),uI (ds.getD 2 .top))
theorem Aii (a : OX × Pg × Int) : TY (TZ a) = a:=by simp [TY,TZ,uI]
instance : Px TZ TY:=⟨Aii⟩
def AiW (b : (List Int)) : D:=.sl (b.map OZ)
noncomputable def AdR : Dw.Spec:=Pf [] (.row 1 3) TZ TY (fun a=>Xg a.1 a.2.1 a.2.2) AiW noE
theorem Aij : Pd Tryz.prog 87 AdR:=by
 refine fn2 3 (Pk (l:=[(63,Adq),(65,Afs),(116,AfC),(64,Xf)]) (by simp [AfE,AhJ,AjI,YO])) Tryz.func87<|?_
 rintro ⟨f1,l2,k3⟩
 unfold Xg
 refine A 16 ?_
 refine bD fun r4 hr4=>?_
 refine A 11 ?_
 refine lP (E:=fun (s : (List Int) × Int) (g : Nat × Nat × Nat × Nat)=>[(2,.int .i64 k3),(3,.optr 3 g.1 0 0),(4,.optr 4 g.2.1 0 0),(7,.osl 7 g.2.2.1 0 s.1.length),(8,.osl 8 g.2.2.2 0 r4.length),(9,.int .i64 s.2)]) (O:=fun s g=>[(3,some (g.1,⟨false,true,3,40,[.agg [.int .i64 f1.Params,.sl (f1.Slots.map Pn),.sl (f1.Code.map Pm)]]⟩)),(4,some (g.2.1,⟨false,true,1,29,[.agg [.sl (l2.Out.map (eL OZ))]]⟩)),(7,some (g.2.2.1,⟨false,false,1,3,s.1.map OZ⟩)),(8,some (g.2.2.2,⟨false,false,1,3,r4.map OZ⟩))]) (body:=fun s=>SU r4 f1 l2 k3 s.1 s.2) (s:=(([] : List Int),0)) (_,_,_,_) ((hE ⟨rfl,r,r,r,r,r,trivial⟩ ⟨rfl,r,r,r,trivial⟩))<|?_
 rintro ⟨out5,i6⟩ ⟨v3x1,v4x1,v7x1,v8x1⟩ nn
 try dsimp only
 unfold SU
 exact B

end Go.Proofs.YtnldnldmgceooaaGreatDoor
