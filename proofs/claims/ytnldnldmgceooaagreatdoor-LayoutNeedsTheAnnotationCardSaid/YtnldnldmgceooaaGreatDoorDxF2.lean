/-
  Programs on typed data, and the proofs that the code does what they say; written by a program (dx.py).
-/
import Derived.Test.YtnldnldmgceooaaGreatDoorProg
import Derived.Test.YtnldnldmgceooaaGreatDoorDd
import Derived.KernelRfl
import Derived.Test.YtnldnldmgceooaaGreatDoorDxP
import Derived.Test.YtnldnldmgceooaaGreatDoorDxF1
namespace Go.Proofs.YtnldnldmgceooaaGreatDoor
open Go Go.Dw Go.Proofs
set_option maxRecDepth 100000
set_option maxHeartbeats 4000000
open Go.Dw renaming QS → bD,PM → cK,AcP → bS,Aer → aP,Ub → sE,Abv → iO,Aco → cD,AeL → xL,Aaf → hE,Aes → lP,AaV → sC,Ze → bC,rf → r
def Wb (a : OX × Int) : List D:=[PN a.1,.int .i64 a.2]
def Wa (ds : List D) : OX × Int:=(SI (ds.getD 0 .top),uI (ds.getD 1 .top))
theorem Akn (a : OX × Int) : Wa (Wb a) = a:=by simp [Wa,Wb,uI]
instance : Px Wb Wa:=⟨Akn⟩
def AlA (b : (List Int)) : D:=.sl (b.map Pa)
noncomputable def AcG : Dw.Spec:=Pe [] (.row 1 3) Wb Wa (fun a=>Yx a.1 a.2) AlA noE
theorem AeV : Pd Tryz.prog 63 AcG:=by
 refine fn2 2 (Pv) Tryz.func63<|?_
 rintro ⟨f1,k2⟩
 unfold Yx
 refine A 6 ?_
 refine sC (E:=fun (_s : Unit) (g : Nat)=>[(1,.int .i64 k2),(2,.optr 2 g 0 0)]) (O:=fun _ g=>[(2,some (g,⟨false,true,3,40,[.agg [.int .i64 f1.Params,.sl (f1.Slots.map Pn),.sl (f1.Code.map Pm)]]⟩))]) (j:=fun _=>ZK f1 k2) ?_ ?_
 ·exact B
 ·rintro ⟨⟩ v2x1 nn
  try dsimp only
  unfold ZK
  refine A 5 ?_
  refine bD fun x_x3 hx_x3=>?_
  refine A 20 ?_
  refine cD r ?_ ?_
  ·exact B
  ·refine sC (E:=fun (s : Bool) (g : Nat)=>[(1,.int .i64 k2),(5,.optr 5 g 0 0),(21,.int .i64 x_x3.Op),(27,.bool s)]) (O:=fun _ g=>[(5,some (g,⟨false,true,5,50,[.agg [.int .i64 x_x3.Op,.int .i64 x_x3.A,.int .i64 x_x3.B,.int .i64 x_x3.C,.int .u64 x_x3.Imm]]⟩))]) (j:=fun s=>Rj x_x3 k2 s) ?_ ?_
   ·exact B
   ·rintro x4 v5x2 nn
    try dsimp only
    unfold Rj
    refine cD r ?_ ?_
    ·exact B
    ·refine A 6 ?_
     refine cD r ?_ ?_
     ·refine A 11 ?_
      refine cD r ?_ ?_
      ·refine A 6 ?_
       refine bS ([x_x3.B,IntKind.i64.wrap (k2 + 1)] : List Int) Pa r r r (by simp) r r r<|?_
       exact B
      ·refine A 10 ?_
       refine cD r ?_ ?_
       ·refine A 6 ?_
        refine bS ([IntKind.i64.wrap (k2 + 1),x_x3.B] : List Int) Pa r r r (by simp) r r r<|?_
        exact B
       ·exact B
     ·exact B

def Qs (a : OZ) : List D:=[Pm a]
def Qr (ds : List D) : OZ:=AbI (ds.getD 0 .top)
theorem AfU (a : OZ) : Qr (Qs a) = a:=by simp [Qr,Qs]
instance : Px Qs Qr:=⟨AfU⟩
def AgF (b : Bool) : D:=.bool b
noncomputable def Zj : Dw.Spec:=Pe [] .ground Qs Qr (fun a=>RA a) AgF noE
theorem AbG : Pd Tryz.prog 37 Zj:=by
 refine fn2 1 (Pv) Tryz.func37<|?_
 intro a
 unfold RA
 exact B

def Aii (b : Int × Bool) : D:=.tup [.int .i64 b.1,.bool b.2]
noncomputable def Vl : Dw.Spec:=Pe [] .ground Qs Qr (fun a=>Rk a) Aii noE
theorem Wt : Pd Tryz.prog 14 Vl:=by
 refine fn2 1 (Pk (l:=[(37,Zj)]) (by simp [AbG])) Tryz.func14<|?_
 intro a
 unfold Rk
 exact B

def Re (a : (List Int) × Int) : List D:=[.sl (a.1.map Pa),.int .i64 a.2]
def Rc (ds : List D) : (List Int) × Int:=((uL uI) (ds.getD 0 .top),uI (ds.getD 1 .top))
theorem Aig (a : (List Int) × Int) : Rc (Re a) = a:=by simp [Rc,Re,uI,PV (u:=uI) (en:=Pa) (fun _=>rfl)]
instance : Px Re Rc:=⟨Aig⟩
def Ajb (b : (List Int)) : D:=.sl (b.map Pa)
noncomputable def Abr : Dw.Spec:=Pe [] (.row 1 3) Re Rc (fun a=>VY a.1 a.2) Ajb noE
theorem Adm : Pd Tryz.prog 54 Abr:=by
 refine fn2 2 (Pv) Tryz.func54<|?_
 rintro ⟨s1,n2⟩
 unfold VY
 refine A 17 ?_
 refine lP (E:=fun (s : (List Int) × Int) (g : Nat)=>[(0,.sl (s1.map Pa)),(1,.int .i64 n2),(5,.osl 5 g 0 s.1.length),(6,.int .i64 s.2)]) (O:=fun s g=>[(5,some (g,⟨false,false,1,3,s.1.map Pa⟩))]) (body:=fun s=>Sm s1 n2 s.1 s.2) (s:=(([] : List Int),0)) _ ((hE ⟨rfl,r,r,r,trivial⟩ ⟨rfl,trivial⟩))<|?_
 rintro ⟨out3,i4⟩ v5x1 nn
 try dsimp only
 unfold Sm
 exact B

def AlB (b : (List Int)) : D:=.sl (b.map Pa)
noncomputable def AcI : Dw.Spec:=Pe [] (.row 1 3) Qs Qr (fun a=>TW a) AlB noE
theorem AeW : Pd Tryz.prog 88 AcI:=by
 refine fn2 1 (Pv) Tryz.func88<|?_
 intro a
 unfold TW
 exact B

def Alz (b : Bool) : D:=.bool b
noncomputable def AcF : Dw.Spec:=Pe [] .ground PY PX (fun a=>Vk a) Alz noE
theorem AeU : Pd Tryz.prog 57 AcF:=by
 refine fn2 1 (Pv) Tryz.func57<|?_
 intro a
 unfold Vk
 exact B

def Amn (b : (List Int)) : D:=.sl (b.map Pa)
noncomputable def Xc : Dw.Spec:=Pe [] (.row 1 3) Re Rc (fun a=>Ss a.1 a.2) Amn noE
theorem XY : Pd Tryz.prog 32 Xc:=by
 refine fn2 2 (Pk (l:=[(57,AcF)]) (by simp [AeU])) Tryz.func32<|?_
 rintro ⟨s1,n2⟩
 unfold Ss
 refine A 13 ?_
 refine bD fun r3 hr3=>?_
 refine A 12 ?_
 refine lP (E:=fun (s : (List Int) × Bool × Int) (g : Nat)=>[(0,.sl (s1.map Pa)),(1,.int .i64 n2),(5,.osl 5 g 0 s.1.length),(6,.bool s.2.1),(7,.int .i64 s.2.2)]) (O:=fun s g=>[(5,some (g,⟨false,false,1,3,s.1.map Pa⟩))]) (body:=fun s=>Rb s1 n2 s.1 s.2.1 s.2.2) (s:=(([] : List Int),(!r3),0)) _ ((hE ⟨rfl,r,r,r,r,trivial⟩ ⟨rfl,trivial⟩))<|?_
 rintro ⟨out4,done5,i6⟩ v5x1 nn
 try dsimp only
 unfold Rb
 refine A 9 ?_
 refine cD r ?_ ?_
 ·refine A 4 ?_
  refine sC (E:=fun (s : (List Int) × Bool) (g : Nat)=>[(0,.sl (s1.map Pa)),(1,.int .i64 n2),(5,.osl 5 g 0 s.1.length),(6,.bool s.2),(7,.int .i64 i6)]) (O:=fun s g=>[(5,some (g,⟨false,false,1,3,s.1.map Pa⟩))]) (j:=fun s=>Sj s1 i6 s.1 s.2) ?_ ?_
  ·refine sC (E:=fun (s : Bool) (g : Nat)=>[(0,.sl (s1.map Pa)),(1,.int .i64 n2),(5,.osl 5 g 0 out4.length),(6,.bool done5),(7,.int .i64 i6),(26,.bool s)]) (O:=fun _ g=>[(5,some (g,⟨false,false,1,3,out4.map Pa⟩))]) (j:=fun s=>Tn s1 i6 n2 out4 done5 s) ?_ ?_
   ·exact B
   ·rintro x9 v5x2 nn
    try dsimp only
    unfold Tn
    exact B
  ·rintro ⟨out7,done8⟩ v5x3 nn
   try dsimp only
   unfold Sj
   exact B
 ·exact B

def Rz (a : (List Int) × (List Int)) : List D:=[.sl (a.1.map Pa),.sl (a.2.map Pa)]
def Ry (ds : List D) : (List Int) × (List Int):=((uL uI) (ds.getD 0 .top),(uL uI) (ds.getD 1 .top))
theorem Ajc (a : (List Int) × (List Int)) : Ry (Rz a) = a:=by simp [Ry,Rz,PV (u:=uI) (en:=Pa) (fun _=>rfl)]
instance : Px Rz Ry:=⟨Ajc⟩
def Akl (b : (List Int)) : D:=.sl (b.map Pa)
noncomputable def WS : Dw.Spec:=Pe [] (.row 1 3) Rz Ry (fun a=>Tf a.1 a.2) Akl noE
theorem Yw : Pd Tryz.prog 64 WS:=by
 refine fn2 2 (Pk (l:=[(32,Xc)]) (by simp [XY])) Tryz.func64<|?_
 rintro ⟨a1,b2⟩
 unfold Tf
 refine A 19 ?_
 refine lP (E:=fun (s : (List Int) × Int) (g : Nat)=>[(1,.sl (b2.map Pa)),(5,.osl 5 g 0 s.1.length),(6,.int .i64 s.2)]) (O:=fun s g=>[(5,some (g,⟨false,false,1,3,s.1.map Pa⟩))]) (body:=fun s=>Uf b2 s.1 s.2) (s:=(([] : List Int) ++ a1,0)) _ ((hE ⟨rfl,r,r,trivial⟩ ⟨rfl,trivial⟩))<|?_
 rintro ⟨out3,i4⟩ v5x1 nn
 try dsimp only
 unfold Uf
 exact B

def Wd (a : OZ × (List Int)) : List D:=[Pm a.1,.sl (a.2.map Pa)]
def Wc (ds : List D) : OZ × (List Int):=(AbI (ds.getD 0 .top),(uL uI) (ds.getD 1 .top))
theorem Amp (a : OZ × (List Int)) : Wc (Wd a) = a:=by simp [Wc,Wd,PV (u:=uI) (en:=Pa) (fun _=>rfl)]
instance : Px Wd Wc:=⟨Amp⟩
def Anc (b : (List Int)) : D:=.sl (b.map Pa)
noncomputable def AeJ : Dw.Spec:=Pe [] (.row 1 3) Wd Wc (fun a=>Abs a.1 a.2) Anc noE
theorem AgS : Pd Tryz.prog 65 AeJ:=by
 refine fn2 2 (Pk (l:=[(14,Vl),(54,Abr),(88,AcI),(64,WS)]) (by simp [Wt,Adm,AeW,Yw])) Tryz.func65<|?_
 intro a
 unfold Abs
 exact B

def Qk (a : OX × Pg) : List D:=[PN a.1,Qv a.2]
def Qj (ds : List D) : OX × Pg:=(SI (ds.getD 0 .top),VN (ds.getD 1 .top))
theorem Akr (a : OX × Pg) : Qj (Qk a) = a:=by simp [Qj,Qk]
instance : Px Qk Qj:=⟨Akr⟩
def AfW (b : Pg) : D:=Qv b
noncomputable def AfX : Dw.Spec:=Pe [] .val Qk Qj (fun a=>AaK a.1 a.2) AfW noE
theorem Aks : Pd Tryz.prog 39 AfX:=by
 refine fn2 2 (Pk (l:=[(63,AcG),(65,AeJ),(64,WS)]) (by simp [AeV,AgS,Yw])) Tryz.func39<|?_
 rintro ⟨f1,l2⟩
 unfold AaK
 refine A 12 ?_
 refine cK fun hq=>AdN (α:=Int) r r r hq r<|?_
 refine A 4 ?_
 refine Vx (E:=[(2,.optr 2 _ 0 0),(3,.optr 3 _ 0 0),(4,.optr 4 _ 0 0),(5,.optr 5 _ 0 0)]) (O:=[(2,some (_,⟨false,true,3,40,[.agg [.int .i64 f1.Params,.sl (f1.Slots.map Pn),.sl (f1.Code.map Pm)]]⟩)),(3,some (_,⟨false,true,1,29,[.agg [.sl (l2.Out.map (eL Pa))]]⟩)),(4,some (_,⟨false,true,1,29,[.agg [.nils]]⟩)),(5,some (_,⟨false,true,1,29,[.agg [.osl 13 _ 0 ((List.replicate (f1.Code.length : Int).toNat ([] : (List Int))).length)]]⟩)),(13,some (_,⟨false,false,1,30,(List.replicate (f1.Code.length : Int).toNat ([] : (List Int))).map (eL Pa)⟩))]) ((AfG (g:=13) r (Aho (l:=List.replicate (f1.Code.length : Int).toNat ([] : (List Int))) Pa (fun _ h=>List.eq_of_mem_replicate h)) (hE ⟨rfl,r,r,r,trivial⟩ ⟨rfl,r,r,r,r,trivial⟩))) fun nn=>?_
 refine A 7 ?_
 refine lP (E:=fun (s : (List (List Int)) × Int) (g : Nat × Nat × Nat × Nat × Nat)=>[(2,.optr 2 g.1 0 0),(3,.optr 3 g.2.1 0 0),(4,.optr 4 g.2.2.1 0 0),(5,.optr 5 g.2.2.2.1 0 0),(6,.int .i64 s.2)]) (O:=fun s g=>[(2,some (g.1,⟨false,true,3,40,[.agg [.int .i64 f1.Params,.sl (f1.Slots.map Pn),.sl (f1.Code.map Pm)]]⟩)),(3,some (g.2.1,⟨false,true,1,29,[.agg [.sl (l2.Out.map (eL Pa))]]⟩)),(4,some (g.2.2.1,⟨false,true,1,29,[.agg [.nils]]⟩)),(5,some (g.2.2.2.1,⟨false,true,1,29,[.agg [.osl 13 g.2.2.2.2 0 s.1.length]]⟩)),(13,some (g.2.2.2.2,⟨false,false,1,30,s.1.map (eL Pa)⟩))]) (body:=fun s=>UL f1 l2 s.1 s.2) (s:=(List.replicate (f1.Code.length : Int).toNat ([] : (List Int)),0)) (_,_,_,_,_) ((hE ⟨rfl,r,r,r,r,trivial⟩ ⟨rfl,r,r,r,r,trivial⟩))<|?_
 rintro ⟨x3,k4⟩ ⟨v2x1,v3x1,v4x1,v5x1,v13x1⟩ nn
 try dsimp only
 unfold UL
 refine A 10 ?_
 refine cD r ?_ ?_
 ·refine A 2 ?_
  refine bC (E:=fun (_s : (List (List Int))) (g : Nat × Nat × Nat × Nat × Nat)=>[(2,.optr 2 g.1 0 0),(3,.optr 3 g.2.1 0 0),(4,.optr 4 g.2.2.1 0 0),(5,.optr 5 g.2.2.2.1 0 0),(6,.int .i64 k4)]) (O:=fun s g=>[(2,some (g.1,⟨false,true,3,40,[.agg [.int .i64 f1.Params,.sl (f1.Slots.map Pn),.sl (f1.Code.map Pm)]]⟩)),(3,some (g.2.1,⟨false,true,1,29,[.agg [.sl (l2.Out.map (eL Pa))]]⟩)),(4,some (g.2.2.1,⟨false,true,1,29,[.agg [.nils]]⟩)),(5,some (g.2.2.2.1,⟨false,true,1,29,[.agg [.osl 13 g.2.2.2.2 0 s.length]]⟩)),(13,some (g.2.2.2.2,⟨false,false,1,30,s.map (eL Pa)⟩))]) (j:=fun s=>ZL k4 s) ?_ ?_
  ·refine A 4 ?_
   refine bD fun r6 hr6=>?_
   refine A 10 ?_
   refine lP (E:=fun (s : (List (List Int)) × Int) (g : Nat × Nat × Nat × Nat × Nat × Nat)=>[(2,.optr 2 g.1 0 0),(3,.optr 3 g.2.1 0 0),(4,.optr 4 g.2.2.1 0 0),(5,.optr 5 g.2.2.2.1 0 0),(6,.int .i64 k4),(7,.osl 7 g.2.2.2.2.1 0 r6.length),(8,.int .i64 s.2)]) (O:=fun s g=>[(2,some (g.1,⟨false,true,3,40,[.agg [.int .i64 f1.Params,.sl (f1.Slots.map Pn),.sl (f1.Code.map Pm)]]⟩)),(3,some (g.2.1,⟨false,true,1,29,[.agg [.sl (l2.Out.map (eL Pa))]]⟩)),(4,some (g.2.2.1,⟨false,true,1,29,[.agg [.nils]]⟩)),(5,some (g.2.2.2.1,⟨false,true,1,29,[.agg [.osl 13 g.2.2.2.2.2 0 s.1.length]]⟩)),(7,some (g.2.2.2.2.1,⟨false,false,1,3,r6.map Pa⟩)),(13,some (g.2.2.2.2.2,⟨false,false,1,30,s.1.map (eL Pa)⟩))]) (body:=fun s=>UM r6 k4 f1 l2 s.1 s.2) (s:=(x3,0)) (_,_,_,_,_,_) ((hE ⟨rfl,r,r,r,r,r,r,trivial⟩ ⟨rfl,r,r,r,r,r,trivial⟩))<|?_
   rintro ⟨x7,i8⟩ ⟨v2x2,v3x2,v4x2,v5x2,v7x2,v13x2⟩ nn
   try dsimp only
   unfold UM
   refine A 9 ?_
   refine cD r ?_ ?_
   ·refine A 9 ?_
    refine bD fun next_e9 hnext_e9=>?_
    refine A 12 ?_
    refine bD fun x_e10 hx_e10=>?_
    refine A 4 ?_
    refine bD fun x_x11 hx_x11=>?_
    refine A 5 ?_
    refine bD fun x_x12 hx_x12=>?_
    refine A 2 ?_
    refine bD fun r13 hr13=>?_
    refine A 1 ?_
    refine bD fun r14 hr14=>?_
    refine A 2 ?_
    refine bD fun x_o15 hx_o15=>sE (l:=x7) (en:=(eL Pa)) (q':=r14) r r r r r r r (by simp) hx_o15 r r r (by simp [PH,cells,setAt,eL]) r<|?_
    refine A 8 ?_
    exact xL (s:=(x7.set k4.toNat r14,IntKind.i64.wrap (i8 + 1))) (_,_,_,_,_,_) ((hE ⟨rfl,r,r,r,r,r,r,trivial⟩ ⟨rfl,r,r,(Eq.trans (b:=some (_,⟨false,true,1,29,[.agg [.osl 13 _ 0 x7.length]]⟩)) r (by simp)),r,r,trivial⟩))
   ·exact B
  ·rintro x5 ⟨v2x3,v3x3,v4x3,v5x3,v13x3⟩ nn
   try dsimp only
   unfold ZL
   exact B
 ·refine A 12 ?_
  refine UO (b:=(Pg.mk x3)) r ?_ r r ?_ (by first | rfl | (simp only [OV]; rfl) | (simp only [OW]; rfl) | (simp only [OV,OW]; rfl) | simp [AfW,Qv])
  all_goals first|(simp;done)|(simp;omega)|rfl|(simp [PG,PE];done)

def Aly (b : Bool) : D:=.bool b
noncomputable def AfT : Dw.Spec:=Pe [] .ground Rz Ry (fun a=>AaH a.1 a.2) Aly noE
theorem Akk : Pd Tryz.prog 89 AfT:=by
 refine fn2 2 (Pv) Tryz.func89<|?_
 rintro ⟨a1,b2⟩
 unfold AaH
 refine A 15 ?_
 refine cD r ?_ ?_
 ·exact B
 ·refine A 9 ?_
  refine lP (E:=fun (s : Int) (_g : Unit)=>[(0,.sl (a1.map Pa)),(1,.sl (b2.map Pa)),(5,.int .i64 s)]) (O:=fun _ _=>[]) (body:=fun s=>TI a1 b2 s) (s:=0) () ((hE ⟨rfl,r,r,trivial⟩ trivial))<|?_
  rintro i3 ⟨⟩ nn
  try dsimp only
  unfold TI
  exact B

def VE (a : (List (List Int)) × (List (List Int))) : List D:=[.sl (a.1.map (eL Pa)),.sl (a.2.map (eL Pa))]
def VD (ds : List D) : (List (List Int)) × (List (List Int)):=((uL (uL uI)) (ds.getD 0 .top),(uL (uL uI)) (ds.getD 1 .top))
theorem Ahv (a : (List (List Int)) × (List (List Int))) : VD (VE a) = a:=by simp [VD,VE,PV (u:=(uL uI)) (en:=(eL Pa)) (PV (u:=uI) (en:=Pa) (fun _=>rfl))]
instance : Px VE VD:=⟨Ahv⟩
def Aih (b : Bool) : D:=.bool b
noncomputable def Adn : Dw.Spec:=Pe [] .ground VE VD (fun a=>WR a.1 a.2) Aih noE
theorem Ahw : Pd Tryz.prog 66 Adn:=by
 refine fn2 2 (Pk (l:=[(89,AfT)]) (by simp [Akk])) Tryz.func66<|?_
 rintro ⟨a1,b2⟩
 unfold WR
 refine A 15 ?_
 refine cD r ?_ ?_
 ·exact B
 ·refine A 9 ?_
  refine lP (E:=fun (s : Int) (_g : Unit)=>[(0,.sl (a1.map (eL Pa))),(1,.sl (b2.map (eL Pa))),(5,.int .i64 s)]) (O:=fun _ _=>[]) (body:=fun s=>RG a1 b2 s) (s:=0) () ((hE ⟨rfl,r,r,trivial⟩ trivial))<|?_
  rintro i3 ⟨⟩ nn
  try dsimp only
  unfold RG
  exact B

def Yz (a : Pg × Pg) : List D:=[Qv a.1,Qv a.2]
def Yy (ds : List D) : Pg × Pg:=(VN (ds.getD 0 .top),VN (ds.getD 1 .top))
theorem Ako (a : Pg × Pg) : Yy (Yz a) = a:=by simp [Yy,Yz]
instance : Px Yz Yy:=⟨Ako⟩
def AlC (b : Bool) : D:=.bool b
noncomputable def AfV : Dw.Spec:=Pe [] .ground Yz Yy (fun a=>AaJ a.1 a.2) AlC noE
theorem Akp : Pd Tryz.prog 40 AfV:=by
 refine fn2 2 (Pk (l:=[(66,Adn)]) (by simp [Ahw])) Tryz.func40<|?_
 intro a
 unfold AaJ
 exact B

def Vn (a : OX) : List D:=[PN a]
def Vm (ds : List D) : OX:=SI (ds.getD 0 .top)
theorem Aje (a : OX) : Vm (Vn a) = a:=by simp [Vm,Vn]
instance : Px Vn Vm:=⟨Aje⟩
def Akq (b : Pg) : D:=Qv b
noncomputable def WT : Dw.Spec:=Pe [] .val Vn Vm (fun a=>Tg a) Akq noE
theorem YB : Pd Tryz.prog 17 WT:=by
 refine fn2 1 (Pk (l:=[(39,AfX),(40,AfV)]) (by simp [Aks,Akp])) Tryz.func17<|?_
 intro f1
 unfold Tg
 refine A 11 ?_
 refine cK fun hq=>AdN (α:=Int) r r r hq r<|?_
 refine A 4 ?_
 refine Vx (E:=[(1,.optr 1 _ 0 0),(2,.optr 2 _ 0 0),(3,.optr 3 _ 0 0)]) (O:=[(1,some (_,⟨false,true,3,40,[.agg [.int .i64 f1.Params,.sl (f1.Slots.map Pn),.sl (f1.Code.map Pm)]]⟩)),(2,some (_,⟨false,true,1,29,[.agg [.nils]]⟩)),(3,some (_,⟨false,true,1,29,[.agg [.osl 8 _ 0 ((List.replicate (f1.Code.length : Int).toNat ([] : (List Int))).length)]]⟩)),(8,some (_,⟨false,false,1,30,(List.replicate (f1.Code.length : Int).toNat ([] : (List Int))).map (eL Pa)⟩))]) ((AfG (g:=8) r (Aho (l:=List.replicate (f1.Code.length : Int).toNat ([] : (List Int))) Pa (fun _ h=>List.eq_of_mem_replicate h)) (hE ⟨rfl,r,r,trivial⟩ ⟨rfl,r,r,r,trivial⟩))) fun nn=>?_
 refine A 1 ?_
 refine lP (E:=fun (_s : (List (List Int))) (g : Nat × Nat × Nat)=>[(1,.optr 1 g.1 0 0),(2,.optr 2 g.2.1 0 0),(3,.optr 3 g.2.2 0 0)]) (O:=fun s g=>[(1,some (g.1,⟨false,true,3,40,[.agg [.int .i64 f1.Params,.sl (f1.Slots.map Pn),.sl (f1.Code.map Pm)]]⟩)),(2,some (g.2.1,⟨false,true,1,29,[.agg [.nils]]⟩)),(3,some (g.2.2,⟨false,true,1,29,[.agg [.sl (s.map (eL Pa))]]⟩))]) (body:=fun s=>YA f1 s) (s:=List.replicate (f1.Code.length : Int).toNat ([] : (List Int))) (_,_,_) ((Abk [(8,some (_,⟨true,false,1,30,(List.replicate (f1.Code.length : Int).toNat ([] : (List Int))).map (eL Pa)⟩))] ⟨⟨_,_,r,r,r⟩,trivial⟩ ⟨(PF r),(PF r),(PF r),trivial⟩ ⟨(.inl r),(.inl r),(.inr ⟨_,_,_,_,r,r,r,r,ZS r ⟨(XP (l:=List.replicate (f1.Code.length : Int).toNat ([] : (List Int))) (en:=(eL Pa)) r r r (by simp)),trivial⟩⟩),trivial⟩))<|?_
 rintro l2 ⟨v1x1,v2x1,v3x1⟩ nn
 try dsimp only
 unfold YA
 exact B

def Sc (a : Mk × OX) : List D:=[Pz a.1,PN a.2]
def Sb (ds : List D) : Mk × OX:=(Sa (ds.getD 0 .top),SI (ds.getD 1 .top))
theorem Afk (a : Mk × OX) : Sb (Sc a) = a:=by simp [Sb,Sc]
instance : Px Sc Sb:=⟨Afk⟩
def XQ (b : Pg × Mk) : D:=Qv b.1
def Afs (b : Pg × Mk) : List D:=[Pz b.2]
noncomputable def Abx : Dw.Spec:=Pe [(0,(2,99))] .val Sc Sb (fun a=>Un a.1 a.2) XQ Afs
theorem Afl : Pd Tryz.prog 10 Abx:=by
 refine fn2 2 (Pk (l:=[(17,WT),(28,PL),(32,Xc)]) (by simp [YB,PO,XY])) Tryz.func10<|?_
 rintro ⟨c1,f2⟩
 unfold Un
 refine A 9 ?_
 refine bD fun r3 hr3=>?_
 refine A 9 ?_
 refine cK fun hq=>aP (([] : List (List Int))) (r3.Out) (eL Pa) r r r r r r r (by simp) r r r (by simp) r (fun _=>r) r hq<|?_
 refine A 9 ?_
 refine bD fun r4 hr4=>?_
 refine A 5 ?_
 refine lP (E:=fun (s : (List Int) × Int × (List (List Int)) × Int) (g : Nat × Nat × Nat × Nat)=>[(0,.optr 8192 0 0 0),(3,.optr 3 g.1 0 0),(4,.optr 4 g.2.1 0 0),(6,.optr 6 g.2.2.1 0 0),(7,.int .i64 s.2.2.2)]) (O:=fun s g=>[(3,some (g.1,⟨false,true,3,40,[.agg [.int .i64 f2.Params,.sl (f2.Slots.map Pn),.sl (f2.Code.map Pm)]]⟩)),(4,some (g.2.1,⟨false,true,1,29,[.agg [.nils]]⟩)),(6,some (g.2.2.1,⟨false,true,1,29,[.agg [.osl 14 g.2.2.2 0 s.2.2.1.length]]⟩)),(14,some (g.2.2.2,⟨false,false,1,30,s.2.2.1.map (eL Pa)⟩)),(8192,some (0,⟨false,true,2,99,[.agg [.sl (s.1.map eU8),.int .i64 s.2.1]]⟩))]) (body:=fun s=>Ut f2 s.1 s.2.1 s.2.2.1 s.2.2.2) (s:=(r4.2.list,r4.2.at_,([] : List (List Int)) ++ r3.Out,r4.1)) (_,_,_,_) ((hE ⟨rfl,r,r,r,r,trivial⟩ ⟨rfl,r,r,r,r,trivial⟩))<|?_
 rintro ⟨c5,c6,x7,n8⟩ ⟨v3x1,v4x1,v6x1,v14x1⟩ nn
 try dsimp only
 unfold Ut
 refine sC (E:=fun (_s : Unit) (g : Nat × Nat × Nat × Nat)=>[(0,.optr 8192 0 0 0),(3,.optr 3 g.1 0 0),(4,.optr 4 g.2.1 0 0),(6,.optr 6 g.2.2.1 0 0),(7,.int .i64 n8),(21,.optr 3 g.1 0 1),(22,.sl (f2.Slots.map Pn)),(23,.int .i64 (f2.Slots.length : Int)),(24,.bool (decide ((f2.Slots.length : Int) > 0)))]) (O:=fun _ g=>[(3,some (g.1,⟨false,true,3,40,[.agg [.int .i64 f2.Params,.sl (f2.Slots.map Pn),.sl (f2.Code.map Pm)]]⟩)),(4,some (g.2.1,⟨false,true,1,29,[.agg [.nils]]⟩)),(6,some (g.2.2.1,⟨false,true,1,29,[.agg [.osl 14 g.2.2.2 0 x7.length]]⟩)),(14,some (g.2.2.2,⟨false,false,1,30,x7.map (eL Pa)⟩)),(8192,some (0,⟨false,true,2,99,[.agg [.sl (c5.map eU8),.int .i64 c6]]⟩))]) (j:=fun _=>Uv c5 c6 f2 n8 x7) ?_ ?_
 ·refine A 5 ?_
  refine Abe r ?_ ?_
  ·refine A 7 ?_
   refine cD r ?_ ?_
   ·exact B
   ·refine A 12 ?_
    refine UO (b:=((Pg.mk x7),(Mk.mk c5 c6))) r ?_ r r ?_ (by first | rfl | (simp only [OV]; rfl) | (simp only [OW]; rfl) | (simp only [OV,OW]; rfl) | simp [XQ,Qv])
    all_goals first|(simp;done)|(simp;omega)|rfl|(simp [PG,PE];done)
  ·refine A 20 ?_
   refine UO (b:=((Pg.mk x7),(Mk.mk c5 c6))) r ?_ r r ?_ (by first | rfl | (simp only [OV]; rfl) | (simp only [OW]; rfl) | (simp only [OV,OW]; rfl) | simp [XQ,Qv])
   all_goals first|(simp;done)|(simp;omega)|rfl|(simp [PG,PE];done)
 ·rintro ⟨⟩ ⟨v3x2,v4x2,v6x2,v14x2⟩ nn
  try dsimp only
  unfold Uv
  refine bC (E:=fun (_s : (List Int) × Int × (List (List Int))) (g : Nat × Nat × Nat × Nat)=>[(0,.optr 8192 0 0 0),(3,.optr 3 g.1 0 0),(4,.optr 4 g.2.1 0 0),(6,.optr 6 g.2.2.1 0 0),(7,.int .i64 n8),(21,.optr 3 g.1 0 1),(22,.sl (f2.Slots.map Pn)),(23,.int .i64 (f2.Slots.length : Int)),(24,.bool (decide ((f2.Slots.length : Int) > 0)))]) (O:=fun s g=>[(3,some (g.1,⟨false,true,3,40,[.agg [.int .i64 f2.Params,.sl (f2.Slots.map Pn),.sl (f2.Code.map Pm)]]⟩)),(4,some (g.2.1,⟨false,true,1,29,[.agg [.nils]]⟩)),(6,some (g.2.2.1,⟨false,true,1,29,[.agg [.osl 14 g.2.2.2 0 s.2.2.length]]⟩)),(14,some (g.2.2.2,⟨false,false,1,30,s.2.2.map (eL Pa)⟩)),(8192,some (0,⟨false,true,2,99,[.agg [.sl (s.1.map eU8),.int .i64 s.2.1]]⟩))]) (j:=fun s=>Uw n8 s.1 s.2.1 s.2.2) ?_ ?_
  ·refine A 6 ?_
   refine bD fun r12 hr12=>?_
   refine A 10 ?_
   refine lP (E:=fun (s : (List (List Int)) × Int) (g : Nat × Nat × Nat × Nat)=>[(0,.optr 8192 0 0 0),(3,.optr 3 g.1 0 0),(4,.optr 4 g.2.1 0 0),(6,.optr 6 g.2.2.1 0 0),(7,.int .i64 n8),(8,.int .i64 r12.1),(9,.int .i64 s.2),(21,.optr 3 g.1 0 1),(22,.sl (f2.Slots.map Pn)),(23,.int .i64 (f2.Slots.length : Int)),(24,.bool (decide ((f2.Slots.length : Int) > 0)))]) (O:=fun s g=>[(3,some (g.1,⟨false,true,3,40,[.agg [.int .i64 f2.Params,.sl (f2.Slots.map Pn),.sl (f2.Code.map Pm)]]⟩)),(4,some (g.2.1,⟨false,true,1,29,[.agg [.nils]]⟩)),(6,some (g.2.2.1,⟨false,true,1,29,[.agg [.osl 14 g.2.2.2 0 s.1.length]]⟩)),(14,some (g.2.2.2,⟨false,false,1,30,s.1.map (eL Pa)⟩)),(8192,some (0,⟨false,true,2,99,[.agg [.sl (r12.2.list.map eU8),.int .i64 r12.2.at_]]⟩))]) (body:=fun s=>Uu r12 n8 s.1 s.2) (s:=(x7,0)) (_,_,_,_) ((hE ⟨rfl,r,r,r,r,r,r,r,r,r,r,trivial⟩ ⟨rfl,r,r,r,r,trivial⟩))<|?_
   rintro ⟨x13,k14⟩ ⟨v3x3,v4x3,v6x3,v14x3⟩ nn
   try dsimp only
   unfold Uu
   refine A 10 ?_
   refine cD r ?_ ?_
   ·refine A 12 ?_
    refine bD fun x_e15 hx_e15=>?_
    refine A 2 ?_
    refine bD fun r16 hr16=>?_
    refine A 2 ?_
    refine bD fun x_o17 hx_o17=>sE (l:=x13) (en:=(eL Pa)) (q':=r16) r r r r r r r (by simp) hx_o17 r r r (by simp [PH,cells,setAt,eL]) r<|?_
    refine A 8 ?_
    exact xL (s:=(x13.set k14.toNat r16,IntKind.i64.wrap (k14 + 1))) (_,_,_,_) ((hE ⟨rfl,r,r,r,r,r,r,r,r,r,r,trivial⟩ ⟨rfl,r,(Eq.trans (b:=some (_,⟨false,true,1,29,[.agg [.osl 14 _ 0 x13.length]]⟩)) r (by simp)),r,r,trivial⟩))
   ·exact B
  ·rintro ⟨c9,c10,x11⟩ ⟨v3x4,v4x4,v6x4,v14x4⟩ nn
   try dsimp only
   unfold Uw
   exact B

def Ahe (b : Int × Mk) : D:=.int .i64 b.1
def Ahd (b : Int × Mk) : List D:=[Pz b.2]
noncomputable def ZT : Dw.Spec:=Pe [(0,(2,99))] .val QP QO (fun a=>Rm a) Ahe Ahd
theorem AbS : Pd Tryz.prog 55 ZT:=by
 refine fn2 1 (Pk (l:=[(28,PL)]) (by simp [PO])) Tryz.func55<|?_
 intro c1
 unfold Rm
 refine A 8 ?_
 refine bD fun r2 hr2=>?_
 refine A 11 ?_
 refine cD r ?_ ?_
 ·refine A 2 ?_
  refine bS ([9223372036854775807,(-9223372036854775808),2147483648,2147483647,(-1),16777216,33554432,1048577,512,80] : List Int) Pa r r r (by simp) r r r<|?_
  exact B
 ·exact B

def VA (b : Pg × Mk) : D:=Qv b.1
def Agp (b : Pg × Mk) : List D:=[Pz b.2]
noncomputable def AbU : Dw.Spec:=Pe [(0,(2,99))] .val Sc Sb (fun a=>UU a.1 a.2) VA Agp
theorem Afr : Pd Tryz.prog 30 AbU:=by
 refine fn2 2 (Pk (l:=[(17,WT),(28,PL),(32,Xc),(54,Abr),(55,ZT)]) (by simp [YB,PO,XY,Adm,AbS])) Tryz.func30<|?_
 rintro ⟨c1,f2⟩
 unfold UU
 refine A 9 ?_
 refine bD fun r3 hr3=>?_
 refine A 9 ?_
 refine bD fun r4 hr4=>?_
 refine A 4 ?_
 refine cD r ?_ ?_
 ·exact B
 ·refine A 6 ?_
  refine cK fun hq=>aP (([] : List (List Int))) (r3.Out) (eL Pa) r r r r r r r (by simp) r r r (by simp) r (fun _=>r) r hq<|?_
  refine A 5 ?_
  refine sC (E:=fun (_s : (List Int) × Int × (List (List Int))) (g : Nat × Nat × Nat)=>[(0,.optr 8192 0 0 0),(4,.optr 4 g.1 0 0),(6,.optr 6 g.2.1 0 0)]) (O:=fun s g=>[(4,some (g.1,⟨false,true,1,29,[.agg [.nils]]⟩)),(6,some (g.2.1,⟨false,true,1,29,[.agg [.osl 19 g.2.2 0 s.2.2.length]]⟩)),(19,some (g.2.2,⟨false,false,1,30,s.2.2.map (eL Pa)⟩)),(8192,some (0,⟨false,true,2,99,[.agg [.sl (s.1.map eU8),.int .i64 s.2.1]]⟩))]) (j:=fun s=>RJ s.1 s.2.1 s.2.2) ?_ ?_
  ·refine A 3 ?_
   refine bD fun r8 hr8=>?_
   refine A 5 ?_
   refine lP (E:=fun (s : (List Int) × Int × (List (List Int)) × Int) (g : Nat × Nat × Nat × Nat)=>[(0,.optr 8192 0 0 0),(3,.optr 3 g.1 0 0),(4,.optr 4 g.2.1 0 0),(6,.optr 6 g.2.2.1 0 0),(7,.int .i64 s.2.2.2)]) (O:=fun s g=>[(3,some (g.1,⟨false,true,3,40,[.agg [.int .i64 f2.Params,.sl (f2.Slots.map Pn),.sl (f2.Code.map Pm)]]⟩)),(4,some (g.2.1,⟨false,true,1,29,[.agg [.nils]]⟩)),(6,some (g.2.2.1,⟨false,true,1,29,[.agg [.osl 19 g.2.2.2 0 s.2.2.1.length]]⟩)),(19,some (g.2.2.2,⟨false,false,1,30,s.2.2.1.map (eL Pa)⟩)),(8192,some (0,⟨false,true,2,99,[.agg [.sl (s.1.map eU8),.int .i64 s.2.1]]⟩))]) (body:=fun s=>UW f2 s.1 s.2.1 s.2.2.1 s.2.2.2) (s:=(r8.2.list,r8.2.at_,([] : List (List Int)) ++ r3.Out,r8.1)) (_,_,_,_) ((hE ⟨rfl,r,r,r,r,trivial⟩ ⟨rfl,r,r,r,r,trivial⟩))<|?_
   rintro ⟨c9,c10,x11,n12⟩ ⟨v3x1,v4x1,v6x1,v19x1⟩ nn
   try dsimp only
   unfold UW
   refine sC (E:=fun (_s : Unit) (g : Nat × Nat × Nat × Nat)=>[(0,.optr 8192 0 0 0),(3,.optr 3 g.1 0 0),(4,.optr 4 g.2.1 0 0),(6,.optr 6 g.2.2.1 0 0),(7,.int .i64 n12),(26,.optr 3 g.1 0 1),(27,.sl (f2.Slots.map Pn)),(28,.int .i64 (f2.Slots.length : Int)),(29,.bool (decide ((f2.Slots.length : Int) > 0)))]) (O:=fun _ g=>[(3,some (g.1,⟨false,true,3,40,[.agg [.int .i64 f2.Params,.sl (f2.Slots.map Pn),.sl (f2.Code.map Pm)]]⟩)),(4,some (g.2.1,⟨false,true,1,29,[.agg [.nils]]⟩)),(6,some (g.2.2.1,⟨false,true,1,29,[.agg [.osl 19 g.2.2.2 0 x11.length]]⟩)),(19,some (g.2.2.2,⟨false,false,1,30,x11.map (eL Pa)⟩)),(8192,some (0,⟨false,true,2,99,[.agg [.sl (c9.map eU8),.int .i64 c10]]⟩))]) (j:=fun _=>UY c9 c10 f2 n12 x11) ?_ ?_
   ·exact B
   ·rintro ⟨⟩ ⟨v3x2,v4x2,v6x2,v19x2⟩ nn
    try dsimp only
    unfold UY
    refine bC (E:=fun (_s : (List Int) × Int × (List (List Int))) (g : Nat × Nat × Nat × Nat)=>[(0,.optr 8192 0 0 0),(3,.optr 3 g.1 0 0),(4,.optr 4 g.2.1 0 0),(6,.optr 6 g.2.2.1 0 0),(7,.int .i64 n12),(26,.optr 3 g.1 0 1),(27,.sl (f2.Slots.map Pn)),(28,.int .i64 (f2.Slots.length : Int)),(29,.bool (decide ((f2.Slots.length : Int) > 0)))]) (O:=fun s g=>[(3,some (g.1,⟨false,true,3,40,[.agg [.int .i64 f2.Params,.sl (f2.Slots.map Pn),.sl (f2.Code.map Pm)]]⟩)),(4,some (g.2.1,⟨false,true,1,29,[.agg [.nils]]⟩)),(6,some (g.2.2.1,⟨false,true,1,29,[.agg [.osl 19 g.2.2.2 0 s.2.2.length]]⟩)),(19,some (g.2.2.2,⟨false,false,1,30,s.2.2.map (eL Pa)⟩)),(8192,some (0,⟨false,true,2,99,[.agg [.sl (s.1.map eU8),.int .i64 s.2.1]]⟩))]) (j:=fun s=>QY n12 s.1 s.2.1 s.2.2) ?_ ?_
    ·refine A 6 ?_
     refine bD fun r16 hr16=>?_
     refine A 8 ?_
     refine bD fun r17 hr17=>?_
     refine A 4 ?_
     refine cD r ?_ ?_
     ·refine A 7 ?_
      refine lP (E:=fun (s : (List (List Int)) × Int) (g : Nat × Nat × Nat × Nat)=>[(0,.optr 8192 0 0 0),(3,.optr 3 g.1 0 0),(4,.optr 4 g.2.1 0 0),(6,.optr 6 g.2.2.1 0 0),(7,.int .i64 n12),(8,.int .i64 r16.1),(9,.int .i64 s.2),(26,.optr 3 g.1 0 1),(27,.sl (f2.Slots.map Pn)),(28,.int .i64 (f2.Slots.length : Int)),(29,.bool (decide ((f2.Slots.length : Int) > 0)))]) (O:=fun s g=>[(3,some (g.1,⟨false,true,3,40,[.agg [.int .i64 f2.Params,.sl (f2.Slots.map Pn),.sl (f2.Code.map Pm)]]⟩)),(4,some (g.2.1,⟨false,true,1,29,[.agg [.nils]]⟩)),(6,some (g.2.2.1,⟨false,true,1,29,[.agg [.osl 19 g.2.2.2 0 s.1.length]]⟩)),(19,some (g.2.2.2,⟨false,false,1,30,s.1.map (eL Pa)⟩)),(8192,some (0,⟨false,true,2,99,[.agg [.sl (r17.2.list.map eU8),.int .i64 r17.2.at_]]⟩))]) (body:=fun s=>UX r16 n12 r17 s.1 s.2) (s:=(x11,0)) (_,_,_,_) ((hE ⟨rfl,r,r,r,r,r,r,r,r,r,r,trivial⟩ ⟨rfl,r,r,r,r,trivial⟩))<|?_
      rintro ⟨x18,k19⟩ ⟨v3x3,v4x3,v6x3,v19x3⟩ nn
      try dsimp only
      unfold UX
      refine A 10 ?_
      refine cD r ?_ ?_
      ·refine A 12 ?_
       refine bD fun x_e20 hx_e20=>?_
       refine A 2 ?_
       refine bD fun r21 hr21=>?_
       refine A 2 ?_
       refine bD fun x_o22 hx_o22=>sE (l:=x18) (en:=(eL Pa)) (q':=r21) r r r r r r r (by simp) hx_o22 r r r (by simp [PH,cells,setAt,eL]) r<|?_
       refine A 8 ?_
       exact xL (s:=(x18.set k19.toNat r21,IntKind.i64.wrap (k19 + 1))) (_,_,_,_) ((hE ⟨rfl,r,r,r,r,r,r,r,r,r,r,trivial⟩ ⟨rfl,r,(Eq.trans (b:=some (_,⟨false,true,1,29,[.agg [.osl 19 _ 0 x18.length]]⟩)) r (by simp)),r,r,trivial⟩))
      ·exact B
     ·refine A 8 ?_
      refine bD fun r23 hr23=>?_
      refine A 7 ?_
      refine bD fun r24 hr24=>?_
      refine A 4 ?_
      refine cD r ?_ ?_
      ·refine A 8 ?_
       refine bD fun x_e25 hx_e25=>?_
       refine A 2 ?_
       refine bD fun r26 hr26=>?_
       refine A 2 ?_
       refine bD fun x_o27 hx_o27=>sE (l:=x11) (en:=(eL Pa)) (q':=r26) r r r r r r r (by simp) hx_o27 r r r (by simp [PH,cells,setAt,eL]) r<|?_
       refine A 1 ?_
       exact AaU (s:=(r24.2.list,r24.2.at_,x11.set r23.1.toNat r26)) (_,_,_,_) ((hE ⟨rfl,r,r,r,r,r,r,r,r,trivial⟩ ⟨rfl,r,(Eq.trans (b:=some (_,⟨false,true,1,29,[.agg [.osl 19 _ 0 x11.length]]⟩)) r (by simp)),r,r,trivial⟩))
      ·refine A 8 ?_
       refine bD fun x_e28 hx_e28=>?_
       refine A 2 ?_
       refine bD fun r29 hr29=>?_
       refine A 2 ?_
       refine bD fun x_o30 hx_o30=>sE (l:=x11) (en:=(eL Pa)) (q':=r29) r r r r r r r (by simp) hx_o30 r r r (by simp [PH,cells,setAt,eL]) r<|?_
       refine A 1 ?_
       exact AaU (s:=(r24.2.list,r24.2.at_,x11.set r23.1.toNat r29)) (_,_,_,_) ((hE ⟨rfl,r,r,r,r,r,r,r,r,trivial⟩ ⟨rfl,r,(Eq.trans (b:=some (_,⟨false,true,1,29,[.agg [.osl 19 _ 0 x11.length]]⟩)) r (by simp)),r,r,trivial⟩))
    ·rintro ⟨c13,c14,x15⟩ ⟨v3x4,v4x4,v6x4,v19x4⟩ nn
     try dsimp only
     unfold QY
     exact B
  ·rintro ⟨c5,c6,x7⟩ ⟨v4x5,v6x5,v19x5⟩ nn
   try dsimp only
   unfold RJ
   refine A 4 ?_
   refine bD fun r31 hr31=>?_
   refine A 10 ?_
   refine cD r ?_ ?_
   ·refine A 3 ?_
    refine cK fun hq=>Zd (l:=x7) r r r r r r hq<|?_
    refine A 12 ?_
    refine UO (b:=((Pg.mk (x7.drop ((1 : Int).toNat))),r31.2)) r ?_ r r ?_ (by first | rfl | (simp only; rfl) | (simp only [OW]; rfl) | (simp only [OV,OW]; rfl) | simp [VA,Qv])
    all_goals first|(simp;done)|(simp;omega)|rfl|(simp [PG,PE];done)
   ·refine A 6 ?_
    refine cD r ?_ ?_
    ·refine A 4 ?_
     refine bD fun r32 hr32=>?_
     refine A 2 ?_
     refine bD fun r33 hr33=>?_
     refine A 1 ?_
     refine bS ([r32.1,r33.1] : List Int) Pa r r r (by simp) r r r<|cK fun hq=>iO (l:=x7) (en:=(eL Pa)) r r r r r hq<|bD fun x_o34 hx_o34=>sE (l:=x7) (en:=(eL Pa)) (q':=([r32.1,r33.1] : List Int)) r r r r r r r (by simp) hx_o34 r r r (by simp [PH,cells,setAt,eL]) r<|?_
     refine A 10 ?_
     refine UO (b:=((Pg.mk (x7.set ((0 : Int).toNat) ([r32.1,r33.1] : List Int))),r33.2)) r ?_ r r ?_ (by first | rfl | (simp only; rfl) | (simp only; rfl) | (simp only [OV,OW]; rfl) | simp [VA,Qv])
     all_goals first|(simp;done)|(simp;omega)|rfl|(simp [PG,PE];done)
    ·refine A 10 ?_
     refine UO (b:=((Pg.mk x7),r31.2)) r ?_ r r ?_ (by first | rfl | (simp only [OV]; rfl) | (simp only [OW]; rfl) | (simp only [OV,OW]; rfl) | simp [VA,Qv])
     all_goals first|(simp;done)|(simp;omega)|rfl|(simp [PG,PE];done)

def AlI (b : Int) : D:=.int .i64 b
noncomputable def AaR : Dw.Spec:=Pe [] .ground UH UG (fun a=>Sn a.1 a.2) AlI noE
theorem AbR : Pd Tryz.prog 24 AaR:=by
 refine fn2 2 (Pv) Tryz.func24<|?_
 rintro ⟨p1,i2⟩
 unfold Sn
 refine A 16 ?_
 refine bD fun x_x3 hx_x3=>?_
 refine A 13 ?_
 refine lP (E:=fun (s : Int × Int) (g : Nat)=>[(2,.optr 2 g 0 0),(5,.int .i64 s.1),(6,.sl (x_x3.Code.map Pm)),(7,.int .i64 s.2)]) (O:=fun _ g=>[(2,some (g,⟨false,true,1,26,[.agg [.sl (p1.Funcs.map PN)]]⟩))]) (body:=fun s=>WX x_x3 p1 s.1 s.2) (s:=(0,0)) _ ((hE ⟨rfl,r,r,r,trivial⟩ ⟨rfl,trivial⟩))<|?_
 rintro ⟨n4,k5⟩ v2x1 nn
 try dsimp only
 unfold WX
 exact B

def Akc (b : Bool) : D:=.bool b
noncomputable def WQ : Dw.Spec:=Pe [] .ground PY PX (fun a=>RY a) Akc noE
theorem Ys : Pd Tryz.prog 47 WQ:=by
 refine fn2 1 (Pv) Tryz.func47<|?_
 intro a
 unfold RY
 exact B

def Anb (b : Int × Int) : D:=.tup [.int .i64 b.1,.int .i64 b.2]
noncomputable def Aci : Dw.Spec:=Pe [] .ground TH TG (fun a=>Vt a.1 a.2) Anb noE
theorem AdL : Pd Tryz.prog 33 Aci:=by
 refine fn2 2 (Pk (l:=[(47,WQ),(58,ZH)]) (by simp [Ys,Abp])) Tryz.func33<|?_
 rintro ⟨n1,align2⟩
 unfold Vt
 refine A 6 ?_
 refine sC (E:=fun (_s : Unit) (_g : Unit)=>[(0,.int .i64 n1),(1,.int .i64 align2)]) (O:=fun _ _=>[]) (j:=fun _=>Zr align2 n1) ?_ ?_
 ·exact B
 ·rintro ⟨⟩ ⟨⟩ nn
  try dsimp only
  unfold Zr
  refine A 6 ?_
  refine sC (E:=fun (s : Int) (_g : Unit)=>[(6,.int .i64 s)]) (O:=fun _ _=>[]) (j:=fun s=>Vu s) ?_ ?_
  ·exact B
  ·rintro m5 ⟨⟩ nn
   try dsimp only
   unfold Vu
   exact B

def SV (b : Pf × Int) : D:=.tup [Qh b.1,.int .i64 b.2]
noncomputable def AcK : Dw.Spec:=Pe [] .val TN TM (fun a=>SU a.1 a.2.1 a.2.2) SV noE
theorem AgG : Pd Tryz.prog 11 AcK:=by
 refine fn2 3 (Pk (l:=[(24,AaR),(33,Aci)]) (by simp [AbR,AdL])) Tryz.func11<|?_
 rintro ⟨p1,i2,align3⟩
 unfold SU
 refine A 11 ?_
 refine bD fun r4 hr4=>?_
 refine A 18 ?_
 refine bD fun x_x5 hx_x5=>?_
 refine A 13 ?_
 refine lP (E:=fun (s : (List Int) × Int × Int) (g : Nat × Nat × Nat × Nat)=>[(2,.int .i64 align3),(6,.optr 6 g.1 0 0),(8,.optr 8 g.2.1 0 0),(9,.int .i64 s.2.2),(10,.sl (x_x5.Slots.map Pn)),(11,.int .i64 s.2.1)]) (O:=fun s g=>[(6,some (g.1,⟨false,true,3,32,[.agg [.int .i64 0,.int .i64 0,.osl 2900 g.2.2.1 0 (([] : List Int).length)]]⟩)),(8,some (g.2.1,⟨false,true,3,32,[.agg [.int .i64 r4,.int .i64 0,.osl 2901 g.2.2.2 0 s.1.length]]⟩)),(2900,some (g.2.2.1,⟨false,false,1,3,([] : List Int).map Pa⟩)),(2901,some (g.2.2.2,⟨false,false,1,3,s.1.map Pa⟩))]) (body:=fun s=>VL x_x5 align3 r4 s.1 s.2.1 s.2.2) (s:=(([] : List Int),0,r4)) (_,_,_,_) ((Oc (gg:=6) (off:=2) (tt:=2900) (s:=1) (tyy:=3) r r r r (Oc (gg:=8) (off:=2) (tt:=2901) (s:=1) (tyy:=3) r r r r (hE ⟨rfl,r,r,r,r,r,trivial⟩ ⟨rfl,r,r,r,trivial⟩))))<|?_
 rintro ⟨x6,k7,end8⟩ ⟨v6x1,v8x1,v2900x1,v2901x1⟩ nn
 try dsimp only
 unfold VL
 refine A 9 ?_
 refine cD r ?_ ?_
 ·refine A 9 ?_
  refine bD fun x_x9 hx_x9=>?_
  refine A 3 ?_
  refine bD fun r10 hr10=>?_
  refine A 8 ?_
  refine sC (E:=fun (s : Po × Po × Int × Int × Bool) (g : Nat × Nat × Nat × Nat)=>[(2,.int .i64 align3),(6,.optr 6 g.1 0 0),(8,.optr 8 g.2.1 0 0),(10,.sl (x_x5.Slots.map Pn)),(11,.int .i64 k7),(12,.int .i64 r10.1),(48,.int .i64 r10.1),(49,.sl (x_x5.Slots.map Pn)),(50,.int .i64 k7),(51,.fptr (.agg [.int .i64 s.1.Size,.int .i64 s.1.Align]) 0),(52,.fptr (.agg [.int .i64 s.2.1.Size,.int .i64 s.2.1.Align]) 0),(53,.int .i64 s.2.2.1),(54,.int .i64 s.2.2.2.1),(55,.bool s.2.2.2.2)]) (O:=fun _ g=>[(6,some (g.1,⟨false,true,3,32,[.agg [.int .i64 0,.int .i64 0,.osl 2900 g.2.2.1 0 (([] : List Int).length)]]⟩)),(8,some (g.2.1,⟨false,true,3,32,[.agg [.int .i64 r4,.int .i64 0,.osl 2901 g.2.2.2 0 x6.length]]⟩)),(2900,some (g.2.2.1,⟨false,false,1,3,([] : List Int).map Pa⟩)),(2901,some (g.2.2.2,⟨false,false,1,3,x6.map Pa⟩))]) (j:=fun s=>VM x6 r10 x_x5 k7 s.1 s.2.1 s.2.2.1 s.2.2.2.1 s.2.2.2.2) ?_ ?_
  ·refine A 5 ?_
   refine Abe r ?_ ?_
   ·refine A 26 ?_
    refine Qw (b:=((Pf.mk 0 0 ([])),9)) r ?_ r r ?_ (by first | rfl | (simp only [OV]; rfl) | (simp only [OW]; rfl) | (simp only [OV,OW]; rfl) | simp [SV,Qh]) (by decide)
    all_goals first|(simp;done)|(simp;omega)|rfl|(simp [PG,PE];done)
   ·refine A 3 ?_
    refine bD fun x_x16 hx_x16=>?_
    refine A 8 ?_
    refine cD r ?_ ?_
    ·refine A 14 ?_
     refine Qw (b:=((Pf.mk 0 0 ([])),9)) r ?_ r r ?_ (by first | rfl | (simp only [OV]; rfl) | (simp only [OW]; rfl) | (simp only [OV,OW]; rfl) | simp [SV,Qh]) (by decide)
     all_goals first|(simp;done)|(simp;omega)|rfl|(simp [PG,PE];done)
    ·exact B
  ·rintro ⟨x11,x12,x13,x14,x15⟩ ⟨v6x2,v8x2,v2900x2,v2901x2⟩ nn
   try dsimp only
   unfold VM
   refine A 22 ?_
   refine bD fun x_x17 hx_x17=>?_
   refine A 13 ?_
   exact xL (s:=((([] : List Int) ++ x6) ++ ([r10.1] : List Int),IntKind.i64.wrap (k7 + 1),IntKind.i64.wrap (r10.1 + x_x17.Size))) (_,_,_,_) ((Ahl (E1:=[(2,.int .i64 align3),(6,.optr 6 _ 0 0),(8,.optr 8 _ 0 0),(9,.int .i64 (IntKind.i64.wrap (r10.1 + x_x17.Size))),(10,.sl (x_x5.Slots.map Pn)),(11,.int .i64 (IntKind.i64.wrap (k7 + 1)))]) (O1:=[(6,some (_,⟨false,true,3,32,[.agg [.int .i64 0,.int .i64 0,.osl 2900 _ 0 (([] : List Int).length)]]⟩)),(8,some (_,⟨false,true,3,32,[.agg [.int .i64 r4,.int .i64 0,.osl 14 _ 0 (((([] : List Int) ++ x6) ++ ([r10.1] : List Int)).length)]]⟩)),(14,some (_,⟨false,false,1,3,((([] : List Int) ++ x6) ++ ([r10.1] : List Int)).map Pa⟩)),(2900,some (_,⟨false,false,1,3,([] : List Int).map Pa⟩))]) (hE ⟨rfl,r,r,r,r,r,trivial⟩ ⟨rfl,r,r,r,trivial⟩) (fun _=>Ahk (fun g=>bif Nat.beq g 14 then 2901 else g) (by rfl) (hE ⟨rfl,r,r,r,r,r,trivial⟩ ⟨rfl,r,r,r,trivial⟩))))
 ·refine A 9 ?_
  refine bD fun r18 hr18=>?_
  refine A 14 ?_
  refine Abe r ?_ ?_
  ·refine A 15 ?_
   refine Qw (b:=((Pf.mk 0 0 ([])),9)) r ?_ r r ?_ (by first | rfl | (simp only [OV]; rfl) | (simp only [OW]; rfl) | (simp only [OV,OW]; rfl) | simp [SV,Qh]) (by decide)
   all_goals first|(simp;done)|(simp;omega)|rfl|(simp [PG,PE];done)
  ·refine A 5 ?_
   refine cD r ?_ ?_
   ·refine A 9 ?_
    refine Qw (b:=((Pf.mk 0 0 ([])),9)) r ?_ r r ?_ (by first | rfl | (simp only [OV]; rfl) | (simp only [OW]; rfl) | (simp only [OV,OW]; rfl) | simp [SV,Qh]) (by decide)
    all_goals first|(simp;done)|(simp;omega)|rfl|(simp [PG,PE];done)
   ·refine A 17 ?_
    refine Qw (b:=((Pf.mk r4 r18.1 x6),0)) r ?_ r r ?_ (by first | rfl | (simp only [OV]; rfl) | (simp only [OW]; rfl) | (simp only [OV,OW]; rfl) | simp [SV,Qh]) (by decide)
    all_goals first|(simp;done)|(simp;omega)|rfl|(simp [PG,PE];done)

def Sl (a : (List Int)) : List D:=[.sl (a.map Pa)]
def Sk (ds : List D) : (List Int):=(uL uI) (ds.getD 0 .top)
theorem AiZ (a : (List Int)) : Sk (Sl a) = a:=by simp [Sk,Sl,PV (u:=uI) (en:=Pa) (fun _=>rfl)]
instance : Px Sl Sk:=⟨AiZ⟩
def Aki (b : Bool) : D:=.bool b
noncomputable def AbN : Dw.Spec:=Pe [] .ground Sl Sk (fun a=>Xd a) Aki noE
theorem Aeh : Pd Tryz.prog 71 AbN:=by
 refine fn2 1 (Pk (l:=[(57,AcF)]) (by simp [AeU])) Tryz.func71<|?_
 intro s1
 unfold Xd
 refine A 12 ?_
 refine lP (E:=fun (s : Int) (_g : Unit)=>[(0,.sl (s1.map Pa)),(3,.int .i64 s)]) (O:=fun _ _=>[]) (body:=fun s=>RS s1 s) (s:=0) () ((hE ⟨rfl,r,trivial⟩ trivial))<|?_
 rintro i2 ⟨⟩ nn
 try dsimp only
 unfold RS
 exact B

def Akv (b : Bool) : D:=.bool b
noncomputable def AbP : Dw.Spec:=Pe [] .ground Qk Qj (fun a=>Xf a.1 a.2) Akv noE
theorem Aej : Pd Tryz.prog 62 AbP:=by
 refine fn2 2 (Pk (l:=[(71,AbN)]) (by simp [Aeh])) Tryz.func62<|?_
 rintro ⟨f1,l2⟩
 unfold Xf
 refine A 19 ?_
 refine cD r ?_ ?_
 ·exact B
 ·refine A 9 ?_
  refine lP (E:=fun (s : Int) (g : Nat × Nat)=>[(2,.optr 2 g.1 0 0),(3,.optr 3 g.2 0 0),(5,.int .i64 s)]) (O:=fun _ g=>[(2,some (g.1,⟨false,true,3,40,[.agg [.int .i64 f1.Params,.sl (f1.Slots.map Pn),.sl (f1.Code.map Pm)]]⟩)),(3,some (g.2,⟨false,true,1,29,[.agg [.sl (l2.Out.map (eL Pa))]]⟩))]) (body:=fun s=>YD l2 f1 s) (s:=0) (_,_) ((hE ⟨rfl,r,r,trivial⟩ ⟨rfl,r,trivial⟩))<|?_
  rintro k3 ⟨v2x1,v3x1⟩ nn
  try dsimp only
  unfold YD
  exact B

def Amo (b : Bool) : D:=.bool b
noncomputable def Xe : Dw.Spec:=Pe [] .ground Re Rc (fun a=>TZ a.1 a.2) Amo noE
theorem XZ : Pd Tryz.prog 15 Xe:=by
 refine fn2 2 (Pv) Tryz.func15<|?_
 rintro ⟨s1,n2⟩
 unfold TZ
 refine A 12 ?_
 refine lP (E:=fun (s : Int) (_g : Unit)=>[(0,.sl (s1.map Pa)),(1,.int .i64 n2),(5,.int .i64 s)]) (O:=fun _ _=>[]) (body:=fun s=>VX s1 n2 s) (s:=0) () ((hE ⟨rfl,r,r,trivial⟩ trivial))<|?_
 rintro i3 ⟨⟩ nn
 try dsimp only
 unfold VX
 exact B

def Akj (b : (List Int)) : D:=.sl (b.map Pa)
noncomputable def AeT : Dw.Spec:=Pe [] (.row 1 3) Rz Ry (fun a=>Zs a.1 a.2) Akj noE
theorem Aja : Pd Tryz.prog 116 AeT:=by
 refine fn2 2 (Pk (l:=[(15,Xe)]) (by simp [XZ])) Tryz.func116<|?_
 rintro ⟨a1,b2⟩
 unfold Zs
 refine A 17 ?_
 refine lP (E:=fun (s : (List Int) × Int) (g : Nat)=>[(0,.sl (a1.map Pa)),(1,.sl (b2.map Pa)),(5,.osl 5 g 0 s.1.length),(6,.int .i64 s.2)]) (O:=fun s g=>[(5,some (g,⟨false,false,1,3,s.1.map Pa⟩))]) (body:=fun s=>SO a1 b2 s.1 s.2) (s:=(([] : List Int),0)) _ ((hE ⟨rfl,r,r,r,trivial⟩ ⟨rfl,trivial⟩))<|?_
 rintro ⟨out3,i4⟩ v5x1 nn
 try dsimp only
 unfold SO
 exact B

def TP (a : OX × Pg × Int) : List D:=[PN a.1,Qv a.2.1,.int .i64 a.2.2]
def TO (ds : List D) : OX × Pg × Int:=(SI (ds.getD 0 .top),VN (ds.getD 1 .top),uI (ds.getD 2 .top))
theorem Ahz (a : OX × Pg × Int) : TO (TP a) = a:=by simp [TO,TP,uI]
instance : Px TP TO:=⟨Ahz⟩
def Ail (b : (List Int)) : D:=.sl (b.map Pa)
noncomputable def Adp : Dw.Spec:=Pe [] (.row 1 3) TP TO (fun a=>WU a.1 a.2.1 a.2.2) Ail noE
theorem AhA : Pd Tryz.prog 87 Adp:=by
 refine fn2 3 (Pk (l:=[(63,AcG),(65,AeJ),(116,AeT),(64,WS)]) (by simp [AeV,AgS,Aja,Yw])) Tryz.func87<|?_
 rintro ⟨f1,l2,k3⟩
 unfold WU
 refine A 16 ?_
 refine bD fun r4 hr4=>?_
 refine A 11 ?_
 refine lP (E:=fun (s : (List Int) × Int) (g : Nat × Nat × Nat × Nat)=>[(2,.int .i64 k3),(3,.optr 3 g.1 0 0),(4,.optr 4 g.2.1 0 0),(7,.osl 7 g.2.2.1 0 s.1.length),(8,.osl 8 g.2.2.2 0 r4.length),(9,.int .i64 s.2)]) (O:=fun s g=>[(3,some (g.1,⟨false,true,3,40,[.agg [.int .i64 f1.Params,.sl (f1.Slots.map Pn),.sl (f1.Code.map Pm)]]⟩)),(4,some (g.2.1,⟨false,true,1,29,[.agg [.sl (l2.Out.map (eL Pa))]]⟩)),(7,some (g.2.2.1,⟨false,false,1,3,s.1.map Pa⟩)),(8,some (g.2.2.2,⟨false,false,1,3,r4.map Pa⟩))]) (body:=fun s=>SP r4 f1 l2 k3 s.1 s.2) (s:=(([] : List Int),0)) (_,_,_,_) ((hE ⟨rfl,r,r,r,r,r,trivial⟩ ⟨rfl,r,r,r,trivial⟩))<|?_
 rintro ⟨out5,i6⟩ ⟨v3x1,v4x1,v7x1,v8x1⟩ nn
 try dsimp only
 unfold SP
 exact B

end Go.Proofs.YtnldnldmgceooaaGreatDoor
