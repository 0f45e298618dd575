/-
  Programs on typed data, and the proofs that the code does what they say; written by a program (dx.py).
-/
import Derived.Test.YtnldnldmgceooaaGreatDoorProg
import Derived.Test.YtnldnldmgceooaaGreatDoorDd
import Derived.KernelRfl
import Derived.Test.YtnldnldmgceooaaGreatDoorDxP
import Derived.Test.YtnldnldmgceooaaGreatDoorDxF1
namespace Go.Proofs.YtnldnldmgceooaaGreatDoor
open Go Go.Dw Go.Proofs
set_option maxRecDepth 100000
set_option maxHeartbeats 4000000
open Go.Dw renaming QU → bD,PN → cK,AcW → bS,Aey → aP,Ue → sE,AbD → iO,Acy → cD,AeS → xL,Aah → hE,Aez → lP,AaZ → sC,Zg → bC,rf → r
def We (a : OX × Int) : List D:=[PL a.1,.int .i64 a.2]
def Wd (ds : List D) : OX × Int:=(SM (ds.getD 0 .top),uI (ds.getD 1 .top))
theorem Akt (a : OX × Int) : Wd (We a) = a:=by simp [Wd,We,uI]
instance : Px We Wd:=⟨Akt⟩
def AlI (b : (List Int)) : D:=.sl (b.map Pa)
noncomputable def AcP : Dw.Spec:=Pf [] (.row 1 3) We Wd (fun a=>YA a.1 a.2) AlI noE
theorem Afc : Pd Tryz.prog 63 AcP:=by
 refine fn2 2 (Pv) Tryz.func63<|?_
 rintro ⟨f1,k2⟩
 unfold YA
 refine A 6 ?_
 refine sC (E:=fun (_s : Unit) (g : Nat)=>[(1,.int .i64 k2),(2,.optr 2 g 0 0)]) (O:=fun _ g=>[(2,some (g,⟨false,true,3,40,[.agg [.int .i64 f1.Params,.sl (f1.Slots.map Pn),.sl (f1.Code.map Pm)]]⟩))]) (j:=fun _=>ZK f1 k2) ?_ ?_
 ·exact B
 ·rintro ⟨⟩ v2x1 nn
  try dsimp only
  unfold ZK
  refine A 5 ?_
  refine bD fun x_x3 hx_x3=>?_
  refine A 20 ?_
  refine cD r ?_ ?_
  ·exact B
  ·refine sC (E:=fun (s : Bool) (g : Nat)=>[(1,.int .i64 k2),(5,.optr 5 g 0 0),(21,.int .i64 x_x3.Op),(27,.bool s)]) (O:=fun _ g=>[(5,some (g,⟨false,true,5,50,[.agg [.int .i64 x_x3.Op,.int .i64 x_x3.A,.int .i64 x_x3.B,.int .i64 x_x3.C,.int .u64 x_x3.Imm]]⟩))]) (j:=fun s=>Rm x_x3 k2 s) ?_ ?_
   ·exact B
   ·rintro x4 v5x2 nn
    try dsimp only
    unfold Rm
    refine cD r ?_ ?_
    ·exact B
    ·refine A 6 ?_
     refine cD r ?_ ?_
     ·refine A 11 ?_
      refine cD r ?_ ?_
      ·refine A 6 ?_
       refine bS ([x_x3.B,IntKind.i64.wrap (k2 + 1)] : List Int) Pa r r r (by simp) r r r<|?_
       exact B
      ·refine A 10 ?_
       refine cD r ?_ ?_
       ·refine A 6 ?_
        refine bS ([IntKind.i64.wrap (k2 + 1),x_x3.B] : List Int) Pa r r r (by simp) r r r<|?_
        exact B
       ·exact B
     ·exact B

def Qs (a : OZ) : List D:=[Pm a]
def Qr (ds : List D) : OZ:=AbP (ds.getD 0 .top)
theorem Aga (a : OZ) : Qr (Qs a) = a:=by simp [Qr,Qs]
instance : Px Qs Qr:=⟨Aga⟩
def AgK (b : Bool) : D:=.bool b
noncomputable def Zl : Dw.Spec:=Pf [] .ground Qs Qr (fun a=>RE a) AgK noE
theorem AbN : Pd Tryz.prog 37 Zl:=by
 refine fn2 1 (Pv) Tryz.func37<|?_
 intro a
 unfold RE
 exact B

def Ail (b : Int × Bool) : D:=.tup [.int .i64 b.1,.bool b.2]
noncomputable def Vq : Dw.Spec:=Pf [] .ground Qs Qr (fun a=>Rn a) Ail noE
theorem Wx : Pd Tryz.prog 14 Vq:=by
 refine fn2 1 (Pk (l:=[(37,Zl)]) (by simp [AbN])) Tryz.func14<|?_
 intro a
 unfold Rn
 exact B

def Rh (a : (List Int) × Int) : List D:=[.sl (a.1.map Pa),.int .i64 a.2]
def Rg (ds : List D) : (List Int) × Int:=((uL uI) (ds.getD 0 .top),uI (ds.getD 1 .top))
theorem Aij (a : (List Int) × Int) : Rg (Rh a) = a:=by simp [Rg,Rh,uI,PV (u:=uI) (en:=Pa) (fun _=>rfl)]
instance : Px Rh Rg:=⟨Aij⟩
def Ajf (b : (List Int)) : D:=.sl (b.map Pa)
noncomputable def Aby : Dw.Spec:=Pf [] (.row 1 3) Rh Rg (fun a=>Wb a.1 a.2) Ajf noE
theorem Adt : Pd Tryz.prog 54 Aby:=by
 refine fn2 2 (Pv) Tryz.func54<|?_
 rintro ⟨s1,n2⟩
 unfold Wb
 refine A 17 ?_
 refine lP (E:=fun (s : (List Int) × Int) (g : Nat)=>[(0,.sl (s1.map Pa)),(1,.int .i64 n2),(5,.osl 5 g 0 s.1.length),(6,.int .i64 s.2)]) (O:=fun s g=>[(5,some (g,⟨false,false,1,3,s.1.map Pa⟩))]) (body:=fun s=>Sq s1 n2 s.1 s.2) (s:=(([] : List Int),0)) _ ((hE ⟨rfl,r,r,r,trivial⟩ ⟨rfl,trivial⟩))<|?_
 rintro ⟨out3,i4⟩ v5x1 nn
 try dsimp only
 unfold Sq
 exact B

def AlJ (b : (List Int)) : D:=.sl (b.map Pa)
noncomputable def AcR : Dw.Spec:=Pf [] (.row 1 3) Qs Qr (fun a=>TZ a) AlJ noE
theorem Afd : Pd Tryz.prog 88 AcR:=by
 refine fn2 1 (Pv) Tryz.func88<|?_
 intro a
 unfold TZ
 exact B

def AlH (b : Bool) : D:=.bool b
noncomputable def AcO : Dw.Spec:=Pf [] .ground PY PX (fun a=>Vp a) AlH noE
theorem Afb : Pd Tryz.prog 57 AcO:=by
 refine fn2 1 (Pv) Tryz.func57<|?_
 intro a
 unfold Vp
 exact B

def Amv (b : (List Int)) : D:=.sl (b.map Pa)
noncomputable def Xf : Dw.Spec:=Pf [] (.row 1 3) Rh Rg (fun a=>Sx a.1 a.2) Amv noE
theorem Yd : Pd Tryz.prog 32 Xf:=by
 refine fn2 2 (Pk (l:=[(57,AcO)]) (by simp [Afb])) Tryz.func32<|?_
 rintro ⟨s1,n2⟩
 unfold Sx
 refine A 13 ?_
 refine bD fun r3 hr3=>?_
 refine A 12 ?_
 refine lP (E:=fun (s : (List Int) × Bool × Int) (g : Nat)=>[(0,.sl (s1.map Pa)),(1,.int .i64 n2),(5,.osl 5 g 0 s.1.length),(6,.bool s.2.1),(7,.int .i64 s.2.2)]) (O:=fun s g=>[(5,some (g,⟨false,false,1,3,s.1.map Pa⟩))]) (body:=fun s=>Rf s1 n2 s.1 s.2.1 s.2.2) (s:=(([] : List Int),(!r3),0)) _ ((hE ⟨rfl,r,r,r,r,trivial⟩ ⟨rfl,trivial⟩))<|?_
 rintro ⟨out4,done5,i6⟩ v5x1 nn
 try dsimp only
 unfold Rf
 refine A 9 ?_
 refine cD r ?_ ?_
 ·refine A 4 ?_
  refine sC (E:=fun (s : (List Int) × Bool) (g : Nat)=>[(0,.sl (s1.map Pa)),(1,.int .i64 n2),(5,.osl 5 g 0 s.1.length),(6,.bool s.2),(7,.int .i64 i6)]) (O:=fun s g=>[(5,some (g,⟨false,false,1,3,s.1.map Pa⟩))]) (j:=fun s=>Sn s1 i6 s.1 s.2) ?_ ?_
  ·refine sC (E:=fun (s : Bool) (g : Nat)=>[(0,.sl (s1.map Pa)),(1,.int .i64 n2),(5,.osl 5 g 0 out4.length),(6,.bool done5),(7,.int .i64 i6),(26,.bool s)]) (O:=fun _ g=>[(5,some (g,⟨false,false,1,3,out4.map Pa⟩))]) (j:=fun s=>Ts s1 i6 n2 out4 done5 s) ?_ ?_
   ·exact B
   ·rintro x9 v5x2 nn
    try dsimp only
    unfold Ts
    exact B
  ·rintro ⟨out7,done8⟩ v5x3 nn
   try dsimp only
   unfold Sn
   exact B
 ·exact B

def RD (a : (List Int) × (List Int)) : List D:=[.sl (a.1.map Pa),.sl (a.2.map Pa)]
def RC (ds : List D) : (List Int) × (List Int):=((uL uI) (ds.getD 0 .top),(uL uI) (ds.getD 1 .top))
theorem Ajg (a : (List Int) × (List Int)) : RC (RD a) = a:=by simp [RC,RD,PV (u:=uI) (en:=Pa) (fun _=>rfl)]
instance : Px RD RC:=⟨Ajg⟩
def Akr (b : (List Int)) : D:=.sl (b.map Pa)
noncomputable def WX : Dw.Spec:=Pf [] (.row 1 3) RD RC (fun a=>Tj a.1 a.2) Akr noE
theorem Yz : Pd Tryz.prog 64 WX:=by
 refine fn2 2 (Pk (l:=[(32,Xf)]) (by simp [Yd])) Tryz.func64<|?_
 rintro ⟨a1,b2⟩
 unfold Tj
 refine A 19 ?_
 refine lP (E:=fun (s : (List Int) × Int) (g : Nat)=>[(1,.sl (b2.map Pa)),(5,.osl 5 g 0 s.1.length),(6,.int .i64 s.2)]) (O:=fun s g=>[(5,some (g,⟨false,false,1,3,s.1.map Pa⟩))]) (body:=fun s=>Uj b2 s.1 s.2) (s:=(([] : List Int) ++ a1,0)) _ ((hE ⟨rfl,r,r,trivial⟩ ⟨rfl,trivial⟩))<|?_
 rintro ⟨out3,i4⟩ v5x1 nn
 try dsimp only
 unfold Uj
 exact B

def Wg (a : OZ × (List Int)) : List D:=[Pm a.1,.sl (a.2.map Pa)]
def Wf (ds : List D) : OZ × (List Int):=(AbP (ds.getD 0 .top),(uL uI) (ds.getD 1 .top))
theorem Amx (a : OZ × (List Int)) : Wf (Wg a) = a:=by simp [Wf,Wg,PV (u:=uI) (en:=Pa) (fun _=>rfl)]
instance : Px Wg Wf:=⟨Amx⟩
def Ano (b : (List Int)) : D:=.sl (b.map Pa)
noncomputable def AeQ : Dw.Spec:=Pf [] (.row 1 3) Wg Wf (fun a=>Abz a.1 a.2) Ano noE
theorem AgW : Pd Tryz.prog 65 AeQ:=by
 refine fn2 2 (Pk (l:=[(14,Vq),(54,Aby),(88,AcR),(64,WX)]) (by simp [Wx,Adt,Afd,Yz])) Tryz.func65<|?_
 intro a
 unfold Abz
 exact B

def Ql (a : OX × Pg) : List D:=[PL a.1,Qt a.2]
def Qk (ds : List D) : OX × Pg:=(SM (ds.getD 0 .top),VR (ds.getD 1 .top))
theorem Akx (a : OX × Pg) : Qk (Ql a) = a:=by simp [Qk,Ql]
instance : Px Ql Qk:=⟨Akx⟩
def Agc (b : Pg) : D:=Qt b
noncomputable def Agd : Dw.Spec:=Pf [] .val Ql Qk (fun a=>AaO a.1 a.2) Agc noE
theorem Aky : Pd Tryz.prog 39 Agd:=by
 refine fn2 2 (Pk (l:=[(63,AcP),(65,AeQ),(64,WX)]) (by simp [Afc,AgW,Yz])) Tryz.func39<|?_
 rintro ⟨f1,l2⟩
 unfold AaO
 refine A 12 ?_
 refine cK fun hq=>AdU (α:=Int) r r r hq r<|?_
 refine A 4 ?_
 refine VC (E:=[(2,.optr 2 _ 0 0),(3,.optr 3 _ 0 0),(4,.optr 4 _ 0 0),(5,.optr 5 _ 0 0)]) (O:=[(2,some (_,⟨false,true,3,40,[.agg [.int .i64 f1.Params,.sl (f1.Slots.map Pn),.sl (f1.Code.map Pm)]]⟩)),(3,some (_,⟨false,true,1,29,[.agg [.sl (l2.Out.map (eL Pa))]]⟩)),(4,some (_,⟨false,true,1,29,[.agg [.nils]]⟩)),(5,some (_,⟨false,true,1,29,[.agg [.osl 13 _ 0 ((List.replicate (f1.Code.length : Int).toNat ([] : (List Int))).length)]]⟩)),(13,some (_,⟨false,false,1,30,(List.replicate (f1.Code.length : Int).toNat ([] : (List Int))).map (eL Pa)⟩))]) ((AfM (g:=13) r (Aht (l:=List.replicate (f1.Code.length : Int).toNat ([] : (List Int))) Pa (fun _ h=>List.eq_of_mem_replicate h)) (hE ⟨rfl,r,r,r,trivial⟩ ⟨rfl,r,r,r,r,trivial⟩))) fun nn=>?_
 refine A 7 ?_
 refine lP (E:=fun (s : (List (List Int)) × Int) (g : Nat × Nat × Nat × Nat × Nat)=>[(2,.optr 2 g.1 0 0),(3,.optr 3 g.2.1 0 0),(4,.optr 4 g.2.2.1 0 0),(5,.optr 5 g.2.2.2.1 0 0),(6,.int .i64 s.2)]) (O:=fun s g=>[(2,some (g.1,⟨false,true,3,40,[.agg [.int .i64 f1.Params,.sl (f1.Slots.map Pn),.sl (f1.Code.map Pm)]]⟩)),(3,some (g.2.1,⟨false,true,1,29,[.agg [.sl (l2.Out.map (eL Pa))]]⟩)),(4,some (g.2.2.1,⟨false,true,1,29,[.agg [.nils]]⟩)),(5,some (g.2.2.2.1,⟨false,true,1,29,[.agg [.osl 13 g.2.2.2.2 0 s.1.length]]⟩)),(13,some (g.2.2.2.2,⟨false,false,1,30,s.1.map (eL Pa)⟩))]) (body:=fun s=>UO f1 l2 s.1 s.2) (s:=(List.replicate (f1.Code.length : Int).toNat ([] : (List Int)),0)) (_,_,_,_,_) ((hE ⟨rfl,r,r,r,r,trivial⟩ ⟨rfl,r,r,r,r,trivial⟩))<|?_
 rintro ⟨x3,k4⟩ ⟨v2x1,v3x1,v4x1,v5x1,v13x1⟩ nn
 try dsimp only
 unfold UO
 refine A 10 ?_
 refine cD r ?_ ?_
 ·refine A 2 ?_
  refine bC (E:=fun (_s : (List (List Int))) (g : Nat × Nat × Nat × Nat × Nat)=>[(2,.optr 2 g.1 0 0),(3,.optr 3 g.2.1 0 0),(4,.optr 4 g.2.2.1 0 0),(5,.optr 5 g.2.2.2.1 0 0),(6,.int .i64 k4)]) (O:=fun s g=>[(2,some (g.1,⟨false,true,3,40,[.agg [.int .i64 f1.Params,.sl (f1.Slots.map Pn),.sl (f1.Code.map Pm)]]⟩)),(3,some (g.2.1,⟨false,true,1,29,[.agg [.sl (l2.Out.map (eL Pa))]]⟩)),(4,some (g.2.2.1,⟨false,true,1,29,[.agg [.nils]]⟩)),(5,some (g.2.2.2.1,⟨false,true,1,29,[.agg [.osl 13 g.2.2.2.2 0 s.length]]⟩)),(13,some (g.2.2.2.2,⟨false,false,1,30,s.map (eL Pa)⟩))]) (j:=fun s=>ZM k4 s) ?_ ?_
  ·refine A 4 ?_
   refine bD fun r6 hr6=>?_
   refine A 10 ?_
   refine lP (E:=fun (s : (List (List Int)) × Int) (g : Nat × Nat × Nat × Nat × Nat × Nat)=>[(2,.optr 2 g.1 0 0),(3,.optr 3 g.2.1 0 0),(4,.optr 4 g.2.2.1 0 0),(5,.optr 5 g.2.2.2.1 0 0),(6,.int .i64 k4),(7,.osl 7 g.2.2.2.2.1 0 r6.length),(8,.int .i64 s.2)]) (O:=fun s g=>[(2,some (g.1,⟨false,true,3,40,[.agg [.int .i64 f1.Params,.sl (f1.Slots.map Pn),.sl (f1.Code.map Pm)]]⟩)),(3,some (g.2.1,⟨false,true,1,29,[.agg [.sl (l2.Out.map (eL Pa))]]⟩)),(4,some (g.2.2.1,⟨false,true,1,29,[.agg [.nils]]⟩)),(5,some (g.2.2.2.1,⟨false,true,1,29,[.agg [.osl 13 g.2.2.2.2.2 0 s.1.length]]⟩)),(7,some (g.2.2.2.2.1,⟨false,false,1,3,r6.map Pa⟩)),(13,some (g.2.2.2.2.2,⟨false,false,1,30,s.1.map (eL Pa)⟩))]) (body:=fun s=>UP r6 k4 f1 l2 s.1 s.2) (s:=(x3,0)) (_,_,_,_,_,_) ((hE ⟨rfl,r,r,r,r,r,r,trivial⟩ ⟨rfl,r,r,r,r,r,trivial⟩))<|?_
   rintro ⟨x7,i8⟩ ⟨v2x2,v3x2,v4x2,v5x2,v7x2,v13x2⟩ nn
   try dsimp only
   unfold UP
   refine A 9 ?_
   refine cD r ?_ ?_
   ·refine A 9 ?_
    refine bD fun next_e9 hnext_e9=>?_
    refine A 12 ?_
    refine bD fun x_e10 hx_e10=>?_
    refine A 4 ?_
    refine bD fun x_x11 hx_x11=>?_
    refine A 5 ?_
    refine bD fun x_x12 hx_x12=>?_
    refine A 2 ?_
    refine bD fun r13 hr13=>?_
    refine A 1 ?_
    refine bD fun r14 hr14=>?_
    refine A 2 ?_
    refine bD fun x_o15 hx_o15=>sE (l:=x7) (en:=(eL Pa)) (q':=r14) r r r r r r r (by simp) hx_o15 r r r (by simp [PH,cells,eL]) r<|?_
    refine A 8 ?_
    exact xL (s:=(x7.set k4.toNat r14,IntKind.i64.wrap (i8 + 1))) (_,_,_,_,_,_) ((hE ⟨rfl,r,r,r,r,r,r,trivial⟩ ⟨rfl,r,r,(Eq.trans (b:=some (_,⟨false,true,1,29,[.agg [.osl 13 _ 0 x7.length]]⟩)) r (by simp)),r,r,trivial⟩))
   ·exact B
  ·rintro x5 ⟨v2x3,v3x3,v4x3,v5x3,v13x3⟩ nn
   try dsimp only
   unfold ZM
   exact B
 ·refine A 12 ?_
  refine UR (b:=(Pg.mk x3)) r ?_ r r ?_ (by first | rfl | (simp only [OV]; rfl) | (simp only [OW]; rfl) | (simp only [OV,OW]; rfl) | simp [Agc,Qt])
  all_goals first|(simp;done)|(simp;omega)|rfl|(simp [PG,PE];done)

def AlG (b : Bool) : D:=.bool b
noncomputable def AfZ : Dw.Spec:=Pf [] .ground RD RC (fun a=>AaL a.1 a.2) AlG noE
theorem Akq : Pd Tryz.prog 89 AfZ:=by
 refine fn2 2 (Pv) Tryz.func89<|?_
 rintro ⟨a1,b2⟩
 unfold AaL
 refine A 15 ?_
 refine cD r ?_ ?_
 ·exact B
 ·refine A 9 ?_
  refine lP (E:=fun (s : Int) (_g : Unit)=>[(0,.sl (a1.map Pa)),(1,.sl (b2.map Pa)),(5,.int .i64 s)]) (O:=fun _ _=>[]) (body:=fun s=>TL a1 b2 s) (s:=0) () ((hE ⟨rfl,r,r,trivial⟩ trivial))<|?_
  rintro i3 ⟨⟩ nn
  try dsimp only
  unfold TL
  exact B

def VI (a : (List (List Int)) × (List (List Int))) : List D:=[.sl (a.1.map (eL Pa)),.sl (a.2.map (eL Pa))]
def VH (ds : List D) : (List (List Int)) × (List (List Int)):=((uL (uL uI)) (ds.getD 0 .top),(uL (uL uI)) (ds.getD 1 .top))
theorem Ahz (a : (List (List Int)) × (List (List Int))) : VH (VI a) = a:=by simp [VH,VI,PV (u:=(uL uI)) (en:=(eL Pa)) (PV (u:=uI) (en:=Pa) (fun _=>rfl))]
instance : Px VI VH:=⟨Ahz⟩
def Aik (b : Bool) : D:=.bool b
noncomputable def Adu : Dw.Spec:=Pf [] .ground VI VH (fun a=>WV a.1 a.2) Aik noE
theorem AhA : Pd Tryz.prog 66 Adu:=by
 refine fn2 2 (Pk (l:=[(89,AfZ)]) (by simp [Akq])) Tryz.func66<|?_
 rintro ⟨a1,b2⟩
 unfold WV
 refine A 15 ?_
 refine cD r ?_ ?_
 ·exact B
 ·refine A 9 ?_
  refine lP (E:=fun (s : Int) (_g : Unit)=>[(0,.sl (a1.map (eL Pa))),(1,.sl (b2.map (eL Pa))),(5,.int .i64 s)]) (O:=fun _ _=>[]) (body:=fun s=>RJ a1 b2 s) (s:=0) () ((hE ⟨rfl,r,r,trivial⟩ trivial))<|?_
  rintro i3 ⟨⟩ nn
  try dsimp only
  unfold RJ
  exact B

def YC (a : Pg × Pg) : List D:=[Qt a.1,Qt a.2]
def YB (ds : List D) : Pg × Pg:=(VR (ds.getD 0 .top),VR (ds.getD 1 .top))
theorem Aku (a : Pg × Pg) : YB (YC a) = a:=by simp [YB,YC]
instance : Px YC YB:=⟨Aku⟩
def AlK (b : Bool) : D:=.bool b
noncomputable def Agb : Dw.Spec:=Pf [] .ground YC YB (fun a=>AaN a.1 a.2) AlK noE
theorem Akv : Pd Tryz.prog 40 Agb:=by
 refine fn2 2 (Pk (l:=[(66,Adu)]) (by simp [AhA])) Tryz.func40<|?_
 intro a
 unfold AaN
 exact B

def Vs (a : OX) : List D:=[PL a]
def Vr (ds : List D) : OX:=SM (ds.getD 0 .top)
theorem Aji (a : OX) : Vr (Vs a) = a:=by simp [Vr,Vs]
instance : Px Vs Vr:=⟨Aji⟩
def Akw (b : Pg) : D:=Qt b
noncomputable def ZL : Dw.Spec:=Pf [] .val Vs Vr (fun a=>Ud a) Akw noE
theorem AbA : Pd Tryz.prog 17 ZL:=by
 refine fn2 1 (Pk (l:=[(39,Agd),(40,Agb)]) (by simp [Aky,Akv])) Tryz.func17<|?_
 intro f1
 unfold Ud
 refine A 11 ?_
 refine cK fun hq=>AdU (α:=Int) r r r hq r<|?_
 refine A 4 ?_
 refine VC (E:=[(1,.optr 1 _ 0 0),(2,.optr 2 _ 0 0),(3,.optr 3 _ 0 0)]) (O:=[(1,some (_,⟨false,true,3,40,[.agg [.int .i64 f1.Params,.sl (f1.Slots.map Pn),.sl (f1.Code.map Pm)]]⟩)),(2,some (_,⟨false,true,1,29,[.agg [.nils]]⟩)),(3,some (_,⟨false,true,1,29,[.agg [.osl 8 _ 0 ((List.replicate (f1.Code.length : Int).toNat ([] : (List Int))).length)]]⟩)),(8,some (_,⟨false,false,1,30,(List.replicate (f1.Code.length : Int).toNat ([] : (List Int))).map (eL Pa)⟩))]) ((AfM (g:=8) r (Aht (l:=List.replicate (f1.Code.length : Int).toNat ([] : (List Int))) Pa (fun _ h=>List.eq_of_mem_replicate h)) (hE ⟨rfl,r,r,trivial⟩ ⟨rfl,r,r,r,trivial⟩))) fun nn=>?_
 refine A 1 ?_
 refine lP (E:=fun (_s : (List (List Int))) (g : Nat × Nat × Nat)=>[(1,.optr 1 g.1 0 0),(2,.optr 2 g.2.1 0 0),(3,.optr 3 g.2.2 0 0)]) (O:=fun s g=>[(1,some (g.1,⟨false,true,3,40,[.agg [.int .i64 f1.Params,.sl (f1.Slots.map Pn),.sl (f1.Code.map Pm)]]⟩)),(2,some (g.2.1,⟨false,true,1,29,[.agg [.nils]]⟩)),(3,some (g.2.2,⟨false,true,1,29,[.agg [.sl (s.map (eL Pa))]]⟩))]) (body:=fun s=>YD f1 s) (s:=List.replicate (f1.Code.length : Int).toNat ([] : (List Int))) (_,_,_) ((Abq [(8,some (_,⟨true,false,1,30,(List.replicate (f1.Code.length : Int).toNat ([] : (List Int))).map (eL Pa)⟩))] ⟨⟨_,_,r,r,r⟩,trivial⟩ ⟨(PF r),(PF r),(PF r),trivial⟩ ⟨(.inl r),(.inl r),(.inr ⟨_,_,_,_,r,r,r,r,ZT r ⟨(XT (l:=List.replicate (f1.Code.length : Int).toNat ([] : (List Int))) (en:=(eL Pa)) r r r (by simp)),trivial⟩⟩),trivial⟩))<|?_
 rintro l2 ⟨v1x1,v2x1,v3x1⟩ nn
 try dsimp only
 unfold YD
 exact B

def Sg (a : Mk × OX) : List D:=[Pz a.1,PL a.2]
def Sf (ds : List D) : Mk × OX:=(Se (ds.getD 0 .top),SM (ds.getD 1 .top))
theorem Afr (a : Mk × OX) : Sf (Sg a) = a:=by simp [Sf,Sg]
instance : Px Sg Sf:=⟨Afr⟩
def XU (b : Pg × Mk) : D:=Qt b.1
def Afy (b : Pg × Mk) : List D:=[Pz b.2]
noncomputable def XV : Dw.Spec:=Pf [(0,(2,99))] .val Sg Sf (fun a=>SR a.1 a.2) XU Afy
theorem Abi : Pd Tryz.prog 10 XV:=by
 refine fn2 2 (Pk (l:=[(17,ZL),(28,PM),(32,Xf)]) (by simp [AbA,PO,Yd])) Tryz.func10<|?_
 rintro ⟨c1,f2⟩
 unfold SR
 refine A 9 ?_
 refine bD fun r3 hr3=>?_
 refine A 9 ?_
 refine cK fun hq=>aP (([] : List (List Int))) (r3.Out) (eL Pa) r r r r r r r (by simp) r r r (by simp) r (fun _=>r) r hq<|?_
 refine A 9 ?_
 refine bD fun r4 hr4=>?_
 refine A 5 ?_
 refine lP (E:=fun (s : (List Int) × Int × (List (List Int)) × Int) (g : Nat × Nat × Nat × Nat)=>[(0,.optr 8192 0 0 0),(3,.optr 3 g.1 0 0),(4,.optr 4 g.2.1 0 0),(6,.optr 6 g.2.2.1 0 0),(7,.int .i64 s.2.2.2)]) (O:=fun s g=>[(3,some (g.1,⟨false,true,3,40,[.agg [.int .i64 f2.Params,.sl (f2.Slots.map Pn),.sl (f2.Code.map Pm)]]⟩)),(4,some (g.2.1,⟨false,true,1,29,[.agg [.nils]]⟩)),(6,some (g.2.2.1,⟨false,true,1,29,[.agg [.osl 14 g.2.2.2 0 s.2.2.1.length]]⟩)),(14,some (g.2.2.2,⟨false,false,1,30,s.2.2.1.map (eL Pa)⟩)),(8192,some (0,⟨false,true,2,99,[.agg [.sl (s.1.map eU8),.int .i64 s.2.1]]⟩))]) (body:=fun s=>Ux f2 s.1 s.2.1 s.2.2.1 s.2.2.2) (s:=(r4.2.list,r4.2.at_,([] : List (List Int)) ++ r3.Out,r4.1)) (_,_,_,_) ((hE ⟨rfl,r,r,r,r,trivial⟩ ⟨rfl,r,r,r,r,trivial⟩))<|?_
 rintro ⟨c5,c6,x7,n8⟩ ⟨v3x1,v4x1,v6x1,v14x1⟩ nn
 try dsimp only
 unfold Ux
 refine sC (E:=fun (_s : Unit) (g : Nat × Nat × Nat × Nat)=>[(0,.optr 8192 0 0 0),(3,.optr 3 g.1 0 0),(4,.optr 4 g.2.1 0 0),(6,.optr 6 g.2.2.1 0 0),(7,.int .i64 n8),(21,.optr 3 g.1 0 1),(22,.sl (f2.Slots.map Pn)),(23,.int .i64 (f2.Slots.length : Int)),(24,.bool (decide ((f2.Slots.length : Int) > 0)))]) (O:=fun _ g=>[(3,some (g.1,⟨false,true,3,40,[.agg [.int .i64 f2.Params,.sl (f2.Slots.map Pn),.sl (f2.Code.map Pm)]]⟩)),(4,some (g.2.1,⟨false,true,1,29,[.agg [.nils]]⟩)),(6,some (g.2.2.1,⟨false,true,1,29,[.agg [.osl 14 g.2.2.2 0 x7.length]]⟩)),(14,some (g.2.2.2,⟨false,false,1,30,x7.map (eL Pa)⟩)),(8192,some (0,⟨false,true,2,99,[.agg [.sl (c5.map eU8),.int .i64 c6]]⟩))]) (j:=fun _=>Uz c5 c6 f2 n8 x7) ?_ ?_
 ·refine A 5 ?_
  refine Abk r ?_ ?_
  ·refine A 7 ?_
   refine cD r ?_ ?_
   ·exact B
   ·refine A 12 ?_
    refine UR (b:=((Pg.mk x7),(Mk.mk c5 c6))) r ?_ r r ?_ (by first | rfl | (simp only [OV]; rfl) | (simp only [OW]; rfl) | (simp only [OV,OW]; rfl) | simp [XU,Qt])
    all_goals first|(simp;done)|(simp;omega)|rfl|(simp [PG,PE];done)
  ·refine A 20 ?_
   refine UR (b:=((Pg.mk x7),(Mk.mk c5 c6))) r ?_ r r ?_ (by first | rfl | (simp only [OV]; rfl) | (simp only [OW]; rfl) | (simp only [OV,OW]; rfl) | simp [XU,Qt])
   all_goals first|(simp;done)|(simp;omega)|rfl|(simp [PG,PE];done)
 ·rintro ⟨⟩ ⟨v3x2,v4x2,v6x2,v14x2⟩ nn
  try dsimp only
  unfold Uz
  refine bC (E:=fun (_s : (List Int) × Int × (List (List Int))) (g : Nat × Nat × Nat × Nat)=>[(0,.optr 8192 0 0 0),(3,.optr 3 g.1 0 0),(4,.optr 4 g.2.1 0 0),(6,.optr 6 g.2.2.1 0 0),(7,.int .i64 n8),(21,.optr 3 g.1 0 1),(22,.sl (f2.Slots.map Pn)),(23,.int .i64 (f2.Slots.length : Int)),(24,.bool (decide ((f2.Slots.length : Int) > 0)))]) (O:=fun s g=>[(3,some (g.1,⟨false,true,3,40,[.agg [.int .i64 f2.Params,.sl (f2.Slots.map Pn),.sl (f2.Code.map Pm)]]⟩)),(4,some (g.2.1,⟨false,true,1,29,[.agg [.nils]]⟩)),(6,some (g.2.2.1,⟨false,true,1,29,[.agg [.osl 14 g.2.2.2 0 s.2.2.length]]⟩)),(14,some (g.2.2.2,⟨false,false,1,30,s.2.2.map (eL Pa)⟩)),(8192,some (0,⟨false,true,2,99,[.agg [.sl (s.1.map eU8),.int .i64 s.2.1]]⟩))]) (j:=fun s=>UA n8 s.1 s.2.1 s.2.2) ?_ ?_
  ·refine A 6 ?_
   refine bD fun r12 hr12=>?_
   refine A 10 ?_
   refine lP (E:=fun (s : (List (List Int)) × Int) (g : Nat × Nat × Nat × Nat)=>[(0,.optr 8192 0 0 0),(3,.optr 3 g.1 0 0),(4,.optr 4 g.2.1 0 0),(6,.optr 6 g.2.2.1 0 0),(7,.int .i64 n8),(8,.int .i64 r12.1),(9,.int .i64 s.2),(21,.optr 3 g.1 0 1),(22,.sl (f2.Slots.map Pn)),(23,.int .i64 (f2.Slots.length : Int)),(24,.bool (decide ((f2.Slots.length : Int) > 0)))]) (O:=fun s g=>[(3,some (g.1,⟨false,true,3,40,[.agg [.int .i64 f2.Params,.sl (f2.Slots.map Pn),.sl (f2.Code.map Pm)]]⟩)),(4,some (g.2.1,⟨false,true,1,29,[.agg [.nils]]⟩)),(6,some (g.2.2.1,⟨false,true,1,29,[.agg [.osl 14 g.2.2.2 0 s.1.length]]⟩)),(14,some (g.2.2.2,⟨false,false,1,30,s.1.map (eL Pa)⟩)),(8192,some (0,⟨false,true,2,99,[.agg [.sl (r12.2.list.map eU8),.int .i64 r12.2.at_]]⟩))]) (body:=fun s=>Uy r12 n8 s.1 s.2) (s:=(x7,0)) (_,_,_,_) ((hE ⟨rfl,r,r,r,r,r,r,r,r,r,r,trivial⟩ ⟨rfl,r,r,r,r,trivial⟩))<|?_
   rintro ⟨x13,k14⟩ ⟨v3x3,v4x3,v6x3,v14x3⟩ nn
   try dsimp only
   unfold Uy
   refine A 10 ?_
   refine cD r ?_ ?_
   ·refine A 12 ?_
    refine bD fun x_e15 hx_e15=>?_
    refine A 2 ?_
    refine bD fun r16 hr16=>?_
    refine A 2 ?_
    refine bD fun x_o17 hx_o17=>sE (l:=x13) (en:=(eL Pa)) (q':=r16) r r r r r r r (by simp) hx_o17 r r r (by simp [PH,cells,eL]) r<|?_
    refine A 8 ?_
    exact xL (s:=(x13.set k14.toNat r16,IntKind.i64.wrap (k14 + 1))) (_,_,_,_) ((hE ⟨rfl,r,r,r,r,r,r,r,r,r,r,trivial⟩ ⟨rfl,r,(Eq.trans (b:=some (_,⟨false,true,1,29,[.agg [.osl 14 _ 0 x13.length]]⟩)) r (by simp)),r,r,trivial⟩))
   ·exact B
  ·rintro ⟨c9,c10,x11⟩ ⟨v3x4,v4x4,v6x4,v14x4⟩ nn
   try dsimp only
   unfold UA
   exact B

def Ahj (b : Int × Mk) : D:=.int .i64 b.1
def Ahi (b : Int × Mk) : List D:=[Pz b.2]
noncomputable def ZU : Dw.Spec:=Pf [(0,(2,99))] .val QS QQ (fun a=>Rq a) Ahj Ahi
theorem AbY : Pd Tryz.prog 55 ZU:=by
 refine fn2 1 (Pk (l:=[(28,PM)]) (by simp [PO])) Tryz.func55<|?_
 intro c1
 unfold Rq
 refine A 8 ?_
 refine bD fun r2 hr2=>?_
 refine A 11 ?_
 refine cD r ?_ ?_
 ·refine A 2 ?_
  refine bS ([9223372036854775807,(-9223372036854775808),2147483648,2147483647,(-1),16777216,33554432,1048577,512,80] : List Int) Pa r r r (by simp) r r r<|?_
  exact B
 ·exact B

def VE (b : Pg × Mk) : D:=Qt b.1
def Agu (b : Pg × Mk) : List D:=[Pz b.2]
noncomputable def Aca : Dw.Spec:=Pf [(0,(2,99))] .val Sg Sf (fun a=>UZ a.1 a.2) VE Agu
theorem Afx : Pd Tryz.prog 30 Aca:=by
 refine fn2 2 (Pk (l:=[(17,ZL),(28,PM),(32,Xf),(54,Aby),(55,ZU)]) (by simp [AbA,PO,Yd,Adt,AbY])) Tryz.func30<|?_
 rintro ⟨c1,f2⟩
 unfold UZ
 refine A 9 ?_
 refine bD fun r3 hr3=>?_
 refine A 9 ?_
 refine bD fun r4 hr4=>?_
 refine A 4 ?_
 refine cD r ?_ ?_
 ·exact B
 ·refine A 6 ?_
  refine cK fun hq=>aP (([] : List (List Int))) (r3.Out) (eL Pa) r r r r r r r (by simp) r r r (by simp) r (fun _=>r) r hq<|?_
  refine A 5 ?_
  refine sC (E:=fun (_s : (List Int) × Int × (List (List Int))) (g : Nat × Nat × Nat)=>[(0,.optr 8192 0 0 0),(4,.optr 4 g.1 0 0),(6,.optr 6 g.2.1 0 0)]) (O:=fun s g=>[(4,some (g.1,⟨false,true,1,29,[.agg [.nils]]⟩)),(6,some (g.2.1,⟨false,true,1,29,[.agg [.osl 19 g.2.2 0 s.2.2.length]]⟩)),(19,some (g.2.2,⟨false,false,1,30,s.2.2.map (eL Pa)⟩)),(8192,some (0,⟨false,true,2,99,[.agg [.sl (s.1.map eU8),.int .i64 s.2.1]]⟩))]) (j:=fun s=>RM s.1 s.2.1 s.2.2) ?_ ?_
  ·refine A 3 ?_
   refine bD fun r8 hr8=>?_
   refine A 5 ?_
   refine lP (E:=fun (s : (List Int) × Int × (List (List Int)) × Int) (g : Nat × Nat × Nat × Nat)=>[(0,.optr 8192 0 0 0),(3,.optr 3 g.1 0 0),(4,.optr 4 g.2.1 0 0),(6,.optr 6 g.2.2.1 0 0),(7,.int .i64 s.2.2.2)]) (O:=fun s g=>[(3,some (g.1,⟨false,true,3,40,[.agg [.int .i64 f2.Params,.sl (f2.Slots.map Pn),.sl (f2.Code.map Pm)]]⟩)),(4,some (g.2.1,⟨false,true,1,29,[.agg [.nils]]⟩)),(6,some (g.2.2.1,⟨false,true,1,29,[.agg [.osl 19 g.2.2.2 0 s.2.2.1.length]]⟩)),(19,some (g.2.2.2,⟨false,false,1,30,s.2.2.1.map (eL Pa)⟩)),(8192,some (0,⟨false,true,2,99,[.agg [.sl (s.1.map eU8),.int .i64 s.2.1]]⟩))]) (body:=fun s=>Va f2 s.1 s.2.1 s.2.2.1 s.2.2.2) (s:=(r8.2.list,r8.2.at_,([] : List (List Int)) ++ r3.Out,r8.1)) (_,_,_,_) ((hE ⟨rfl,r,r,r,r,trivial⟩ ⟨rfl,r,r,r,r,trivial⟩))<|?_
   rintro ⟨c9,c10,x11,n12⟩ ⟨v3x1,v4x1,v6x1,v19x1⟩ nn
   try dsimp only
   unfold Va
   refine sC (E:=fun (_s : Unit) (g : Nat × Nat × Nat × Nat)=>[(0,.optr 8192 0 0 0),(3,.optr 3 g.1 0 0),(4,.optr 4 g.2.1 0 0),(6,.optr 6 g.2.2.1 0 0),(7,.int .i64 n12),(26,.optr 3 g.1 0 1),(27,.sl (f2.Slots.map Pn)),(28,.int .i64 (f2.Slots.length : Int)),(29,.bool (decide ((f2.Slots.length : Int) > 0)))]) (O:=fun _ g=>[(3,some (g.1,⟨false,true,3,40,[.agg [.int .i64 f2.Params,.sl (f2.Slots.map Pn),.sl (f2.Code.map Pm)]]⟩)),(4,some (g.2.1,⟨false,true,1,29,[.agg [.nils]]⟩)),(6,some (g.2.2.1,⟨false,true,1,29,[.agg [.osl 19 g.2.2.2 0 x11.length]]⟩)),(19,some (g.2.2.2,⟨false,false,1,30,x11.map (eL Pa)⟩)),(8192,some (0,⟨false,true,2,99,[.agg [.sl (c9.map eU8),.int .i64 c10]]⟩))]) (j:=fun _=>Vc c9 c10 f2 n12 x11) ?_ ?_
   ·exact B
   ·rintro ⟨⟩ ⟨v3x2,v4x2,v6x2,v19x2⟩ nn
    try dsimp only
    unfold Vc
    refine bC (E:=fun (_s : (List Int) × Int × (List (List Int))) (g : Nat × Nat × Nat × Nat)=>[(0,.optr 8192 0 0 0),(3,.optr 3 g.1 0 0),(4,.optr 4 g.2.1 0 0),(6,.optr 6 g.2.2.1 0 0),(7,.int .i64 n12),(26,.optr 3 g.1 0 1),(27,.sl (f2.Slots.map Pn)),(28,.int .i64 (f2.Slots.length : Int)),(29,.bool (decide ((f2.Slots.length : Int) > 0)))]) (O:=fun s g=>[(3,some (g.1,⟨false,true,3,40,[.agg [.int .i64 f2.Params,.sl (f2.Slots.map Pn),.sl (f2.Code.map Pm)]]⟩)),(4,some (g.2.1,⟨false,true,1,29,[.agg [.nils]]⟩)),(6,some (g.2.2.1,⟨false,true,1,29,[.agg [.osl 19 g.2.2.2 0 s.2.2.length]]⟩)),(19,some (g.2.2.2,⟨false,false,1,30,s.2.2.map (eL Pa)⟩)),(8192,some (0,⟨false,true,2,99,[.agg [.sl (s.1.map eU8),.int .i64 s.2.1]]⟩))]) (j:=fun s=>Rb n12 s.1 s.2.1 s.2.2) ?_ ?_
    ·refine A 6 ?_
     refine bD fun r16 hr16=>?_
     refine A 8 ?_
     refine bD fun r17 hr17=>?_
     refine A 4 ?_
     refine cD r ?_ ?_
     ·refine A 7 ?_
      refine lP (E:=fun (s : (List (List Int)) × Int) (g : Nat × Nat × Nat × Nat)=>[(0,.optr 8192 0 0 0),(3,.optr 3 g.1 0 0),(4,.optr 4 g.2.1 0 0),(6,.optr 6 g.2.2.1 0 0),(7,.int .i64 n12),(8,.int .i64 r16.1),(9,.int .i64 s.2),(26,.optr 3 g.1 0 1),(27,.sl (f2.Slots.map Pn)),(28,.int .i64 (f2.Slots.length : Int)),(29,.bool (decide ((f2.Slots.length : Int) > 0)))]) (O:=fun s g=>[(3,some (g.1,⟨false,true,3,40,[.agg [.int .i64 f2.Params,.sl (f2.Slots.map Pn),.sl (f2.Code.map Pm)]]⟩)),(4,some (g.2.1,⟨false,true,1,29,[.agg [.nils]]⟩)),(6,some (g.2.2.1,⟨false,true,1,29,[.agg [.osl 19 g.2.2.2 0 s.1.length]]⟩)),(19,some (g.2.2.2,⟨false,false,1,30,s.1.map (eL Pa)⟩)),(8192,some (0,⟨false,true,2,99,[.agg [.sl (r17.2.list.map eU8),.int .i64 r17.2.at_]]⟩))]) (body:=fun s=>Vb r16 n12 r17 s.1 s.2) (s:=(x11,0)) (_,_,_,_) ((hE ⟨rfl,r,r,r,r,r,r,r,r,r,r,trivial⟩ ⟨rfl,r,r,r,r,trivial⟩))<|?_
      rintro ⟨x18,k19⟩ ⟨v3x3,v4x3,v6x3,v19x3⟩ nn
      try dsimp only
      unfold Vb
      refine A 10 ?_
      refine cD r ?_ ?_
      ·refine A 12 ?_
       refine bD fun x_e20 hx_e20=>?_
       refine A 2 ?_
       refine bD fun r21 hr21=>?_
       refine A 2 ?_
       refine bD fun x_o22 hx_o22=>sE (l:=x18) (en:=(eL Pa)) (q':=r21) r r r r r r r (by simp) hx_o22 r r r (by simp [PH,cells,eL]) r<|?_
       refine A 8 ?_
       exact xL (s:=(x18.set k19.toNat r21,IntKind.i64.wrap (k19 + 1))) (_,_,_,_) ((hE ⟨rfl,r,r,r,r,r,r,r,r,r,r,trivial⟩ ⟨rfl,r,(Eq.trans (b:=some (_,⟨false,true,1,29,[.agg [.osl 19 _ 0 x18.length]]⟩)) r (by simp)),r,r,trivial⟩))
      ·exact B
     ·refine A 8 ?_
      refine bD fun r23 hr23=>?_
      refine A 7 ?_
      refine bD fun r24 hr24=>?_
      refine A 4 ?_
      refine cD r ?_ ?_
      ·refine A 8 ?_
       refine bD fun x_e25 hx_e25=>?_
       refine A 2 ?_
       refine bD fun r26 hr26=>?_
       refine A 2 ?_
       refine bD fun x_o27 hx_o27=>sE (l:=x11) (en:=(eL Pa)) (q':=r26) r r r r r r r (by simp) hx_o27 r r r (by simp [PH,cells,eL]) r<|?_
       refine A 1 ?_
       exact AaY (s:=(r24.2.list,r24.2.at_,x11.set r23.1.toNat r26)) (_,_,_,_) ((hE ⟨rfl,r,r,r,r,r,r,r,r,trivial⟩ ⟨rfl,r,(Eq.trans (b:=some (_,⟨false,true,1,29,[.agg [.osl 19 _ 0 x11.length]]⟩)) r (by simp)),r,r,trivial⟩))
      ·refine A 8 ?_
       refine bD fun x_e28 hx_e28=>?_
       refine A 2 ?_
       refine bD fun r29 hr29=>?_
       refine A 2 ?_
       refine bD fun x_o30 hx_o30=>sE (l:=x11) (en:=(eL Pa)) (q':=r29) r r r r r r r (by simp) hx_o30 r r r (by simp [PH,cells,eL]) r<|?_
       refine A 1 ?_
       exact AaY (s:=(r24.2.list,r24.2.at_,x11.set r23.1.toNat r29)) (_,_,_,_) ((hE ⟨rfl,r,r,r,r,r,r,r,r,trivial⟩ ⟨rfl,r,(Eq.trans (b:=some (_,⟨false,true,1,29,[.agg [.osl 19 _ 0 x11.length]]⟩)) r (by simp)),r,r,trivial⟩))
    ·rintro ⟨c13,c14,x15⟩ ⟨v3x4,v4x4,v6x4,v19x4⟩ nn
     try dsimp only
     unfold Rb
     exact B
  ·rintro ⟨c5,c6,x7⟩ ⟨v4x5,v6x5,v19x5⟩ nn
   try dsimp only
   unfold RM
   refine A 4 ?_
   refine bD fun r31 hr31=>?_
   refine A 10 ?_
   refine cD r ?_ ?_
   ·refine A 3 ?_
    refine cK fun hq=>Zf (l:=x7) r r r r r r hq<|?_
    refine A 12 ?_
    refine UR (b:=((Pg.mk (x7.drop ((1 : Int).toNat))),r31.2)) r ?_ r r ?_ (by first | rfl | (simp only; rfl) | (simp only [OW]; rfl) | (simp only [OV,OW]; rfl) | simp [VE,Qt])
    all_goals first|(simp;done)|(simp;omega)|rfl|(simp [PG,PE];done)
   ·refine A 6 ?_
    refine cD r ?_ ?_
    ·refine A 4 ?_
     refine bD fun r32 hr32=>?_
     refine A 2 ?_
     refine bD fun r33 hr33=>?_
     refine A 1 ?_
     refine bS ([r32.1,r33.1] : List Int) Pa r r r (by simp) r r r<|cK fun hq=>iO (l:=x7) (en:=(eL Pa)) r r r r r hq<|bD fun x_o34 hx_o34=>sE (l:=x7) (en:=(eL Pa)) (q':=([r32.1,r33.1] : List Int)) r r r r r r r (by simp) hx_o34 r r r (by simp [PH,cells,eL]) r<|?_
     refine A 10 ?_
     refine UR (b:=((Pg.mk (x7.set ((0 : Int).toNat) ([r32.1,r33.1] : List Int))),r33.2)) r ?_ r r ?_ (by first | rfl | (simp only; rfl) | (simp only; rfl) | (simp only; rfl) | simp [VE,Qt])
     all_goals first|(simp;done)|(simp;omega)|rfl|(simp [PG,PE];done)
    ·refine A 10 ?_
     refine UR (b:=((Pg.mk x7),r31.2)) r ?_ r r ?_ (by first | rfl | (simp only [OV]; rfl) | (simp only [OW]; rfl) | (simp only [OV,OW]; rfl) | simp [VE,Qt])
     all_goals first|(simp;done)|(simp;omega)|rfl|(simp [PG,PE];done)

def AlQ (b : Int) : D:=.int .i64 b
noncomputable def AaV : Dw.Spec:=Pf [] .ground UK UJ (fun a=>Sr a.1 a.2) AlQ noE
theorem AbX : Pd Tryz.prog 24 AaV:=by
 refine fn2 2 (Pv) Tryz.func24<|?_
 rintro ⟨p1,i2⟩
 unfold Sr
 refine A 16 ?_
 refine bD fun x_x3 hx_x3=>?_
 refine A 13 ?_
 refine lP (E:=fun (s : Int × Int) (g : Nat)=>[(2,.optr 2 g 0 0),(5,.int .i64 s.1),(6,.sl (x_x3.Code.map Pm)),(7,.int .i64 s.2)]) (O:=fun _ g=>[(2,some (g,⟨false,true,1,26,[.agg [.sl (p1.Funcs.map PL)]]⟩))]) (body:=fun s=>Xa x_x3 p1 s.1 s.2) (s:=(0,0)) _ ((hE ⟨rfl,r,r,r,trivial⟩ ⟨rfl,trivial⟩))<|?_
 rintro ⟨n4,k5⟩ v2x1 nn
 try dsimp only
 unfold Xa
 exact B

def Aki (b : Bool) : D:=.bool b
noncomputable def WU : Dw.Spec:=Pf [] .ground PY PX (fun a=>Sc a) Aki noE
theorem Yv : Pd Tryz.prog 47 WU:=by
 refine fn2 1 (Pv) Tryz.func47<|?_
 intro a
 unfold Sc
 exact B

def Ann (b : Int × Int) : D:=.tup [.int .i64 b.1,.int .i64 b.2]
noncomputable def Acp : Dw.Spec:=Pf [] .ground TK TJ (fun a=>Vy a.1 a.2) Ann noE
theorem AdS : Pd Tryz.prog 33 Acp:=by
 refine fn2 2 (Pk (l:=[(47,WU),(58,ZH)]) (by simp [Yv,Abw])) Tryz.func33<|?_
 rintro ⟨n1,align2⟩
 unfold Vy
 refine A 6 ?_
 refine sC (E:=fun (_s : Unit) (_g : Unit)=>[(0,.int .i64 n1),(1,.int .i64 align2)]) (O:=fun _ _=>[]) (j:=fun _=>Zr align2 n1) ?_ ?_
 ·exact B
 ·rintro ⟨⟩ ⟨⟩ nn
  try dsimp only
  unfold Zr
  refine A 6 ?_
  refine sC (E:=fun (s : Int) (_g : Unit)=>[(6,.int .i64 s)]) (O:=fun _ _=>[]) (j:=fun s=>Vz s) ?_ ?_
  ·exact B
  ·rintro m5 ⟨⟩ nn
   try dsimp only
   unfold Vz
   exact B

def SZ (b : Pe × Int) : D:=.tup [Qi b.1,.int .i64 b.2]
noncomputable def ZZ : Dw.Spec:=Pf [] .val TQ TP (fun a=>RX a.1 a.2.1 a.2.2) SZ noE
theorem Acj : Pd Tryz.prog 11 ZZ:=by
 refine fn2 3 (Pk (l:=[(24,AaV),(33,Acp)]) (by simp [AbX,AdS])) Tryz.func11<|?_
 rintro ⟨p1,i2,align3⟩
 unfold RX
 refine A 11 ?_
 refine bD fun r4 hr4=>?_
 refine A 18 ?_
 refine bD fun x_x5 hx_x5=>?_
 refine A 13 ?_
 refine lP (E:=fun (s : (List Int) × Int × Int) (g : Nat × Nat × Nat × Nat)=>[(2,.int .i64 align3),(6,.optr 6 g.1 0 0),(8,.optr 8 g.2.1 0 0),(9,.int .i64 s.2.2),(10,.sl (x_x5.Slots.map Pn)),(11,.int .i64 s.2.1)]) (O:=fun s g=>[(6,some (g.1,⟨false,true,3,32,[.agg [.int .i64 0,.int .i64 0,.osl 2900 g.2.2.1 0 (([] : List Int).length)]]⟩)),(8,some (g.2.1,⟨false,true,3,32,[.agg [.int .i64 r4,.int .i64 0,.osl 2901 g.2.2.2 0 s.1.length]]⟩)),(2900,some (g.2.2.1,⟨false,false,1,3,([] : List Int).map Pa⟩)),(2901,some (g.2.2.2,⟨false,false,1,3,s.1.map Pa⟩))]) (body:=fun s=>VP x_x5 align3 r4 s.1 s.2.1 s.2.2) (s:=(([] : List Int),0,r4)) (_,_,_,_) ((Oc (gg:=6) (off:=2) (tt:=2900) (s:=1) (tyy:=3) r r r r (Oc (gg:=8) (off:=2) (tt:=2901) (s:=1) (tyy:=3) r r r r (hE ⟨rfl,r,r,r,r,r,trivial⟩ ⟨rfl,r,r,r,trivial⟩))))<|?_
 rintro ⟨x6,k7,end8⟩ ⟨v6x1,v8x1,v2900x1,v2901x1⟩ nn
 try dsimp only
 unfold VP
 refine A 9 ?_
 refine cD r ?_ ?_
 ·refine A 9 ?_
  refine bD fun x_x9 hx_x9=>?_
  refine A 3 ?_
  refine bD fun r10 hr10=>?_
  refine A 8 ?_
  refine sC (E:=fun (s : Po × Po × Int × Int × Bool) (g : Nat × Nat × Nat × Nat)=>[(2,.int .i64 align3),(6,.optr 6 g.1 0 0),(8,.optr 8 g.2.1 0 0),(10,.sl (x_x5.Slots.map Pn)),(11,.int .i64 k7),(12,.int .i64 r10.1),(48,.int .i64 r10.1),(49,.sl (x_x5.Slots.map Pn)),(50,.int .i64 k7),(51,.fptr (.agg [.int .i64 s.1.Size,.int .i64 s.1.Align]) 0),(52,.fptr (.agg [.int .i64 s.2.1.Size,.int .i64 s.2.1.Align]) 0),(53,.int .i64 s.2.2.1),(54,.int .i64 s.2.2.2.1),(55,.bool s.2.2.2.2)]) (O:=fun _ g=>[(6,some (g.1,⟨false,true,3,32,[.agg [.int .i64 0,.int .i64 0,.osl 2900 g.2.2.1 0 (([] : List Int).length)]]⟩)),(8,some (g.2.1,⟨false,true,3,32,[.agg [.int .i64 r4,.int .i64 0,.osl 2901 g.2.2.2 0 x6.length]]⟩)),(2900,some (g.2.2.1,⟨false,false,1,3,([] : List Int).map Pa⟩)),(2901,some (g.2.2.2,⟨false,false,1,3,x6.map Pa⟩))]) (j:=fun s=>VQ x6 r10 x_x5 k7 s.1 s.2.1 s.2.2.1 s.2.2.2.1 s.2.2.2.2) ?_ ?_
  ·refine A 5 ?_
   refine Abk r ?_ ?_
   ·refine A 26 ?_
    refine Qu (b:=((Pe.mk 0 0 ([])),9)) r ?_ r r ?_ (by first | rfl | (simp only [OV]; rfl) | (simp only [OW]; rfl) | (simp only [OV,OW]; rfl) | simp [SZ,Qi]) (by decide)
    all_goals first|(simp;done)|(simp;omega)|rfl|(simp [PG,PE];done)
   ·refine A 3 ?_
    refine bD fun x_x16 hx_x16=>?_
    refine A 8 ?_
    refine cD r ?_ ?_
    ·refine A 14 ?_
     refine Qu (b:=((Pe.mk 0 0 ([])),9)) r ?_ r r ?_ (by first | rfl | (simp only [OV]; rfl) | (simp only [OW]; rfl) | (simp only [OV,OW]; rfl) | simp [SZ,Qi]) (by decide)
     all_goals first|(simp;done)|(simp;omega)|rfl|(simp [PG,PE];done)
    ·exact B
  ·rintro ⟨x11,x12,x13,x14,x15⟩ ⟨v6x2,v8x2,v2900x2,v2901x2⟩ nn
   try dsimp only
   unfold VQ
   refine A 22 ?_
   refine bD fun x_x17 hx_x17=>?_
   refine A 13 ?_
   exact xL (s:=((([] : List Int) ++ x6) ++ ([r10.1] : List Int),IntKind.i64.wrap (k7 + 1),IntKind.i64.wrap (r10.1 + x_x17.Size))) (_,_,_,_) ((Ahq (E1:=[(2,.int .i64 align3),(6,.optr 6 _ 0 0),(8,.optr 8 _ 0 0),(9,.int .i64 (IntKind.i64.wrap (r10.1 + x_x17.Size))),(10,.sl (x_x5.Slots.map Pn)),(11,.int .i64 (IntKind.i64.wrap (k7 + 1)))]) (O1:=[(6,some (_,⟨false,true,3,32,[.agg [.int .i64 0,.int .i64 0,.osl 2900 _ 0 (([] : List Int).length)]]⟩)),(8,some (_,⟨false,true,3,32,[.agg [.int .i64 r4,.int .i64 0,.osl 14 _ 0 (((([] : List Int) ++ x6) ++ ([r10.1] : List Int)).length)]]⟩)),(14,some (_,⟨false,false,1,3,((([] : List Int) ++ x6) ++ ([r10.1] : List Int)).map Pa⟩)),(2900,some (_,⟨false,false,1,3,([] : List Int).map Pa⟩))]) (hE ⟨rfl,r,r,r,r,r,trivial⟩ ⟨rfl,r,r,r,trivial⟩) (fun _=>Ahp (fun g=>bif Nat.beq g 14 then 2901 else g) (by rfl) (hE ⟨rfl,r,r,r,r,r,trivial⟩ ⟨rfl,r,r,r,trivial⟩))))
 ·refine A 9 ?_
  refine bD fun r18 hr18=>?_
  refine A 14 ?_
  refine Abk r ?_ ?_
  ·refine A 15 ?_
   refine Qu (b:=((Pe.mk 0 0 ([])),9)) r ?_ r r ?_ (by first | rfl | (simp only [OV]; rfl) | (simp only [OW]; rfl) | (simp only [OV,OW]; rfl) | simp [SZ,Qi]) (by decide)
   all_goals first|(simp;done)|(simp;omega)|rfl|(simp [PG,PE];done)
  ·refine A 5 ?_
   refine cD r ?_ ?_
   ·refine A 9 ?_
    refine Qu (b:=((Pe.mk 0 0 ([])),9)) r ?_ r r ?_ (by first | rfl | (simp only [OV]; rfl) | (simp only [OW]; rfl) | (simp only [OV,OW]; rfl) | simp [SZ,Qi]) (by decide)
    all_goals first|(simp;done)|(simp;omega)|rfl|(simp [PG,PE];done)
   ·refine A 17 ?_
    refine Qu (b:=((Pe.mk r4 r18.1 x6),0)) r ?_ r r ?_ (by first | rfl | (simp only [OV]; rfl) | (simp only [OW]; rfl) | (simp only [OV,OW]; rfl) | simp [SZ,Qi]) (by decide)
    all_goals first|(simp;done)|(simp;omega)|rfl|(simp [PG,PE];done)

def Sp (a : (List Int)) : List D:=[.sl (a.map Pa)]
def So (ds : List D) : (List Int):=(uL uI) (ds.getD 0 .top)
theorem Ajd (a : (List Int)) : So (Sp a) = a:=by simp [So,Sp,PV (u:=uI) (en:=Pa) (fun _=>rfl)]
instance : Px Sp So:=⟨Ajd⟩
def Ako (b : Bool) : D:=.bool b
noncomputable def AbT : Dw.Spec:=Pf [] .ground Sp So (fun a=>Xg a) Ako noE
theorem Aeo : Pd Tryz.prog 71 AbT:=by
 refine fn2 1 (Pk (l:=[(57,AcO)]) (by simp [Afb])) Tryz.func71<|?_
 intro s1
 unfold Xg
 refine A 12 ?_
 refine lP (E:=fun (s : Int) (_g : Unit)=>[(0,.sl (s1.map Pa)),(3,.int .i64 s)]) (O:=fun _ _=>[]) (body:=fun s=>RV s1 s) (s:=0) () ((hE ⟨rfl,r,trivial⟩ trivial))<|?_
 rintro i2 ⟨⟩ nn
 try dsimp only
 unfold RV
 exact B

def AkB (b : Bool) : D:=.bool b
noncomputable def AbV : Dw.Spec:=Pf [] .ground Ql Qk (fun a=>Xi a.1 a.2) AkB noE
theorem Aeq : Pd Tryz.prog 62 AbV:=by
 refine fn2 2 (Pk (l:=[(71,AbT)]) (by simp [Aeo])) Tryz.func62<|?_
 rintro ⟨f1,l2⟩
 unfold Xi
 refine A 19 ?_
 refine cD r ?_ ?_
 ·exact B
 ·refine A 9 ?_
  refine lP (E:=fun (s : Int) (g : Nat × Nat)=>[(2,.optr 2 g.1 0 0),(3,.optr 3 g.2 0 0),(5,.int .i64 s)]) (O:=fun _ g=>[(2,some (g.1,⟨false,true,3,40,[.agg [.int .i64 f1.Params,.sl (f1.Slots.map Pn),.sl (f1.Code.map Pm)]]⟩)),(3,some (g.2,⟨false,true,1,29,[.agg [.sl (l2.Out.map (eL Pa))]]⟩))]) (body:=fun s=>YF l2 f1 s) (s:=0) (_,_) ((hE ⟨rfl,r,r,trivial⟩ ⟨rfl,r,trivial⟩))<|?_
  rintro k3 ⟨v2x1,v3x1⟩ nn
  try dsimp only
  unfold YF
  exact B

def Amw (b : Bool) : D:=.bool b
noncomputable def Xh : Dw.Spec:=Pf [] .ground Rh Rg (fun a=>Ub a.1 a.2) Amw noE
theorem Ye : Pd Tryz.prog 15 Xh:=by
 refine fn2 2 (Pv) Tryz.func15<|?_
 rintro ⟨s1,n2⟩
 unfold Ub
 refine A 12 ?_
 refine lP (E:=fun (s : Int) (_g : Unit)=>[(0,.sl (s1.map Pa)),(1,.int .i64 n2),(5,.int .i64 s)]) (O:=fun _ _=>[]) (body:=fun s=>Wa s1 n2 s) (s:=0) () ((hE ⟨rfl,r,r,trivial⟩ trivial))<|?_
 rintro i3 ⟨⟩ nn
 try dsimp only
 unfold Wa
 exact B

def Akp (b : (List Int)) : D:=.sl (b.map Pa)
noncomputable def Afa : Dw.Spec:=Pf [] (.row 1 3) RD RC (fun a=>Zs a.1 a.2) Akp noE
theorem Aje : Pd Tryz.prog 116 Afa:=by
 refine fn2 2 (Pk (l:=[(15,Xh)]) (by simp [Ye])) Tryz.func116<|?_
 rintro ⟨a1,b2⟩
 unfold Zs
 refine A 17 ?_
 refine lP (E:=fun (s : (List Int) × Int) (g : Nat)=>[(0,.sl (a1.map Pa)),(1,.sl (b2.map Pa)),(5,.osl 5 g 0 s.1.length),(6,.int .i64 s.2)]) (O:=fun s g=>[(5,some (g,⟨false,false,1,3,s.1.map Pa⟩))]) (body:=fun s=>SU a1 b2 s.1 s.2) (s:=(([] : List Int),0)) _ ((hE ⟨rfl,r,r,r,trivial⟩ ⟨rfl,trivial⟩))<|?_
 rintro ⟨out3,i4⟩ v5x1 nn
 try dsimp only
 unfold SU
 exact B

def TS (a : OX × Pg × Int) : List D:=[PL a.1,Qt a.2.1,.int .i64 a.2.2]
def TR (ds : List D) : OX × Pg × Int:=(SM (ds.getD 0 .top),VR (ds.getD 1 .top),uI (ds.getD 2 .top))
theorem AhD (a : OX × Pg × Int) : TR (TS a) = a:=by simp [TR,TS,uI]
instance : Px TS TR:=⟨AhD⟩
def Aio (b : (List Int)) : D:=.sl (b.map Pa)
noncomputable def Adw : Dw.Spec:=Pf [] (.row 1 3) TS TR (fun a=>WY a.1 a.2.1 a.2.2) Aio noE
theorem AhE : Pd Tryz.prog 87 Adw:=by
 refine fn2 3 (Pk (l:=[(63,AcP),(65,AeQ),(116,Afa),(64,WX)]) (by simp [Afc,AgW,Aje,Yz])) Tryz.func87<|?_
 rintro ⟨f1,l2,k3⟩
 unfold WY
 refine A 16 ?_
 refine bD fun r4 hr4=>?_
 refine A 11 ?_
 refine lP (E:=fun (s : (List Int) × Int) (g : Nat × Nat × Nat × Nat)=>[(2,.int .i64 k3),(3,.optr 3 g.1 0 0),(4,.optr 4 g.2.1 0 0),(7,.osl 7 g.2.2.1 0 s.1.length),(8,.osl 8 g.2.2.2 0 r4.length),(9,.int .i64 s.2)]) (O:=fun s g=>[(3,some (g.1,⟨false,true,3,40,[.agg [.int .i64 f1.Params,.sl (f1.Slots.map Pn),.sl (f1.Code.map Pm)]]⟩)),(4,some (g.2.1,⟨false,true,1,29,[.agg [.sl (l2.Out.map (eL Pa))]]⟩)),(7,some (g.2.2.1,⟨false,false,1,3,s.1.map Pa⟩)),(8,some (g.2.2.2,⟨false,false,1,3,r4.map Pa⟩))]) (body:=fun s=>SV r4 f1 l2 k3 s.1 s.2) (s:=(([] : List Int),0)) (_,_,_,_) ((hE ⟨rfl,r,r,r,r,r,trivial⟩ ⟨rfl,r,r,r,trivial⟩))<|?_
 rintro ⟨out5,i6⟩ ⟨v3x1,v4x1,v7x1,v8x1⟩ nn
 try dsimp only
 unfold SV
 exact B

end Go.Proofs.YtnldnldmgceooaaGreatDoor
