/-
  Programs on typed data, and the proofs that the code does what they say; written by a program (dx.py).
-/
import Derived.Test.YtnldnldmgceooaaGreatDoorProg
import Derived.Test.YtnldnldmgceooaaGreatDoorDd
import Derived.KernelRfl
import Derived.Test.YtnldnldmgceooaaGreatDoorDxP
import Derived.Test.YtnldnldmgceooaaGreatDoorDxF1
namespace Go.Proofs.YtnldnldmgceooaaGreatDoor
open Go Go.Dw Go.Proofs
set_option maxRecDepth 100000
set_option maxHeartbeats 4000000
open Go.Dw renaming QW → bD,PO → cK,Ads → bS,AeX → aP,Uo → sE,AbZ → iO,AcT → cD,Afr → xL,AaE → hE,AeY → lP,Abu → sC,Wz → bC,rf → r
def Wq (a : OX × Int) : List D:=[PL a.1,.int .i64 a.2]
def Wp (ds : List D) : OX × Int:=(Sy (ds.getD 0 .top),uI (ds.getD 1 .top))
theorem AkN (a : OX × Int) : Wp (Wq a) = a:=by simp [Wp,Wq,uI]
instance : Px Wq Wp:=⟨AkN⟩
def Amh (b : (List Int)) : D:=.sl (b.map Pa)
noncomputable def Adl : Dw.Spec:=Pf [] (.row 1 3) Wq Wp (fun a=>YQ a.1 a.2) Amh noE
theorem AfB : Pd Tryz.prog 63 Adl:=by
 refine fn2 2 (Pv) Tryz.func63<|?_
 rintro ⟨f1,k2⟩
 unfold YQ
 refine A 6 ?_
 refine sC (E:=fun (_s : Unit) (g : Nat)=>[(1,.int .i64 k2),(2,.optr 2 g 0 0)]) (O:=fun _ g=>[(2,some (g,⟨false,true,3,40,[.agg [.int .i64 f1.Params,.sl (f1.Slots.map Pn),.sl (f1.Code.map Pm)]]⟩))]) (j:=fun _=>Aag f1 k2) ?_ ?_
 ·exact B
 ·rintro ⟨⟩ v2x1 nn
  try dsimp only
  unfold Aag
  refine A 5 ?_
  refine bD fun x_x3 hx_x3=>?_
  refine A 20 ?_
  refine cD r ?_ ?_
  ·exact B
  ·refine sC (E:=fun (s : Bool) (g : Nat)=>[(1,.int .i64 k2),(5,.optr 5 g 0 0),(21,.int .i64 x_x3.Op),(27,.bool s)]) (O:=fun _ g=>[(5,some (g,⟨false,true,5,50,[.agg [.int .i64 x_x3.Op,.int .i64 x_x3.A,.int .i64 x_x3.B,.int .i64 x_x3.C,.int .u64 x_x3.Imm]]⟩))]) (j:=fun s=>Rp x_x3 k2 s) ?_ ?_
   ·exact B
   ·rintro x4 v5x2 nn
    try dsimp only
    unfold Rp
    refine cD r ?_ ?_
    ·exact B
    ·refine A 6 ?_
     refine cD r ?_ ?_
     ·refine A 11 ?_
      refine cD r ?_ ?_
      ·refine A 6 ?_
       refine bS ([x_x3.B,IntKind.i64.wrap (k2 + 1)] : List Int) Pa r r r (by simp) r r r<|?_
       exact B
      ·refine A 10 ?_
       refine cD r ?_ ?_
       ·refine A 6 ?_
        refine bS ([IntKind.i64.wrap (k2 + 1),x_x3.B] : List Int) Pa r r r (by simp) r r r<|?_
        exact B
       ·exact B
     ·exact B

def Qu (a : OZ) : List D:=[Pm a]
def Qt (ds : List D) : OZ:=Aco (ds.getD 0 .top)
theorem AgA (a : OZ) : Qt (Qu a) = a:=by simp [Qt,Qu]
instance : Px Qu Qt:=⟨AgA⟩
def Ahl (b : Bool) : D:=.bool b
noncomputable def ZE : Dw.Spec:=Pf [] .ground Qu Qt (fun a=>RF a) Ahl noE
theorem Acm : Pd Tryz.prog 37 ZE:=by
 refine fn2 1 (Pv) Tryz.func37<|?_
 intro a
 unfold RF
 exact B

def AiK (b : Int × Bool) : D:=.tup [.int .i64 b.1,.bool b.2]
noncomputable def Sv : Dw.Spec:=Pf [] .ground Qu Qt (fun a=>QJ a) AiK noE
theorem Tb : Pd Tryz.prog 14 Sv:=by
 refine fn2 1 (Pk (l:=[(37,ZE)]) (by simp [Acm])) Tryz.func14<|?_
 intro a
 unfold QJ
 exact B

def Rk (a : (List Int) × Int) : List D:=[.sl (a.1.map Pa),.int .i64 a.2]
def Rj (ds : List D) : (List Int) × Int:=((uL uI) (ds.getD 0 .top),uI (ds.getD 1 .top))
theorem AiI (a : (List Int) × Int) : Rj (Rk a) = a:=by simp [Rj,Rk,uI,PX (u:=uI) (en:=Pa) (fun _=>rfl)]
instance : Px Rk Rj:=⟨AiI⟩
def AjC (b : (List Int)) : D:=.sl (b.map Pa)
noncomputable def AbT : Dw.Spec:=Pf [] (.row 1 3) Rk Rj (fun a=>Wn a.1 a.2) AjC noE
theorem AdN : Pd Tryz.prog 54 AbT:=by
 refine fn2 2 (Pv) Tryz.func54<|?_
 rintro ⟨s1,n2⟩
 unfold Wn
 refine A 17 ?_
 refine lP (E:=fun (s : (List Int) × Int) (g : Nat)=>[(0,.sl (s1.map Pa)),(1,.int .i64 n2),(5,.osl 5 g 0 s.1.length),(6,.int .i64 s.2)]) (O:=fun s g=>[(5,some (g,⟨false,false,1,3,s.1.map Pa⟩))]) (body:=fun s=>Su s1 n2 s.1 s.2) (s:=(([] : List Int),0)) _ ((hE ⟨rfl,r,r,r,trivial⟩ ⟨rfl,trivial⟩))<|?_
 rintro ⟨out3,i4⟩ v5x1 nn
 try dsimp only
 unfold Su
 exact B

def Ami (b : (List Int)) : D:=.sl (b.map Pa)
noncomputable def Adn : Dw.Spec:=Pf [] (.row 1 3) Qu Qt (fun a=>Uk a) Ami noE
theorem AfC : Pd Tryz.prog 88 Adn:=by
 refine fn2 1 (Pv) Tryz.func88<|?_
 intro a
 unfold Uk
 exact B

def Amg (b : Bool) : D:=.bool b
noncomputable def Adk : Dw.Spec:=Pf [] .ground PZ PY (fun a=>Vx a) Amg noE
theorem AfA : Pd Tryz.prog 57 Adk:=by
 refine fn2 1 (Pv) Tryz.func57<|?_
 intro a
 unfold Vx
 exact B

def AmX (b : (List Int)) : D:=.sl (b.map Pa)
noncomputable def Xo : Dw.Spec:=Pf [] (.row 1 3) Rk Rj (fun a=>SC a.1 a.2) AmX noE
theorem Yq : Pd Tryz.prog 32 Xo:=by
 refine fn2 2 (Pk (l:=[(57,Adk)]) (by simp [AfA])) Tryz.func32<|?_
 rintro ⟨s1,n2⟩
 unfold SC
 refine A 13 ?_
 refine bD fun r3 hr3=>?_
 refine A 12 ?_
 refine lP (E:=fun (s : (List Int) × Bool × Int) (g : Nat)=>[(0,.sl (s1.map Pa)),(1,.int .i64 n2),(5,.osl 5 g 0 s.1.length),(6,.bool s.2.1),(7,.int .i64 s.2.2)]) (O:=fun s g=>[(5,some (g,⟨false,false,1,3,s.1.map Pa⟩))]) (body:=fun s=>Ri s1 n2 s.1 s.2.1 s.2.2) (s:=(([] : List Int),(!r3),0)) _ ((hE ⟨rfl,r,r,r,r,trivial⟩ ⟨rfl,trivial⟩))<|?_
 rintro ⟨out4,done5,i6⟩ v5x1 nn
 try dsimp only
 unfold Ri
 refine A 9 ?_
 refine cD r ?_ ?_
 ·refine A 4 ?_
  refine sC (E:=fun (s : (List Int) × Bool) (g : Nat)=>[(0,.sl (s1.map Pa)),(1,.int .i64 n2),(5,.osl 5 g 0 s.1.length),(6,.bool s.2),(7,.int .i64 i6)]) (O:=fun s g=>[(5,some (g,⟨false,false,1,3,s.1.map Pa⟩))]) (j:=fun s=>Sq s1 i6 s.1 s.2) ?_ ?_
  ·refine sC (E:=fun (s : Bool) (g : Nat)=>[(0,.sl (s1.map Pa)),(1,.int .i64 n2),(5,.osl 5 g 0 out4.length),(6,.bool done5),(7,.int .i64 i6),(26,.bool s)]) (O:=fun _ g=>[(5,some (g,⟨false,false,1,3,out4.map Pa⟩))]) (j:=fun s=>TA s1 i6 n2 out4 done5 s) ?_ ?_
   ·exact B
   ·rintro x9 v5x2 nn
    try dsimp only
    unfold TA
    exact B
  ·rintro ⟨out7,done8⟩ v5x3 nn
   try dsimp only
   unfold Sq
   exact B
 ·exact B

def RE (a : (List Int) × (List Int)) : List D:=[.sl (a.1.map Pa),.sl (a.2.map Pa)]
def RD (ds : List D) : (List Int) × (List Int):=((uL uI) (ds.getD 0 .top),(uL uI) (ds.getD 1 .top))
theorem AjD (a : (List Int) × (List Int)) : RD (RE a) = a:=by simp [RD,RE,PX (u:=uI) (en:=Pa) (fun _=>rfl)]
instance : Px RE RD:=⟨AjD⟩
def AkL (b : (List Int)) : D:=.sl (b.map Pa)
noncomputable def Xg : Dw.Spec:=Pf [] (.row 1 3) RE RD (fun a=>Tt a.1 a.2) AkL noE
theorem YP : Pd Tryz.prog 64 Xg:=by
 refine fn2 2 (Pk (l:=[(32,Xo)]) (by simp [Yq])) Tryz.func64<|?_
 rintro ⟨a1,b2⟩
 unfold Tt
 refine A 19 ?_
 refine lP (E:=fun (s : (List Int) × Int) (g : Nat)=>[(1,.sl (b2.map Pa)),(5,.osl 5 g 0 s.1.length),(6,.int .i64 s.2)]) (O:=fun s g=>[(5,some (g,⟨false,false,1,3,s.1.map Pa⟩))]) (body:=fun s=>Us b2 s.1 s.2) (s:=(([] : List Int) ++ a1,0)) _ ((hE ⟨rfl,r,r,trivial⟩ ⟨rfl,trivial⟩))<|?_
 rintro ⟨out3,i4⟩ v5x1 nn
 try dsimp only
 unfold Us
 exact B

def Wt (a : OZ × (List Int)) : List D:=[Pm a.1,.sl (a.2.map Pa)]
def Ws (ds : List D) : OZ × (List Int):=(Aco (ds.getD 0 .top),(uL uI) (ds.getD 1 .top))
theorem AmZ (a : OZ × (List Int)) : Ws (Wt a) = a:=by simp [Ws,Wt,PX (u:=uI) (en:=Pa) (fun _=>rfl)]
instance : Px Wt Ws:=⟨AmZ⟩
def AnO (b : (List Int)) : D:=.sl (b.map Pa)
noncomputable def Afn : Dw.Spec:=Pf [] (.row 1 3) Wt Ws (fun a=>AbU a.1 a.2) AnO noE
theorem Ahy : Pd Tryz.prog 65 Afn:=by
 refine fn2 2 (Pk (l:=[(14,Sv),(54,AbT),(88,Adn),(64,Xg)]) (by simp [Tb,AdN,AfC,YP])) Tryz.func65<|?_
 intro a
 unfold AbU
 exact B

def Qm (a : OX × Pg) : List D:=[PL a.1,Qv a.2]
def Ql (ds : List D) : OX × Pg:=(Sy (ds.getD 0 .top),VA (ds.getD 1 .top))
theorem AkR (a : OX × Pg) : Ql (Qm a) = a:=by simp [Ql,Qm]
instance : Px Qm Ql:=⟨AkR⟩
def AgC (b : Pg) : D:=Qv b
noncomputable def AgD : Dw.Spec:=Pf [] .val Qm Ql (fun a=>Abk a.1 a.2) AgC noE
theorem AkS : Pd Tryz.prog 39 AgD:=by
 refine fn2 2 (Pk (l:=[(63,Adl),(65,Afn),(64,Xg)]) (by simp [AfB,Ahy,YP])) Tryz.func39<|?_
 rintro ⟨f1,l2⟩
 unfold Abk
 refine A 12 ?_
 refine cK fun hq=>Aep (α:=Int) r r r hq r<|?_
 refine A 4 ?_
 refine VL (E:=[(2,.optr 2 _ 0 0),(3,.optr 3 _ 0 0),(4,.optr 4 _ 0 0),(5,.optr 5 _ 0 0)]) (O:=[(2,some (_,⟨false,true,3,40,[.agg [.int .i64 f1.Params,.sl (f1.Slots.map Pn),.sl (f1.Code.map Pm)]]⟩)),(3,some (_,⟨false,true,1,29,[.agg [.sl (l2.Out.map (eL Pa))]]⟩)),(4,some (_,⟨false,true,1,29,[.agg [.nils]]⟩)),(5,some (_,⟨false,true,1,29,[.agg [.osl 13 _ 0 ((List.replicate (f1.Code.length : Int).toNat ([] : (List Int))).length)]]⟩)),(13,some (_,⟨false,false,1,30,(List.replicate (f1.Code.length : Int).toNat ([] : (List Int))).map (eL Pa)⟩))]) ((Agl (g:=13) r (AhS (l:=List.replicate (f1.Code.length : Int).toNat ([] : (List Int))) Pa (fun _ h=>List.eq_of_mem_replicate h)) (hE ⟨rfl,r,r,r,trivial⟩ ⟨rfl,r,r,r,r,trivial⟩))) fun nn=>?_
 refine A 7 ?_
 refine lP (E:=fun (s : (List (List Int)) × Int) (g : Nat × Nat × Nat × Nat × Nat)=>[(2,.optr 2 g.1 0 0),(3,.optr 3 g.2.1 0 0),(4,.optr 4 g.2.2.1 0 0),(5,.optr 5 g.2.2.2.1 0 0),(6,.int .i64 s.2)]) (O:=fun s g=>[(2,some (g.1,⟨false,true,3,40,[.agg [.int .i64 f1.Params,.sl (f1.Slots.map Pn),.sl (f1.Code.map Pm)]]⟩)),(3,some (g.2.1,⟨false,true,1,29,[.agg [.sl (l2.Out.map (eL Pa))]]⟩)),(4,some (g.2.2.1,⟨false,true,1,29,[.agg [.nils]]⟩)),(5,some (g.2.2.2.1,⟨false,true,1,29,[.agg [.osl 13 g.2.2.2.2 0 s.1.length]]⟩)),(13,some (g.2.2.2.2,⟨false,false,1,30,s.1.map (eL Pa)⟩))]) (body:=fun s=>Va f1 l2 s.1 s.2) (s:=(List.replicate (f1.Code.length : Int).toNat ([] : (List Int)),0)) (_,_,_,_,_) ((hE ⟨rfl,r,r,r,r,trivial⟩ ⟨rfl,r,r,r,r,trivial⟩))<|?_
 rintro ⟨x3,k4⟩ ⟨v2x1,v3x1,v4x1,v5x1,v13x1⟩ nn
 try dsimp only
 unfold Va
 refine A 10 ?_
 refine cD r ?_ ?_
 ·refine A 2 ?_
  refine bC (E:=fun (_s : (List (List Int))) (g : Nat × Nat × Nat × Nat × Nat)=>[(2,.optr 2 g.1 0 0),(3,.optr 3 g.2.1 0 0),(4,.optr 4 g.2.2.1 0 0),(5,.optr 5 g.2.2.2.1 0 0),(6,.int .i64 k4)]) (O:=fun s g=>[(2,some (g.1,⟨false,true,3,40,[.agg [.int .i64 f1.Params,.sl (f1.Slots.map Pn),.sl (f1.Code.map Pm)]]⟩)),(3,some (g.2.1,⟨false,true,1,29,[.agg [.sl (l2.Out.map (eL Pa))]]⟩)),(4,some (g.2.2.1,⟨false,true,1,29,[.agg [.nils]]⟩)),(5,some (g.2.2.2.1,⟨false,true,1,29,[.agg [.osl 13 g.2.2.2.2 0 s.length]]⟩)),(13,some (g.2.2.2.2,⟨false,false,1,30,s.map (eL Pa)⟩))]) (j:=fun s=>Aai k4 s) ?_ ?_
  ·refine A 4 ?_
   refine bD fun r6 hr6=>?_
   refine A 10 ?_
   refine lP (E:=fun (s : (List (List Int)) × Int) (g : Nat × Nat × Nat × Nat × Nat × Nat)=>[(2,.optr 2 g.1 0 0),(3,.optr 3 g.2.1 0 0),(4,.optr 4 g.2.2.1 0 0),(5,.optr 5 g.2.2.2.1 0 0),(6,.int .i64 k4),(7,.osl 7 g.2.2.2.2.1 0 r6.length),(8,.int .i64 s.2)]) (O:=fun s g=>[(2,some (g.1,⟨false,true,3,40,[.agg [.int .i64 f1.Params,.sl (f1.Slots.map Pn),.sl (f1.Code.map Pm)]]⟩)),(3,some (g.2.1,⟨false,true,1,29,[.agg [.sl (l2.Out.map (eL Pa))]]⟩)),(4,some (g.2.2.1,⟨false,true,1,29,[.agg [.nils]]⟩)),(5,some (g.2.2.2.1,⟨false,true,1,29,[.agg [.osl 13 g.2.2.2.2.2 0 s.1.length]]⟩)),(7,some (g.2.2.2.2.1,⟨false,false,1,3,r6.map Pa⟩)),(13,some (g.2.2.2.2.2,⟨false,false,1,30,s.1.map (eL Pa)⟩))]) (body:=fun s=>Vb r6 k4 f1 l2 s.1 s.2) (s:=(x3,0)) (_,_,_,_,_,_) ((hE ⟨rfl,r,r,r,r,r,r,trivial⟩ ⟨rfl,r,r,r,r,r,trivial⟩))<|?_
   rintro ⟨x7,i8⟩ ⟨v2x2,v3x2,v4x2,v5x2,v7x2,v13x2⟩ nn
   try dsimp only
   unfold Vb
   refine A 9 ?_
   refine cD r ?_ ?_
   ·refine A 9 ?_
    refine bD fun next_e9 hnext_e9=>?_
    refine A 12 ?_
    refine bD fun x_e10 hx_e10=>?_
    refine A 4 ?_
    refine bD fun x_x11 hx_x11=>?_
    refine A 5 ?_
    refine bD fun x_x12 hx_x12=>?_
    refine A 2 ?_
    refine bD fun r13 hr13=>?_
    refine A 1 ?_
    refine bD fun r14 hr14=>?_
    refine A 2 ?_
    refine bD fun x_o15 hx_o15=>sE (l:=x7) (en:=(eL Pa)) (q':=r14) r r r r r r r (by simp) hx_o15 r r r (by simp [PI,cells,setAt,eL]) r<|?_
    refine A 8 ?_
    exact xL (s:=(x7.set k4.toNat r14,IntKind.i64.wrap (i8 + 1))) (_,_,_,_,_,_) ((hE ⟨rfl,r,r,r,r,r,r,trivial⟩ ⟨rfl,r,r,(Eq.trans (b:=some (_,⟨false,true,1,29,[.agg [.osl 13 _ 0 x7.length]]⟩)) r (by simp)),r,r,trivial⟩))
   ·exact B
  ·rintro x5 ⟨v2x3,v3x3,v4x3,v5x3,v13x3⟩ nn
   try dsimp only
   unfold Aai
   exact B
 ·refine A 12 ?_
  refine Vd (b:=(Pg.mk x3)) r ?_ r r ?_ (by first | rfl | (simp only [OV]; rfl) | (simp only [OW]; rfl) | (simp only [OV,OW]; rfl) | simp [AgC,Qv])
  all_goals first|(simp;done)|(simp;omega)|rfl|(simp [PH,PE];done)

def Amf (b : Bool) : D:=.bool b
noncomputable def Agz : Dw.Spec:=Pf [] .ground RE RD (fun a=>Abh a.1 a.2) Amf noE
theorem AkK : Pd Tryz.prog 89 Agz:=by
 refine fn2 2 (Pv) Tryz.func89<|?_
 rintro ⟨a1,b2⟩
 unfold Abh
 refine A 15 ?_
 refine cD r ?_ ?_
 ·exact B
 ·refine A 9 ?_
  refine lP (E:=fun (s : Int) (_g : Unit)=>[(0,.sl (a1.map Pa)),(1,.sl (b2.map Pa)),(5,.int .i64 s)]) (O:=fun _ _=>[]) (body:=fun s=>TU a1 b2 s) (s:=0) () ((hE ⟨rfl,r,r,trivial⟩ trivial))<|?_
  rintro i3 ⟨⟩ nn
  try dsimp only
  unfold TU
  exact B

def VQ (a : (List (List Int)) × (List (List Int))) : List D:=[.sl (a.1.map (eL Pa)),.sl (a.2.map (eL Pa))]
def VP (ds : List D) : (List (List Int)) × (List (List Int)):=((uL (uL uI)) (ds.getD 0 .top),(uL (uL uI)) (ds.getD 1 .top))
theorem AhY (a : (List (List Int)) × (List (List Int))) : VP (VQ a) = a:=by simp [VP,VQ,PX (u:=(uL uI)) (en:=(eL Pa)) (PX (u:=uI) (en:=Pa) (fun _=>rfl))]
instance : Px VQ VP:=⟨AhY⟩
def AiJ (b : Bool) : D:=.bool b
noncomputable def AdO : Dw.Spec:=Pf [] .ground VQ VP (fun a=>Xf a.1 a.2) AiJ noE
theorem AhZ : Pd Tryz.prog 66 AdO:=by
 refine fn2 2 (Pk (l:=[(89,Agz)]) (by simp [AkK])) Tryz.func66<|?_
 rintro ⟨a1,b2⟩
 unfold Xf
 refine A 15 ?_
 refine cD r ?_ ?_
 ·exact B
 ·refine A 9 ?_
  refine lP (E:=fun (s : Int) (_g : Unit)=>[(0,.sl (a1.map (eL Pa))),(1,.sl (b2.map (eL Pa))),(5,.int .i64 s)]) (O:=fun _ _=>[]) (body:=fun s=>RM a1 b2 s) (s:=0) () ((hE ⟨rfl,r,r,trivial⟩ trivial))<|?_
  rintro i3 ⟨⟩ nn
  try dsimp only
  unfold RM
  exact B

def YS (a : Pg × Pg) : List D:=[Qv a.1,Qv a.2]
def YR (ds : List D) : Pg × Pg:=(VA (ds.getD 0 .top),VA (ds.getD 1 .top))
theorem AkO (a : Pg × Pg) : YR (YS a) = a:=by simp [YR,YS]
instance : Px YS YR:=⟨AkO⟩
def Amj (b : Bool) : D:=.bool b
noncomputable def AgB : Dw.Spec:=Pf [] .ground YS YR (fun a=>Abj a.1 a.2) Amj noE
theorem AkP : Pd Tryz.prog 40 AgB:=by
 refine fn2 2 (Pk (l:=[(66,AdO)]) (by simp [AhZ])) Tryz.func40<|?_
 intro a
 unfold Abj
 exact B

def Vz (a : OX) : List D:=[PL a]
def Vy (ds : List D) : OX:=Sy (ds.getD 0 .top)
theorem AjF (a : OX) : Vy (Vz a) = a:=by simp [Vy,Vz]
instance : Px Vz Vy:=⟨AjF⟩
def AkQ (b : Pg) : D:=Qv b
noncomputable def Aah : Dw.Spec:=Pf [] .val Vz Vy (fun a=>Un a) AkQ noE
theorem AbV : Pd Tryz.prog 17 Aah:=by
 refine fn2 1 (Pk (l:=[(39,AgD),(40,AgB)]) (by simp [AkS,AkP])) Tryz.func17<|?_
 intro f1
 unfold Un
 refine A 11 ?_
 refine cK fun hq=>Aep (α:=Int) r r r hq r<|?_
 refine A 4 ?_
 refine VL (E:=[(1,.optr 1 _ 0 0),(2,.optr 2 _ 0 0),(3,.optr 3 _ 0 0)]) (O:=[(1,some (_,⟨false,true,3,40,[.agg [.int .i64 f1.Params,.sl (f1.Slots.map Pn),.sl (f1.Code.map Pm)]]⟩)),(2,some (_,⟨false,true,1,29,[.agg [.nils]]⟩)),(3,some (_,⟨false,true,1,29,[.agg [.osl 8 _ 0 ((List.replicate (f1.Code.length : Int).toNat ([] : (List Int))).length)]]⟩)),(8,some (_,⟨false,false,1,30,(List.replicate (f1.Code.length : Int).toNat ([] : (List Int))).map (eL Pa)⟩))]) ((Agl (g:=8) r (AhS (l:=List.replicate (f1.Code.length : Int).toNat ([] : (List Int))) Pa (fun _ h=>List.eq_of_mem_replicate h)) (hE ⟨rfl,r,r,trivial⟩ ⟨rfl,r,r,r,trivial⟩))) fun nn=>?_
 refine A 1 ?_
 refine lP (E:=fun (_s : (List (List Int))) (g : Nat × Nat × Nat)=>[(1,.optr 1 g.1 0 0),(2,.optr 2 g.2.1 0 0),(3,.optr 3 g.2.2 0 0)]) (O:=fun s g=>[(1,some (g.1,⟨false,true,3,40,[.agg [.int .i64 f1.Params,.sl (f1.Slots.map Pn),.sl (f1.Code.map Pm)]]⟩)),(2,some (g.2.1,⟨false,true,1,29,[.agg [.nils]]⟩)),(3,some (g.2.2,⟨false,true,1,29,[.agg [.sl (s.map (eL Pa))]]⟩))]) (body:=fun s=>YT f1 s) (s:=List.replicate (f1.Code.length : Int).toNat ([] : (List Int))) (_,_,_) ((AbL [(8,some (_,⟨true,false,1,30,(List.replicate (f1.Code.length : Int).toNat ([] : (List Int))).map (eL Pa)⟩))] ⟨⟨_,_,r,r,r⟩,trivial⟩ ⟨(PG r),(PG r),(PG r),trivial⟩ ⟨(.inl r),(.inl r),(.inr ⟨_,_,_,_,r,r,r,r,Aar r ⟨(Yg (l:=List.replicate (f1.Code.length : Int).toNat ([] : (List Int))) (en:=(eL Pa)) r r r (by simp)),trivial⟩⟩),trivial⟩))<|?_
 rintro l2 ⟨v1x1,v2x1,v3x1⟩ nn
 try dsimp only
 unfold YT
 exact B

def Sj (a : Mk × OX) : List D:=[Pz a.1,PL a.2]
def Si (ds : List D) : Mk × OX:=(Sh (ds.getD 0 .top),Sy (ds.getD 1 .top))
theorem AfS (a : Mk × OX) : Si (Sj a) = a:=by simp [Si,Sj]
instance : Px Sj Si:=⟨AfS⟩
def Yh (b : Pg × Mk) : D:=Qv b.1
def AfY (b : Pg × Mk) : List D:=[Pz b.2]
noncomputable def Acb : Dw.Spec:=Pf [(0,(2,99))] .val Sj Si (fun a=>UB a.1 a.2) Yh AfY
theorem AfT : Pd Tryz.prog 10 Acb:=by
 refine fn2 2 (Pk (l:=[(17,Aah),(28,PN),(32,Xo)]) (by simp [AbV,PQ,Yq])) Tryz.func10<|?_
 rintro ⟨c1,f2⟩
 unfold UB
 refine A 9 ?_
 refine bD fun r3 hr3=>?_
 refine A 9 ?_
 refine cK fun hq=>aP (([] : List (List Int))) (r3.Out) (eL Pa) r r r r r r r (by simp) r r r (by simp) r (fun _=>r) r hq<|?_
 refine A 9 ?_
 refine bD fun r4 hr4=>?_
 refine A 5 ?_
 refine lP (E:=fun (s : (List Int) × Int × (List (List Int)) × Int) (g : Nat × Nat × Nat × Nat)=>[(0,.optr 8192 0 0 0),(3,.optr 3 g.1 0 0),(4,.optr 4 g.2.1 0 0),(6,.optr 6 g.2.2.1 0 0),(7,.int .i64 s.2.2.2)]) (O:=fun s g=>[(3,some (g.1,⟨false,true,3,40,[.agg [.int .i64 f2.Params,.sl (f2.Slots.map Pn),.sl (f2.Code.map Pm)]]⟩)),(4,some (g.2.1,⟨false,true,1,29,[.agg [.nils]]⟩)),(6,some (g.2.2.1,⟨false,true,1,29,[.agg [.osl 14 g.2.2.2 0 s.2.2.1.length]]⟩)),(14,some (g.2.2.2,⟨false,false,1,30,s.2.2.1.map (eL Pa)⟩)),(8192,some (0,⟨false,true,2,99,[.agg [.sl (s.1.map eU8),.int .i64 s.2.1]]⟩))]) (body:=fun s=>UJ f2 s.1 s.2.1 s.2.2.1 s.2.2.2) (s:=(r4.2.list,r4.2.at_,([] : List (List Int)) ++ r3.Out,r4.1)) (_,_,_,_) ((hE ⟨rfl,r,r,r,r,trivial⟩ ⟨rfl,r,r,r,r,trivial⟩))<|?_
 rintro ⟨c5,c6,x7,n8⟩ ⟨v3x1,v4x1,v6x1,v14x1⟩ nn
 try dsimp only
 unfold UJ
 refine sC (E:=fun (_s : Unit) (g : Nat × Nat × Nat × Nat)=>[(0,.optr 8192 0 0 0),(3,.optr 3 g.1 0 0),(4,.optr 4 g.2.1 0 0),(6,.optr 6 g.2.2.1 0 0),(7,.int .i64 n8),(21,.optr 3 g.1 0 1),(22,.sl (f2.Slots.map Pn)),(23,.int .i64 (f2.Slots.length : Int)),(24,.bool (decide ((f2.Slots.length : Int) > 0)))]) (O:=fun _ g=>[(3,some (g.1,⟨false,true,3,40,[.agg [.int .i64 f2.Params,.sl (f2.Slots.map Pn),.sl (f2.Code.map Pm)]]⟩)),(4,some (g.2.1,⟨false,true,1,29,[.agg [.nils]]⟩)),(6,some (g.2.2.1,⟨false,true,1,29,[.agg [.osl 14 g.2.2.2 0 x7.length]]⟩)),(14,some (g.2.2.2,⟨false,false,1,30,x7.map (eL Pa)⟩)),(8192,some (0,⟨false,true,2,99,[.agg [.sl (c5.map eU8),.int .i64 c6]]⟩))]) (j:=fun _=>UL c5 c6 f2 n8 x7) ?_ ?_
 ·refine A 5 ?_
  refine AbF r ?_ ?_
  ·refine A 7 ?_
   refine cD r ?_ ?_
   ·exact B
   ·refine A 12 ?_
    refine Vd (b:=((Pg.mk x7),(Mk.mk c5 c6))) r ?_ r r ?_ (by first | rfl | (simp only [OV]; rfl) | (simp only [OW]; rfl) | (simp only [OV,OW]; rfl) | simp [Yh,Qv])
    all_goals first|(simp;done)|(simp;omega)|rfl|(simp [PH,PE];done)
  ·refine A 20 ?_
   refine Vd (b:=((Pg.mk x7),(Mk.mk c5 c6))) r ?_ r r ?_ (by first | rfl | (simp only [OV]; rfl) | (simp only [OW]; rfl) | (simp only [OV,OW]; rfl) | simp [Yh,Qv])
   all_goals first|(simp;done)|(simp;omega)|rfl|(simp [PH,PE];done)
 ·rintro ⟨⟩ ⟨v3x2,v4x2,v6x2,v14x2⟩ nn
  try dsimp only
  unfold UL
  refine bC (E:=fun (_s : (List Int) × Int × (List (List Int))) (g : Nat × Nat × Nat × Nat)=>[(0,.optr 8192 0 0 0),(3,.optr 3 g.1 0 0),(4,.optr 4 g.2.1 0 0),(6,.optr 6 g.2.2.1 0 0),(7,.int .i64 n8),(21,.optr 3 g.1 0 1),(22,.sl (f2.Slots.map Pn)),(23,.int .i64 (f2.Slots.length : Int)),(24,.bool (decide ((f2.Slots.length : Int) > 0)))]) (O:=fun s g=>[(3,some (g.1,⟨false,true,3,40,[.agg [.int .i64 f2.Params,.sl (f2.Slots.map Pn),.sl (f2.Code.map Pm)]]⟩)),(4,some (g.2.1,⟨false,true,1,29,[.agg [.nils]]⟩)),(6,some (g.2.2.1,⟨false,true,1,29,[.agg [.osl 14 g.2.2.2 0 s.2.2.length]]⟩)),(14,some (g.2.2.2,⟨false,false,1,30,s.2.2.map (eL Pa)⟩)),(8192,some (0,⟨false,true,2,99,[.agg [.sl (s.1.map eU8),.int .i64 s.2.1]]⟩))]) (j:=fun s=>UM n8 s.1 s.2.1 s.2.2) ?_ ?_
  ·refine A 6 ?_
   refine bD fun r12 hr12=>?_
   refine A 10 ?_
   refine lP (E:=fun (s : (List (List Int)) × Int) (g : Nat × Nat × Nat × Nat)=>[(0,.optr 8192 0 0 0),(3,.optr 3 g.1 0 0),(4,.optr 4 g.2.1 0 0),(6,.optr 6 g.2.2.1 0 0),(7,.int .i64 n8),(8,.int .i64 r12.1),(9,.int .i64 s.2),(21,.optr 3 g.1 0 1),(22,.sl (f2.Slots.map Pn)),(23,.int .i64 (f2.Slots.length : Int)),(24,.bool (decide ((f2.Slots.length : Int) > 0)))]) (O:=fun s g=>[(3,some (g.1,⟨false,true,3,40,[.agg [.int .i64 f2.Params,.sl (f2.Slots.map Pn),.sl (f2.Code.map Pm)]]⟩)),(4,some (g.2.1,⟨false,true,1,29,[.agg [.nils]]⟩)),(6,some (g.2.2.1,⟨false,true,1,29,[.agg [.osl 14 g.2.2.2 0 s.1.length]]⟩)),(14,some (g.2.2.2,⟨false,false,1,30,s.1.map (eL Pa)⟩)),(8192,some (0,⟨false,true,2,99,[.agg [.sl (r12.2.list.map eU8),.int .i64 r12.2.at_]]⟩))]) (body:=fun s=>UK r12 n8 s.1 s.2) (s:=(x7,0)) (_,_,_,_) ((hE ⟨rfl,r,r,r,r,r,r,r,r,r,r,trivial⟩ ⟨rfl,r,r,r,r,trivial⟩))<|?_
   rintro ⟨x13,k14⟩ ⟨v3x3,v4x3,v6x3,v14x3⟩ nn
   try dsimp only
   unfold UK
   refine A 10 ?_
   refine cD r ?_ ?_
   ·refine A 12 ?_
    refine bD fun x_e15 hx_e15=>?_
    refine A 2 ?_
    refine bD fun r16 hr16=>?_
    refine A 2 ?_
    refine bD fun x_o17 hx_o17=>sE (l:=x13) (en:=(eL Pa)) (q':=r16) r r r r r r r (by simp) hx_o17 r r r (by simp [PI,cells,setAt,eL]) r<|?_
    refine A 8 ?_
    exact xL (s:=(x13.set k14.toNat r16,IntKind.i64.wrap (k14 + 1))) (_,_,_,_) ((hE ⟨rfl,r,r,r,r,r,r,r,r,r,r,trivial⟩ ⟨rfl,r,(Eq.trans (b:=some (_,⟨false,true,1,29,[.agg [.osl 14 _ 0 x13.length]]⟩)) r (by simp)),r,r,trivial⟩))
   ·exact B
  ·rintro ⟨c9,c10,x11⟩ ⟨v3x4,v4x4,v6x4,v14x4⟩ nn
   try dsimp only
   unfold UM
   exact B

def AhI (b : Int × Mk) : D:=.int .i64 b.1
def AhH (b : Int × Mk) : List D:=[Pz b.2]
noncomputable def Aas : Dw.Spec:=Pf [(0,(2,99))] .val QU QT (fun a=>Rr a) AhI AhH
theorem Acy : Pd Tryz.prog 55 Aas:=by
 refine fn2 1 (Pk (l:=[(28,PN)]) (by simp [PQ])) Tryz.func55<|?_
 intro c1
 unfold Rr
 refine A 8 ?_
 refine bD fun r2 hr2=>?_
 refine A 11 ?_
 refine cD r ?_ ?_
 ·refine A 2 ?_
  refine bS ([9223372036854775807,(-9223372036854775808),2147483648,2147483647,(-1),16777216,33554432,1048577,512,80] : List Int) Pa r r r (by simp) r r r<|?_
  exact B
 ·exact B

def VO (b : Pg × Mk) : D:=Qv b.1
def AgV (b : Pg × Mk) : List D:=[Pz b.2]
noncomputable def AcA : Dw.Spec:=Pf [(0,(2,99))] .val Sj Si (fun a=>Vi a.1 a.2) VO AgV
theorem AfX : Pd Tryz.prog 30 AcA:=by
 refine fn2 2 (Pk (l:=[(17,Aah),(28,PN),(32,Xo),(54,AbT),(55,Aas)]) (by simp [AbV,PQ,Yq,AdN,Acy])) Tryz.func30<|?_
 rintro ⟨c1,f2⟩
 unfold Vi
 refine A 9 ?_
 refine bD fun r3 hr3=>?_
 refine A 9 ?_
 refine bD fun r4 hr4=>?_
 refine A 4 ?_
 refine cD r ?_ ?_
 ·exact B
 ·refine A 6 ?_
  refine cK fun hq=>aP (([] : List (List Int))) (r3.Out) (eL Pa) r r r r r r r (by simp) r r r (by simp) r (fun _=>r) r hq<|?_
  refine A 5 ?_
  refine sC (E:=fun (_s : (List Int) × Int × (List (List Int))) (g : Nat × Nat × Nat)=>[(0,.optr 8192 0 0 0),(4,.optr 4 g.1 0 0),(6,.optr 6 g.2.1 0 0)]) (O:=fun s g=>[(4,some (g.1,⟨false,true,1,29,[.agg [.nils]]⟩)),(6,some (g.2.1,⟨false,true,1,29,[.agg [.osl 19 g.2.2 0 s.2.2.length]]⟩)),(19,some (g.2.2,⟨false,false,1,30,s.2.2.map (eL Pa)⟩)),(8192,some (0,⟨false,true,2,99,[.agg [.sl (s.1.map eU8),.int .i64 s.2.1]]⟩))]) (j:=fun s=>RQ s.1 s.2.1 s.2.2) ?_ ?_
  ·refine A 3 ?_
   refine bD fun r8 hr8=>?_
   refine A 5 ?_
   refine lP (E:=fun (s : (List Int) × Int × (List (List Int)) × Int) (g : Nat × Nat × Nat × Nat)=>[(0,.optr 8192 0 0 0),(3,.optr 3 g.1 0 0),(4,.optr 4 g.2.1 0 0),(6,.optr 6 g.2.2.1 0 0),(7,.int .i64 s.2.2.2)]) (O:=fun s g=>[(3,some (g.1,⟨false,true,3,40,[.agg [.int .i64 f2.Params,.sl (f2.Slots.map Pn),.sl (f2.Code.map Pm)]]⟩)),(4,some (g.2.1,⟨false,true,1,29,[.agg [.nils]]⟩)),(6,some (g.2.2.1,⟨false,true,1,29,[.agg [.osl 19 g.2.2.2 0 s.2.2.1.length]]⟩)),(19,some (g.2.2.2,⟨false,false,1,30,s.2.2.1.map (eL Pa)⟩)),(8192,some (0,⟨false,true,2,99,[.agg [.sl (s.1.map eU8),.int .i64 s.2.1]]⟩))]) (body:=fun s=>Vj f2 s.1 s.2.1 s.2.2.1 s.2.2.2) (s:=(r8.2.list,r8.2.at_,([] : List (List Int)) ++ r3.Out,r8.1)) (_,_,_,_) ((hE ⟨rfl,r,r,r,r,trivial⟩ ⟨rfl,r,r,r,r,trivial⟩))<|?_
   rintro ⟨c9,c10,x11,n12⟩ ⟨v3x1,v4x1,v6x1,v19x1⟩ nn
   try dsimp only
   unfold Vj
   refine sC (E:=fun (_s : Unit) (g : Nat × Nat × Nat × Nat)=>[(0,.optr 8192 0 0 0),(3,.optr 3 g.1 0 0),(4,.optr 4 g.2.1 0 0),(6,.optr 6 g.2.2.1 0 0),(7,.int .i64 n12),(26,.optr 3 g.1 0 1),(27,.sl (f2.Slots.map Pn)),(28,.int .i64 (f2.Slots.length : Int)),(29,.bool (decide ((f2.Slots.length : Int) > 0)))]) (O:=fun _ g=>[(3,some (g.1,⟨false,true,3,40,[.agg [.int .i64 f2.Params,.sl (f2.Slots.map Pn),.sl (f2.Code.map Pm)]]⟩)),(4,some (g.2.1,⟨false,true,1,29,[.agg [.nils]]⟩)),(6,some (g.2.2.1,⟨false,true,1,29,[.agg [.osl 19 g.2.2.2 0 x11.length]]⟩)),(19,some (g.2.2.2,⟨false,false,1,30,x11.map (eL Pa)⟩)),(8192,some (0,⟨false,true,2,99,[.agg [.sl (c9.map eU8),.int .i64 c10]]⟩))]) (j:=fun _=>Vl c9 c10 f2 n12 x11) ?_ ?_
   ·exact B
   ·rintro ⟨⟩ ⟨v3x2,v4x2,v6x2,v19x2⟩ nn
    try dsimp only
    unfold Vl
    refine bC (E:=fun (_s : (List Int) × Int × (List (List Int))) (g : Nat × Nat × Nat × Nat)=>[(0,.optr 8192 0 0 0),(3,.optr 3 g.1 0 0),(4,.optr 4 g.2.1 0 0),(6,.optr 6 g.2.2.1 0 0),(7,.int .i64 n12),(26,.optr 3 g.1 0 1),(27,.sl (f2.Slots.map Pn)),(28,.int .i64 (f2.Slots.length : Int)),(29,.bool (decide ((f2.Slots.length : Int) > 0)))]) (O:=fun s g=>[(3,some (g.1,⟨false,true,3,40,[.agg [.int .i64 f2.Params,.sl (f2.Slots.map Pn),.sl (f2.Code.map Pm)]]⟩)),(4,some (g.2.1,⟨false,true,1,29,[.agg [.nils]]⟩)),(6,some (g.2.2.1,⟨false,true,1,29,[.agg [.osl 19 g.2.2.2 0 s.2.2.length]]⟩)),(19,some (g.2.2.2,⟨false,false,1,30,s.2.2.map (eL Pa)⟩)),(8192,some (0,⟨false,true,2,99,[.agg [.sl (s.1.map eU8),.int .i64 s.2.1]]⟩))]) (j:=fun s=>Rf n12 s.1 s.2.1 s.2.2) ?_ ?_
    ·refine A 6 ?_
     refine bD fun r16 hr16=>?_
     refine A 8 ?_
     refine bD fun r17 hr17=>?_
     refine A 4 ?_
     refine cD r ?_ ?_
     ·refine A 7 ?_
      refine lP (E:=fun (s : (List (List Int)) × Int) (g : Nat × Nat × Nat × Nat)=>[(0,.optr 8192 0 0 0),(3,.optr 3 g.1 0 0),(4,.optr 4 g.2.1 0 0),(6,.optr 6 g.2.2.1 0 0),(7,.int .i64 n12),(8,.int .i64 r16.1),(9,.int .i64 s.2),(26,.optr 3 g.1 0 1),(27,.sl (f2.Slots.map Pn)),(28,.int .i64 (f2.Slots.length : Int)),(29,.bool (decide ((f2.Slots.length : Int) > 0)))]) (O:=fun s g=>[(3,some (g.1,⟨false,true,3,40,[.agg [.int .i64 f2.Params,.sl (f2.Slots.map Pn),.sl (f2.Code.map Pm)]]⟩)),(4,some (g.2.1,⟨false,true,1,29,[.agg [.nils]]⟩)),(6,some (g.2.2.1,⟨false,true,1,29,[.agg [.osl 19 g.2.2.2 0 s.1.length]]⟩)),(19,some (g.2.2.2,⟨false,false,1,30,s.1.map (eL Pa)⟩)),(8192,some (0,⟨false,true,2,99,[.agg [.sl (r17.2.list.map eU8),.int .i64 r17.2.at_]]⟩))]) (body:=fun s=>Vk r16 n12 r17 s.1 s.2) (s:=(x11,0)) (_,_,_,_) ((hE ⟨rfl,r,r,r,r,r,r,r,r,r,r,trivial⟩ ⟨rfl,r,r,r,r,trivial⟩))<|?_
      rintro ⟨x18,k19⟩ ⟨v3x3,v4x3,v6x3,v19x3⟩ nn
      try dsimp only
      unfold Vk
      refine A 10 ?_
      refine cD r ?_ ?_
      ·refine A 12 ?_
       refine bD fun x_e20 hx_e20=>?_
       refine A 2 ?_
       refine bD fun r21 hr21=>?_
       refine A 2 ?_
       refine bD fun x_o22 hx_o22=>sE (l:=x18) (en:=(eL Pa)) (q':=r21) r r r r r r r (by simp) hx_o22 r r r (by simp [PI,cells,setAt,eL]) r<|?_
       refine A 8 ?_
       exact xL (s:=(x18.set k19.toNat r21,IntKind.i64.wrap (k19 + 1))) (_,_,_,_) ((hE ⟨rfl,r,r,r,r,r,r,r,r,r,r,trivial⟩ ⟨rfl,r,(Eq.trans (b:=some (_,⟨false,true,1,29,[.agg [.osl 19 _ 0 x18.length]]⟩)) r (by simp)),r,r,trivial⟩))
      ·exact B
     ·refine A 8 ?_
      refine bD fun r23 hr23=>?_
      refine A 7 ?_
      refine bD fun r24 hr24=>?_
      refine A 4 ?_
      refine cD r ?_ ?_
      ·refine A 8 ?_
       refine bD fun x_e25 hx_e25=>?_
       refine A 2 ?_
       refine bD fun r26 hr26=>?_
       refine A 2 ?_
       refine bD fun x_o27 hx_o27=>sE (l:=x11) (en:=(eL Pa)) (q':=r26) r r r r r r r (by simp) hx_o27 r r r (by simp [PI,cells,setAt,eL]) r<|?_
       refine A 1 ?_
       exact Abt (s:=(r24.2.list,r24.2.at_,x11.set r23.1.toNat r26)) (_,_,_,_) ((hE ⟨rfl,r,r,r,r,r,r,r,r,trivial⟩ ⟨rfl,r,(Eq.trans (b:=some (_,⟨false,true,1,29,[.agg [.osl 19 _ 0 x11.length]]⟩)) r (by simp)),r,r,trivial⟩))
      ·refine A 8 ?_
       refine bD fun x_e28 hx_e28=>?_
       refine A 2 ?_
       refine bD fun r29 hr29=>?_
       refine A 2 ?_
       refine bD fun x_o30 hx_o30=>sE (l:=x11) (en:=(eL Pa)) (q':=r29) r r r r r r r (by simp) hx_o30 r r r (by simp [PI,cells,setAt,eL]) r<|?_
       refine A 1 ?_
       exact Abt (s:=(r24.2.list,r24.2.at_,x11.set r23.1.toNat r29)) (_,_,_,_) ((hE ⟨rfl,r,r,r,r,r,r,r,r,trivial⟩ ⟨rfl,r,(Eq.trans (b:=some (_,⟨false,true,1,29,[.agg [.osl 19 _ 0 x11.length]]⟩)) r (by simp)),r,r,trivial⟩))
    ·rintro ⟨c13,c14,x15⟩ ⟨v3x4,v4x4,v6x4,v19x4⟩ nn
     try dsimp only
     unfold Rf
     exact B
  ·rintro ⟨c5,c6,x7⟩ ⟨v4x5,v6x5,v19x5⟩ nn
   try dsimp only
   unfold RQ
   refine A 4 ?_
   refine bD fun r31 hr31=>?_
   refine A 10 ?_
   refine cD r ?_ ?_
   ·refine A 3 ?_
    refine cK fun hq=>Zz (l:=x7) r r r r r r hq<|?_
    refine A 12 ?_
    refine Vd (b:=((Pg.mk (x7.drop ((1 : Int).toNat))),r31.2)) r ?_ r r ?_ (by first | rfl | (simp only; rfl) | (simp only [OW]; rfl) | (simp only [OV,OW]; rfl) | simp [VO,Qv])
    all_goals first|(simp;done)|(simp;omega)|rfl|(simp [PH,PE];done)
   ·refine A 6 ?_
    refine cD r ?_ ?_
    ·refine A 4 ?_
     refine bD fun r32 hr32=>?_
     refine A 2 ?_
     refine bD fun r33 hr33=>?_
     refine A 1 ?_
     refine bS ([r32.1,r33.1] : List Int) Pa r r r (by simp) r r r<|cK fun hq=>iO (l:=x7) (en:=(eL Pa)) r r r r r hq<|bD fun x_o34 hx_o34=>sE (l:=x7) (en:=(eL Pa)) (q':=([r32.1,r33.1] : List Int)) r r r r r r r (by simp) hx_o34 r r r (by simp [PI,cells,setAt,eL]) r<|?_
     refine A 10 ?_
     refine Vd (b:=((Pg.mk (x7.set ((0 : Int).toNat) ([r32.1,r33.1] : List Int))),r33.2)) r ?_ r r ?_ (by first | rfl | (simp only; rfl) | (simp only; rfl) | (simp only [OV,OW]; rfl) | simp [VO,Qv])
     all_goals first|(simp;done)|(simp;omega)|rfl|(simp [PH,PE];done)
    ·refine A 10 ?_
     refine Vd (b:=((Pg.mk x7),r31.2)) r ?_ r r ?_ (by first | rfl | (simp only [OV]; rfl) | (simp only [OW]; rfl) | (simp only [OV,OW]; rfl) | simp [VO,Qv])
     all_goals first|(simp;done)|(simp;omega)|rfl|(simp [PH,PE];done)

def Amp (b : Int) : D:=.int .i64 b
noncomputable def Yu : Dw.Spec:=Pf [] .ground UX UW (fun a=>Sw a.1 a.2) Amp noE
theorem Aaq : Pd Tryz.prog 24 Yu:=by
 refine fn2 2 (Pv) Tryz.func24<|?_
 rintro ⟨p1,i2⟩
 unfold Sw
 refine A 16 ?_
 refine bD fun x_x3 hx_x3=>?_
 refine A 13 ?_
 refine lP (E:=fun (s : Int × Int) (g : Nat)=>[(2,.optr 2 g 0 0),(5,.int .i64 s.1),(6,.sl (x_x3.Code.map Pm)),(7,.int .i64 s.2)]) (O:=fun _ g=>[(2,some (g,⟨false,true,1,26,[.agg [.sl (p1.Funcs.map PL)]]⟩))]) (body:=fun s=>Xj x_x3 p1 s.1 s.2) (s:=(0,0)) _ ((hE ⟨rfl,r,r,r,trivial⟩ ⟨rfl,trivial⟩))<|?_
 rintro ⟨n4,k5⟩ v2x1 nn
 try dsimp only
 unfold Xj
 exact B

def AkC (b : Bool) : D:=.bool b
noncomputable def Xd : Dw.Spec:=Pf [] .ground PZ PY (fun a=>Sf a) AkC noE
theorem YK : Pd Tryz.prog 47 Xd:=by
 refine fn2 1 (Pv) Tryz.func47<|?_
 intro a
 unfold Sf
 exact B

def AnN (b : Int × Int) : D:=.tup [.int .i64 b.1,.int .i64 b.2]
noncomputable def AcN : Dw.Spec:=Pf [] .ground TT TS (fun a=>VG a.1 a.2) AnN noE
theorem Aen : Pd Tryz.prog 33 AcN:=by
 refine fn2 2 (Pk (l:=[(47,Xd),(58,Aae)]) (by simp [YK,AbS])) Tryz.func33<|?_
 rintro ⟨n1,align2⟩
 unfold VG
 refine A 6 ?_
 refine sC (E:=fun (_s : Unit) (_g : Unit)=>[(0,.int .i64 n1),(1,.int .i64 align2)]) (O:=fun _ _=>[]) (j:=fun _=>ZM align2 n1) ?_ ?_
 ·exact B
 ·rintro ⟨⟩ ⟨⟩ nn
  try dsimp only
  unfold ZM
  refine A 6 ?_
  refine sC (E:=fun (s : Int) (_g : Unit)=>[(6,.int .i64 s)]) (O:=fun _ _=>[]) (j:=fun s=>VH s) ?_ ?_
  ·exact B
  ·rintro m5 ⟨⟩ nn
   try dsimp only
   unfold VH
   exact B

def Th (b : Pe × Int) : D:=.tup [Qh b.1,.int .i64 b.2]
noncomputable def Aax : Dw.Spec:=Pf [] .val Ub Ua (fun a=>Tg a.1 a.2.1 a.2.2) Th noE
theorem AcI : Pd Tryz.prog 11 Aax:=by
 refine fn2 3 (Pk (l:=[(24,Yu),(33,AcN)]) (by simp [Aaq,Aen])) Tryz.func11<|?_
 rintro ⟨p1,i2,align3⟩
 unfold Tg
 refine A 11 ?_
 refine bD fun r4 hr4=>?_
 refine A 18 ?_
 refine bD fun x_x5 hx_x5=>?_
 refine A 13 ?_
 refine lP (E:=fun (s : (List Int) × Int × Int) (g : Nat × Nat × Nat × Nat)=>[(2,.int .i64 align3),(6,.optr 6 g.1 0 0),(8,.optr 8 g.2.1 0 0),(9,.int .i64 s.2.2),(10,.sl (x_x5.Slots.map Pn)),(11,.int .i64 s.2.1)]) (O:=fun s g=>[(6,some (g.1,⟨false,true,3,32,[.agg [.int .i64 0,.int .i64 0,.osl 2900 g.2.2.1 0 (([] : List Int).length)]]⟩)),(8,some (g.2.1,⟨false,true,3,32,[.agg [.int .i64 r4,.int .i64 0,.osl 2901 g.2.2.2 0 s.1.length]]⟩)),(2900,some (g.2.2.1,⟨false,false,1,3,([] : List Int).map Pa⟩)),(2901,some (g.2.2.2,⟨false,false,1,3,s.1.map Pa⟩))]) (body:=fun s=>VX x_x5 align3 r4 s.1 s.2.1 s.2.2) (s:=(([] : List Int),0,r4)) (_,_,_,_) ((Oc (gg:=6) (off:=2) (tt:=2900) (s:=1) (tyy:=3) r r r r (Oc (gg:=8) (off:=2) (tt:=2901) (s:=1) (tyy:=3) r r r r (hE ⟨rfl,r,r,r,r,r,trivial⟩ ⟨rfl,r,r,r,trivial⟩))))<|?_
 rintro ⟨x6,k7,end8⟩ ⟨v6x1,v8x1,v2900x1,v2901x1⟩ nn
 try dsimp only
 unfold VX
 refine A 9 ?_
 refine cD r ?_ ?_
 ·refine A 9 ?_
  refine bD fun x_x9 hx_x9=>?_
  refine A 3 ?_
  refine bD fun r10 hr10=>?_
  refine A 8 ?_
  refine sC (E:=fun (s : Po × Po × Int × Int × Bool) (g : Nat × Nat × Nat × Nat)=>[(2,.int .i64 align3),(6,.optr 6 g.1 0 0),(8,.optr 8 g.2.1 0 0),(10,.sl (x_x5.Slots.map Pn)),(11,.int .i64 k7),(12,.int .i64 r10.1),(48,.int .i64 r10.1),(49,.sl (x_x5.Slots.map Pn)),(50,.int .i64 k7),(51,.fptr (.agg [.int .i64 s.1.Size,.int .i64 s.1.Align]) 0),(52,.fptr (.agg [.int .i64 s.2.1.Size,.int .i64 s.2.1.Align]) 0),(53,.int .i64 s.2.2.1),(54,.int .i64 s.2.2.2.1),(55,.bool s.2.2.2.2)]) (O:=fun _ g=>[(6,some (g.1,⟨false,true,3,32,[.agg [.int .i64 0,.int .i64 0,.osl 2900 g.2.2.1 0 (([] : List Int).length)]]⟩)),(8,some (g.2.1,⟨false,true,3,32,[.agg [.int .i64 r4,.int .i64 0,.osl 2901 g.2.2.2 0 x6.length]]⟩)),(2900,some (g.2.2.1,⟨false,false,1,3,([] : List Int).map Pa⟩)),(2901,some (g.2.2.2,⟨false,false,1,3,x6.map Pa⟩))]) (j:=fun s=>VY x6 r10 x_x5 k7 s.1 s.2.1 s.2.2.1 s.2.2.2.1 s.2.2.2.2) ?_ ?_
  ·refine A 5 ?_
   refine AbF r ?_ ?_
   ·refine A 26 ?_
    refine Qx (b:=((Pe.mk 0 0 ([])),9)) r ?_ r r ?_ (by first | rfl | (simp only [OV]; rfl) | (simp only [OW]; rfl) | (simp only [OV,OW]; rfl) | simp [Th,Qh]) (by decide)
    all_goals first|(simp;done)|(simp;omega)|rfl|(simp [PH,PE];done)
   ·refine A 3 ?_
    refine bD fun x_x16 hx_x16=>?_
    refine A 8 ?_
    refine cD r ?_ ?_
    ·refine A 14 ?_
     refine Qx (b:=((Pe.mk 0 0 ([])),9)) r ?_ r r ?_ (by first | rfl | (simp only [OV]; rfl) | (simp only [OW]; rfl) | (simp only [OV,OW]; rfl) | simp [Th,Qh]) (by decide)
     all_goals first|(simp;done)|(simp;omega)|rfl|(simp [PH,PE];done)
    ·exact B
  ·rintro ⟨x11,x12,x13,x14,x15⟩ ⟨v6x2,v8x2,v2900x2,v2901x2⟩ nn
   try dsimp only
   unfold VY
   refine A 22 ?_
   refine bD fun x_x17 hx_x17=>?_
   refine A 13 ?_
   exact xL (s:=((([] : List Int) ++ x6) ++ ([r10.1] : List Int),IntKind.i64.wrap (k7 + 1),IntKind.i64.wrap (r10.1 + x_x17.Size))) (_,_,_,_) ((AhP (E1:=[(2,.int .i64 align3),(6,.optr 6 _ 0 0),(8,.optr 8 _ 0 0),(9,.int .i64 (IntKind.i64.wrap (r10.1 + x_x17.Size))),(10,.sl (x_x5.Slots.map Pn)),(11,.int .i64 (IntKind.i64.wrap (k7 + 1)))]) (O1:=[(6,some (_,⟨false,true,3,32,[.agg [.int .i64 0,.int .i64 0,.osl 2900 _ 0 (([] : List Int).length)]]⟩)),(8,some (_,⟨false,true,3,32,[.agg [.int .i64 r4,.int .i64 0,.osl 14 _ 0 (((([] : List Int) ++ x6) ++ ([r10.1] : List Int)).length)]]⟩)),(14,some (_,⟨false,false,1,3,((([] : List Int) ++ x6) ++ ([r10.1] : List Int)).map Pa⟩)),(2900,some (_,⟨false,false,1,3,([] : List Int).map Pa⟩))]) (hE ⟨rfl,r,r,r,r,r,trivial⟩ ⟨rfl,r,r,r,trivial⟩) (fun _=>AhO (fun g=>bif Nat.beq g 14 then 2901 else g) (by rfl) (hE ⟨rfl,r,r,r,r,r,trivial⟩ ⟨rfl,r,r,r,trivial⟩))))
 ·refine A 9 ?_
  refine bD fun r18 hr18=>?_
  refine A 14 ?_
  refine AbF r ?_ ?_
  ·refine A 15 ?_
   refine Qx (b:=((Pe.mk 0 0 ([])),9)) r ?_ r r ?_ (by first | rfl | (simp only [OV]; rfl) | (simp only [OW]; rfl) | (simp only [OV,OW]; rfl) | simp [Th,Qh]) (by decide)
   all_goals first|(simp;done)|(simp;omega)|rfl|(simp [PH,PE];done)
  ·refine A 5 ?_
   refine cD r ?_ ?_
   ·refine A 9 ?_
    refine Qx (b:=((Pe.mk 0 0 ([])),9)) r ?_ r r ?_ (by first | rfl | (simp only [OV]; rfl) | (simp only [OW]; rfl) | (simp only [OV,OW]; rfl) | simp [Th,Qh]) (by decide)
    all_goals first|(simp;done)|(simp;omega)|rfl|(simp [PH,PE];done)
   ·refine A 17 ?_
    refine Qx (b:=((Pe.mk r4 r18.1 x6),0)) r ?_ r r ?_ (by first | rfl | (simp only [OV]; rfl) | (simp only [OW]; rfl) | (simp only [OV,OW]; rfl) | simp [Th,Qh]) (by decide)
    all_goals first|(simp;done)|(simp;omega)|rfl|(simp [PH,PE];done)

def Ss (a : (List Int)) : List D:=[.sl (a.map Pa)]
def Sr (ds : List D) : (List Int):=(uL uI) (ds.getD 0 .top)
theorem AjA (a : (List Int)) : Sr (Ss a) = a:=by simp [Sr,Ss,PX (u:=uI) (en:=Pa) (fun _=>rfl)]
instance : Px Ss Sr:=⟨AjA⟩
def AkI (b : Bool) : D:=.bool b
noncomputable def Acs : Dw.Spec:=Pf [] .ground Ss Sr (fun a=>Xp a) AkI noE
theorem AeM : Pd Tryz.prog 71 Acs:=by
 refine fn2 1 (Pk (l:=[(57,Adk)]) (by simp [AfA])) Tryz.func71<|?_
 intro s1
 unfold Xp
 refine A 12 ?_
 refine lP (E:=fun (s : Int) (_g : Unit)=>[(0,.sl (s1.map Pa)),(3,.int .i64 s)]) (O:=fun _ _=>[]) (body:=fun s=>RZ s1 s) (s:=0) () ((hE ⟨rfl,r,trivial⟩ trivial))<|?_
 rintro i2 ⟨⟩ nn
 try dsimp only
 unfold RZ
 exact B

def AkV (b : Bool) : D:=.bool b
noncomputable def Acv : Dw.Spec:=Pf [] .ground Qm Ql (fun a=>Xq a.1 a.2) AkV noE
theorem AeO : Pd Tryz.prog 62 Acv:=by
 refine fn2 2 (Pk (l:=[(71,Acs)]) (by simp [AeM])) Tryz.func62<|?_
 rintro ⟨f1,l2⟩
 unfold Xq
 refine A 19 ?_
 refine cD r ?_ ?_
 ·exact B
 ·refine A 9 ?_
  refine lP (E:=fun (s : Int) (g : Nat × Nat)=>[(2,.optr 2 g.1 0 0),(3,.optr 3 g.2 0 0),(5,.int .i64 s)]) (O:=fun _ g=>[(2,some (g.1,⟨false,true,3,40,[.agg [.int .i64 f1.Params,.sl (f1.Slots.map Pn),.sl (f1.Code.map Pm)]]⟩)),(3,some (g.2,⟨false,true,1,29,[.agg [.sl (l2.Out.map (eL Pa))]]⟩))]) (body:=fun s=>YV l2 f1 s) (s:=0) (_,_) ((hE ⟨rfl,r,r,trivial⟩ ⟨rfl,r,trivial⟩))<|?_
  rintro k3 ⟨v2x1,v3x1⟩ nn
  try dsimp only
  unfold YV
  exact B

def AmY (b : Bool) : D:=.bool b
noncomputable def VI : Dw.Spec:=Pf [] .ground Rk Rj (fun a=>TB a.1 a.2) AmY noE
theorem Wm : Pd Tryz.prog 15 VI:=by
 refine fn2 2 (Pv) Tryz.func15<|?_
 rintro ⟨s1,n2⟩
 unfold TB
 refine A 12 ?_
 refine lP (E:=fun (s : Int) (_g : Unit)=>[(0,.sl (s1.map Pa)),(1,.int .i64 n2),(5,.int .i64 s)]) (O:=fun _ _=>[]) (body:=fun s=>Wl s1 n2 s) (s:=0) () ((hE ⟨rfl,r,r,trivial⟩ trivial))<|?_
 rintro i3 ⟨⟩ nn
 try dsimp only
 unfold Wl
 exact B

def AkJ (b : (List Int)) : D:=.sl (b.map Pa)
noncomputable def Afz : Dw.Spec:=Pf [] (.row 1 3) RE RD (fun a=>ZN a.1 a.2) AkJ noE
theorem AjB : Pd Tryz.prog 116 Afz:=by
 refine fn2 2 (Pk (l:=[(15,VI)]) (by simp [Wm])) Tryz.func116<|?_
 rintro ⟨a1,b2⟩
 unfold ZN
 refine A 17 ?_
 refine lP (E:=fun (s : (List Int) × Int) (g : Nat)=>[(0,.sl (a1.map Pa)),(1,.sl (b2.map Pa)),(5,.osl 5 g 0 s.1.length),(6,.int .i64 s.2)]) (O:=fun s g=>[(5,some (g,⟨false,false,1,3,s.1.map Pa⟩))]) (body:=fun s=>Ta a1 b2 s.1 s.2) (s:=(([] : List Int),0)) _ ((hE ⟨rfl,r,r,r,trivial⟩ ⟨rfl,trivial⟩))<|?_
 rintro ⟨out3,i4⟩ v5x1 nn
 try dsimp only
 unfold Ta
 exact B

def Ud (a : OX × Pg × Int) : List D:=[PL a.1,Qv a.2.1,.int .i64 a.2.2]
def Uc (ds : List D) : OX × Pg × Int:=(Sy (ds.getD 0 .top),VA (ds.getD 1 .top),uI (ds.getD 2 .top))
theorem Aic (a : OX × Pg × Int) : Uc (Ud a) = a:=by simp [Uc,Ud,uI]
instance : Px Ud Uc:=⟨Aic⟩
def AiN (b : (List Int)) : D:=.sl (b.map Pa)
noncomputable def AdQ : Dw.Spec:=Pf [] (.row 1 3) Ud Uc (fun a=>Xh a.1 a.2.1 a.2.2) AiN noE
theorem Aid : Pd Tryz.prog 87 AdQ:=by
 refine fn2 3 (Pk (l:=[(63,Adl),(65,Afn),(116,Afz),(64,Xg)]) (by simp [AfB,Ahy,AjB,YP])) Tryz.func87<|?_
 rintro ⟨f1,l2,k3⟩
 unfold Xh
 refine A 16 ?_
 refine bD fun r4 hr4=>?_
 refine A 11 ?_
 refine lP (E:=fun (s : (List Int) × Int) (g : Nat × Nat × Nat × Nat)=>[(2,.int .i64 k3),(3,.optr 3 g.1 0 0),(4,.optr 4 g.2.1 0 0),(7,.osl 7 g.2.2.1 0 s.1.length),(8,.osl 8 g.2.2.2 0 r4.length),(9,.int .i64 s.2)]) (O:=fun s g=>[(3,some (g.1,⟨false,true,3,40,[.agg [.int .i64 f1.Params,.sl (f1.Slots.map Pn),.sl (f1.Code.map Pm)]]⟩)),(4,some (g.2.1,⟨false,true,1,29,[.agg [.sl (l2.Out.map (eL Pa))]]⟩)),(7,some (g.2.2.1,⟨false,false,1,3,s.1.map Pa⟩)),(8,some (g.2.2.2,⟨false,false,1,3,r4.map Pa⟩))]) (body:=fun s=>Tc r4 f1 l2 k3 s.1 s.2) (s:=(([] : List Int),0)) (_,_,_,_) ((hE ⟨rfl,r,r,r,r,r,trivial⟩ ⟨rfl,r,r,r,trivial⟩))<|?_
 rintro ⟨out5,i6⟩ ⟨v3x1,v4x1,v7x1,v8x1⟩ nn
 try dsimp only
 unfold Tc
 exact B

end Go.Proofs.YtnldnldmgceooaaGreatDoor
