/-
  Programs on typed data, and the proofs that the code does what they say; written by a program (dx.py).
-/
import Derived.Test.YtnldnldmgceooaaGreatDoorProg
import Derived.Test.YtnldnldmgceooaaGreatDoorDd
import Derived.KernelRfl
import Derived.Test.YtnldnldmgceooaaGreatDoorDxP
import Derived.Test.YtnldnldmgceooaaGreatDoorDxF2
namespace Go.Proofs.YtnldnldmgceooaaGreatDoor
open Go Go.Dw Go.Proofs
set_option maxRecDepth 100000
set_option maxHeartbeats 4000000
open Go.Dw renaming QU → bD,PN → cK,AcW → bS,Ue → sE,Acy → cD,Aah → hE,Aez → lP,AaZ → sC,Zg → bC,rf → r
def AkG (b : Int × Int × Bool) : D:=.tup [.int .i64 b.1,.int .i64 b.2.1,.bool b.2.2]
noncomputable def Afn : Dw.Spec:=Pf [] .ground Ql Qk (fun a=>ZU a.1 a.2) AkG noE
theorem Ajs : Pd Tryz.prog 61 Afn:=by
 refine fn2 2 (Pk (l:=[(62,Ack),(87,AdC)]) (by simp [AeB,AhN])) Tryz.func61<|?_
 rintro ⟨f1,l2⟩
 unfold ZU
 refine A 14 ?_
 refine bD fun r3 hr3=>?_
 refine A 4 ?_
 refine cD r ?_ ?_
 ·exact B
 ·refine A 9 ?_
  refine lP (E:=fun (s : Int) (g : Nat × Nat)=>[(2,.optr 2 g.1 0 0),(3,.optr 3 g.2 0 0),(7,.int .i64 s)]) (O:=fun _ g=>[(2,some (g.1,⟨false,true,3,40,[.agg [.int .i64 f1.Params,.sl (f1.Slots.map Po),.sl (f1.Code.map Pn)]]⟩)),(3,some (g.2,⟨false,true,1,29,[.agg [.sl (l2.Out.map (eL Pa))]]⟩))]) (body:=fun s=>Zh f1 l2 s) (s:=0) (_,_) ((hE ⟨rfl,r,r,trivial⟩ ⟨rfl,r,trivial⟩))<|?_
  rintro k4 ⟨v2x1,v3x1⟩ nn
  try dsimp only
  unfold Zh
  exact B

def AkF (b : Int) : D:=.int .i64 b
noncomputable def Afm : Dw.Spec:=Pf [] .ground Ql Qk (fun a=>VR a.1 a.2) AkF noE
theorem Ajr : Pd Tryz.prog 36 Afm:=by
 refine fn2 2 (Pk (l:=[(61,Afn),(62,Ack)]) (by simp [Ajs,AeB])) Tryz.func36<|?_
 intro a
 unfold VR
 exact B

def XZ (a : OX × Ph × Bool) : List D:=[PM a.1,Qz a.2.1,.bool a.2.2]
def XY (ds : List D) : OX × Ph × Bool:=(SS (ds.getD 0 .top),Wj (ds.getD 1 .top),uBo (ds.getD 2 .top))
theorem Ajy (a : OX × Ph × Bool) : XY (XZ a) = a:=by simp [XY,XZ,uBo]
instance : Px XZ XY:=⟨Ajy⟩
def AkL (b : (List (List Int)) × Int) : D:=.tup [.sl (b.1.map (eL Pa)),.int .i64 b.2]
noncomputable def Acl : Dw.Spec:=Pf [] .val XZ XY (fun a=>XI a.1 a.2.1 a.2.2) AkL noE
theorem AeC : Pd Tryz.prog 44 Acl:=by
 refine fn2 3 (Pk (l:=[(36,Afm),(14,Vy),(32,XE)]) (by simp [Ajr,WY,YB])) Tryz.func44<|?_
 rintro ⟨f1,l2,strict3⟩
 unfold XI
 refine A 13 ?_
 refine bD fun r4 hr4=>?_
 refine A 10 ?_
 refine cD r ?_ ?_
 ·exact B
 ·refine A 7 ?_
  refine cK fun hq=>AdU (α:=Int) r r r hq r<|?_
  refine A 2 ?_
  refine VC (E:=[(2,.bool strict3),(3,.optr 3 _ 0 0),(4,.optr 4 _ 0 0),(9,.osl 9 _ 0 ((List.replicate (f1.Slots.length : Int).toNat ([] : (List Int))).length))]) (O:=[(3,some (_,⟨false,true,3,40,[.agg [.int .i64 f1.Params,.sl (f1.Slots.map Po),.sl (f1.Code.map Pn)]]⟩)),(4,some (_,⟨false,true,1,29,[.agg [.sl (l2.Out.map (eL Pa))]]⟩)),(9,some (_,⟨false,false,1,30,(List.replicate (f1.Slots.length : Int).toNat ([] : (List Int))).map (eL Pa)⟩))]) ((AfM (g:=9) r (Aht (l:=List.replicate (f1.Slots.length : Int).toNat ([] : (List Int))) Pa (fun _ h=>List.eq_of_mem_replicate h)) (hE ⟨rfl,r,r,r,trivial⟩ ⟨rfl,r,r,trivial⟩))) fun nn=>?_
  refine A 7 ?_
  refine lP (E:=fun (s : (List (List Int)) × Int) (g : Nat × Nat × Nat)=>[(2,.bool strict3),(3,.optr 3 g.1 0 0),(4,.optr 4 g.2.1 0 0),(9,.osl 9 g.2.2 0 s.1.length),(10,.int .i64 s.2)]) (O:=fun s g=>[(3,some (g.1,⟨false,true,3,40,[.agg [.int .i64 f1.Params,.sl (f1.Slots.map Po),.sl (f1.Code.map Pn)]]⟩)),(4,some (g.2.1,⟨false,true,1,29,[.agg [.sl (l2.Out.map (eL Pa))]]⟩)),(9,some (g.2.2,⟨false,false,1,30,s.1.map (eL Pa)⟩))]) (body:=fun s=>Zl f1 l2 strict3 s.1 s.2) (s:=(List.replicate (f1.Slots.length : Int).toNat ([] : (List Int)),0)) (_,_,_) ((hE ⟨rfl,r,r,r,r,trivial⟩ ⟨rfl,r,r,trivial⟩))<|?_
  rintro ⟨out5,k6⟩ ⟨v3x1,v4x1,v9x1⟩ nn
  try dsimp only
  unfold Zl
  refine A 10 ?_
  refine cD r ?_ ?_
  ·refine A 2 ?_
   refine bC (E:=fun (s : Int × Int × Int × Int × Int × (List (List Int))) (g : Nat × Nat × Nat)=>[(2,.bool strict3),(3,.optr 3 g.1 0 0),(4,.optr 4 g.2.1 0 0),(9,.osl 9 g.2.2 0 s.2.2.2.2.2.length),(10,.int .i64 k6)]) (O:=fun s g=>[(3,some (g.1,⟨false,true,3,40,[.agg [.int .i64 f1.Params,.sl (f1.Slots.map Po),.sl (f1.Code.map Pn)]]⟩)),(4,some (g.2.1,⟨false,true,1,29,[.agg [.sl (l2.Out.map (eL Pa))]]⟩)),(9,some (g.2.2,⟨false,false,1,30,s.2.2.2.2.2.map (eL Pa)⟩))]) (j:=fun s=>Tc k6 s.1 s.2.1 s.2.2.1 s.2.2.2.1 s.2.2.2.2.1 s.2.2.2.2.2) ?_ ?_
   ·refine A 5 ?_
    refine bD fun x_x13 hx_x13=>?_
    refine A 9 ?_
    refine bD fun r14 hr14=>?_
    refine A 8 ?_
    refine sC (E:=fun (_s : Unit) (g : Nat × Nat × Nat × Nat)=>[(2,.bool strict3),(3,.optr 3 g.1 0 0),(4,.optr 4 g.2.1 0 0),(9,.osl 9 g.2.2.1 0 out5.length),(10,.int .i64 k6),(11,.optr 11 g.2.2.2 0 0),(12,.int .i64 r14.1),(13,.bool r14.2)]) (O:=fun _ g=>[(3,some (g.1,⟨false,true,3,40,[.agg [.int .i64 f1.Params,.sl (f1.Slots.map Po),.sl (f1.Code.map Pn)]]⟩)),(4,some (g.2.1,⟨false,true,1,29,[.agg [.sl (l2.Out.map (eL Pa))]]⟩)),(9,some (g.2.2.1,⟨false,false,1,30,out5.map (eL Pa)⟩)),(11,some (g.2.2.2,⟨false,true,5,50,[.agg [.int .i64 x_x13.Op,.int .i64 x_x13.A,.int .i64 x_x13.B,.int .i64 x_x13.C,.int .u64 x_x13.Imm]]⟩))]) (j:=fun _=>Ux l2 k6 r14 strict3 x_x13 out5) ?_ ?_
    ·exact B
    ·rintro ⟨⟩ ⟨v3x2,v4x2,v9x2,v11x2⟩ nn
     try dsimp only
     unfold Ux
     refine A 6 ?_
     refine lP (E:=fun (s : (List (List Int)) × Int) (g : Nat × Nat × Nat × Nat)=>[(2,.bool strict3),(3,.optr 3 g.1 0 0),(4,.optr 4 g.2.1 0 0),(9,.osl 9 g.2.2.1 0 s.1.length),(10,.int .i64 k6),(11,.optr 11 g.2.2.2 0 0),(12,.int .i64 r14.1),(13,.bool r14.2),(14,.int .i64 s.2)]) (O:=fun s g=>[(3,some (g.1,⟨false,true,3,40,[.agg [.int .i64 f1.Params,.sl (f1.Slots.map Po),.sl (f1.Code.map Pn)]]⟩)),(4,some (g.2.1,⟨false,true,1,29,[.agg [.sl (l2.Out.map (eL Pa))]]⟩)),(9,some (g.2.2.1,⟨false,false,1,30,s.1.map (eL Pa)⟩)),(11,some (g.2.2.2,⟨false,true,5,50,[.agg [.int .i64 x_x13.Op,.int .i64 x_x13.A,.int .i64 x_x13.B,.int .i64 x_x13.C,.int .u64 x_x13.Imm]]⟩))]) (body:=fun s=>WG l2 k6 r14 strict3 x_x13 s.1 s.2) (s:=(out5,0)) (_,_,_,_) ((hE ⟨rfl,r,r,r,r,r,r,r,r,trivial⟩ ⟨rfl,r,r,r,trivial⟩))<|?_
     rintro ⟨out15,i16⟩ ⟨v3x3,v4x3,v9x3,v11x3⟩ nn
     try dsimp only
     unfold WG
     refine sC (E:=fun (_s : Unit) (g : Nat × Nat × Nat × Nat)=>[(2,.bool strict3),(3,.optr 3 g.1 0 0),(4,.optr 4 g.2.1 0 0),(9,.osl 9 g.2.2.1 0 out15.length),(10,.int .i64 k6),(11,.optr 11 g.2.2.2 0 0),(12,.int .i64 r14.1),(13,.bool r14.2),(14,.int .i64 i16),(62,.bool r14.2)]) (O:=fun _ g=>[(3,some (g.1,⟨false,true,3,40,[.agg [.int .i64 f1.Params,.sl (f1.Slots.map Po),.sl (f1.Code.map Pn)]]⟩)),(4,some (g.2.1,⟨false,true,1,29,[.agg [.sl (l2.Out.map (eL Pa))]]⟩)),(9,some (g.2.2.1,⟨false,false,1,30,out15.map (eL Pa)⟩)),(11,some (g.2.2.2,⟨false,true,5,50,[.agg [.int .i64 x_x13.Op,.int .i64 x_x13.A,.int .i64 x_x13.B,.int .i64 x_x13.C,.int .u64 x_x13.Imm]]⟩))]) (j:=fun _=>Zm l2 k6 i16 r14 out15 strict3 x_x13) ?_ ?_
     ·exact B
     ·rintro ⟨⟩ ⟨v3x4,v4x4,v9x4,v11x4⟩ nn
      try dsimp only
      unfold Zm
      refine A 7 ?_
      refine bD fun x_x18 hx_x18=>?_
      refine A 3 ?_
      refine bD fun x_x19 hx_x19=>?_
      refine A 5 ?_
      refine sC (E:=fun (s : Bool × Bool × Bool × Bool) (g : Nat × Nat × Nat × Nat)=>[(2,.bool strict3),(3,.optr 3 g.1 0 0),(4,.optr 4 g.2.1 0 0),(9,.osl 9 g.2.2.1 0 out15.length),(10,.int .i64 k6),(11,.optr 11 g.2.2.2 0 0),(12,.int .i64 r14.1),(13,.bool r14.2),(14,.int .i64 i16),(15,.int .i64 x_x19),(62,.bool r14.2),(78,.bool strict3),(79,.bool (!strict3)),(80,.bool s.1),(84,.bool s.2.1),(85,.bool s.2.2.1),(90,.bool s.2.2.2)]) (O:=fun _ g=>[(3,some (g.1,⟨false,true,3,40,[.agg [.int .i64 f1.Params,.sl (f1.Slots.map Po),.sl (f1.Code.map Pn)]]⟩)),(4,some (g.2.1,⟨false,true,1,29,[.agg [.sl (l2.Out.map (eL Pa))]]⟩)),(9,some (g.2.2.1,⟨false,false,1,30,out15.map (eL Pa)⟩)),(11,some (g.2.2.2,⟨false,true,5,50,[.agg [.int .i64 x_x13.Op,.int .i64 x_x13.A,.int .i64 x_x13.B,.int .i64 x_x13.C,.int .u64 x_x13.Imm]]⟩))]) (j:=fun s=>Sd r14 out15 x_x19 i16 s.1 s.2.1 s.2.2.1 s.2.2.2) ?_ ?_
      ·exact B
      ·rintro ⟨x20,x21,x22,x23⟩ ⟨v3x5,v4x5,v9x5,v11x5⟩ nn
       try dsimp only
       unfold Sd
       refine A 8 ?_
       refine bD fun out_e24 hout_e24=>?_
       refine A 2 ?_
       refine bD fun r25 hr25=>?_
       refine A 4 ?_
       refine bD fun out_e26 hout_e26=>?_
       refine A 2 ?_
       refine bD fun r27 hr27=>?_
       refine A 2 ?_
       refine bD fun out_o28 hout_o28=>sE (l:=out15) (en:=(eL Pa)) (q':=r25) r r r r r r r (by simp) hout_o28 r r r (by simp [PH,cells,eL]) r<|?_
       refine A 1 ?_
       refine bD fun out_o29 hout_o29=>sE (l:=out15.set r14.1.toNat r25) (en:=(eL Pa)) (q':=r27) r r r r r r r (by simp) hout_o29 r r r (by simp [PH,cells,eL]) r<|?_
       exact B
   ·rintro ⟨x7,x8,x9,x10,x11,out12⟩ ⟨v3x6,v4x6,v9x6⟩ nn
    try dsimp only
    unfold Tc
    exact B
  ·exact B

def AkJ (b : (List (List Int)) × Int) : D:=.tup [.sl (b.1.map (eL Pa)),.int .i64 b.2]
noncomputable def Afp : Dw.Spec:=Pf [] .val Ql Qk (fun a=>ZV a.1 a.2) AkJ noE
theorem Ajv : Pd Tryz.prog 77 Afp:=by
 refine fn2 2 (Pk (l:=[(44,Acl)]) (by simp [AeC])) Tryz.func77<|?_
 intro a
 unfold ZV
 exact B

def AkK (b : (List PR)) : D:=.sl (b.map TM)
noncomputable def Afq : Dw.Spec:=Pf [] (.row 2 135) VA Vz (fun a=>ZW a) AkK noE
theorem Ajw : Pd Tryz.prog 96 Afq:=by
 refine fn2 1 (Pv) Tryz.func96<|?_
 intro f1
 unfold ZW
 refine A 18 ?_
 refine lP (E:=fun (s : (List PR) × Int) (g : Nat × Nat)=>[(1,.optr 1 g.1 0 0),(3,.osl 3 g.2 0 s.1.length),(4,.int .i64 s.2)]) (O:=fun s g=>[(1,some (g.1,⟨false,true,3,40,[.agg [.int .i64 f1.Params,.sl (f1.Slots.map Po),.sl (f1.Code.map Pn)]]⟩)),(3,some (g.2,⟨false,false,2,135,s.1.map TM⟩))]) (body:=fun s=>Zj f1 s.1 s.2) (s:=(([] : List PR),0)) (_,_) ((hE ⟨rfl,r,r,trivial⟩ ⟨rfl,r,trivial⟩))<|?_
 rintro ⟨out2,k3⟩ ⟨v1x1,v3x1⟩ nn
 try dsimp only
 unfold Zj
 refine A 10 ?_
 refine cD r ?_ ?_
 ·refine A 2 ?_
  refine bC (E:=fun (s : (List PR)) (g : Nat × Nat)=>[(1,.optr 1 g.1 0 0),(3,.osl 3 g.2 0 s.length),(4,.int .i64 k3)]) (O:=fun s g=>[(1,some (g.1,⟨false,true,3,40,[.agg [.int .i64 f1.Params,.sl (f1.Slots.map Po),.sl (f1.Code.map Pn)]]⟩)),(3,some (g.2,⟨false,false,2,135,s.map TM⟩))]) (j:=fun s=>WD k3 s) ?_ ?_
  ·refine A 5 ?_
   refine bD fun x_x5 hx_x5=>?_
   refine A 17 ?_
   refine sC (E:=fun (s : Bool) (g : Nat × Nat × Nat)=>[(1,.optr 1 g.1 0 0),(3,.osl 3 g.2.1 0 out2.length),(4,.int .i64 k3),(6,.optr 6 g.2.2 0 0),(7,.bool s)]) (O:=fun _ g=>[(1,some (g.1,⟨false,true,3,40,[.agg [.int .i64 f1.Params,.sl (f1.Slots.map Po),.sl (f1.Code.map Pn)]]⟩)),(3,some (g.2.1,⟨false,false,2,135,out2.map TM⟩)),(6,some (g.2.2,⟨false,true,2,135,[.agg [.int .i64 x_x5.A,.int .i64 x_x5.B]]⟩))]) (j:=fun s=>Uw out2 x_x5 k3 s) ?_ ?_
   ·exact B
   ·rintro old6 ⟨v1x2,v3x2,v6x2⟩ nn
    try dsimp only
    unfold Uw
    refine A 7 ?_
    refine lP (E:=fun (s : Bool × Int) (g : Nat × Nat × Nat)=>[(1,.optr 1 g.1 0 0),(3,.osl 3 g.2.1 0 out2.length),(4,.int .i64 k3),(6,.optr 6 g.2.2 0 0),(7,.bool s.1),(8,.int .i64 s.2)]) (O:=fun _ g=>[(1,some (g.1,⟨false,true,3,40,[.agg [.int .i64 f1.Params,.sl (f1.Slots.map Po),.sl (f1.Code.map Pn)]]⟩)),(3,some (g.2.1,⟨false,false,2,135,out2.map TM⟩)),(6,some (g.2.2,⟨false,true,2,135,[.agg [.int .i64 x_x5.A,.int .i64 x_x5.B]]⟩))]) (body:=fun s=>Zk out2 x_x5 k3 s.1 s.2) (s:=(old6,0)) (_,_,_) ((hE ⟨rfl,r,r,r,r,r,trivial⟩ ⟨rfl,r,r,trivial⟩))<|?_
    rintro ⟨old7,i8⟩ ⟨v1x3,v3x3,v6x3⟩ nn
    try dsimp only
    unfold Zk
    refine A 9 ?_
    refine cD r ?_ ?_
    ·exact B
    ·refine A 11 ?_
     refine cD r ?_ ?_
     ·refine A 3 ?_
      refine bS ([(PR.mk x_x5.A x_x5.B)] : List PR) TM r r r (by simp) r r r<|?_
      exact B
     ·exact B
  ·rintro out4 ⟨v1x4,v3x4⟩ nn
   try dsimp only
   unfold WD
   exact B
 ·exact B

def AiA (b : (List Int)) : D:=.sl (b.map Pa)
noncomputable def Abj : Dw.Spec:=Pf [] (.row 1 3) Rj Ri (fun a=>TW a.1 a.2) AiA noE
theorem Adg : Pd Tryz.prog 101 Abj:=by
 refine fn2 2 (Pv) Tryz.func101<|?_
 rintro ⟨to1,s2⟩
 unfold TW
 refine A 17 ?_
 refine lP (E:=fun (s : (List Int) × Int) (g : Nat)=>[(0,.sl (to1.map Pa)),(1,.int .i64 s2),(5,.osl 5 g 0 s.1.length),(6,.int .i64 s.2)]) (O:=fun s g=>[(5,some (g,⟨false,false,1,3,s.1.map Pa⟩))]) (body:=fun s=>Xd to1 s2 s.1 s.2) (s:=(([] : List Int),0)) _ ((hE ⟨rfl,r,r,r,trivial⟩ ⟨rfl,trivial⟩))<|?_
 rintro ⟨out3,t4⟩ v5x1 nn
 try dsimp only
 unfold Xd
 exact B

def Ye (a : (List (List Int)) × (List Int) × Int × Int) : List D:=[.sl (a.1.map (eL Pa)),.sl (a.2.1.map Pa),.int .i64 a.2.2.1,.int .i64 a.2.2.2]
def Yd (ds : List D) : (List (List Int)) × (List Int) × Int × Int:=((uL (uL uI)) (ds.getD 0 .top),(uL uI) (ds.getD 1 .top),uI (ds.getD 2 .top),uI (ds.getD 3 .top))
theorem AjB (a : (List (List Int)) × (List Int) × Int × Int) : Yd (Ye a) = a:=by simp [Yd,Ye,uI,PV (u:=(uL uI)) (en:=(eL Pa)) (PV (u:=uI) (en:=Pa) (fun _=>rfl)),PV (u:=uI) (en:=Pa) (fun _=>rfl)]
instance : Px Ye Yd:=⟨AjB⟩
def AkN (b : Bool) : D:=.bool b
noncomputable def Afs : Dw.Spec:=Pf [] .ground Ye Yd (fun a=>ZY a.1 a.2.1 a.2.2.1 a.2.2.2) AkN noE
theorem AjC : Pd Tryz.prog 97 Afs:=by
 refine fn2 4 (Pk (l:=[(101,Abj),(15,XG)]) (by simp [Adg,YC])) Tryz.func97<|?_
 rintro ⟨g1,to2,a3,b4⟩
 unfold ZY
 refine A 9 ?_
 refine bD fun r5 hr5=>?_
 refine A 3 ?_
 refine bD fun r6 hr6=>?_
 refine A 12 ?_
 refine lP (E:=fun (s : Int) (g : Nat × Nat)=>[(0,.sl (g1.map (eL Pa))),(9,.osl 9 g.1 0 r5.length),(10,.osl 10 g.2 0 r6.length),(11,.int .i64 s)]) (O:=fun _ g=>[(9,some (g.1,⟨false,false,1,3,r5.map Pa⟩)),(10,some (g.2,⟨false,false,1,3,r6.map Pa⟩))]) (body:=fun s=>Zp r5 r6 g1 s) (s:=0) (_,_) ((hE ⟨rfl,r,r,r,trivial⟩ ⟨rfl,r,trivial⟩))<|?_
 rintro i7 ⟨v9x1,v10x1⟩ nn
 try dsimp only
 unfold Zp
 refine A 9 ?_
 refine cD r ?_ ?_
 ·refine A 2 ?_
  refine bC (E:=fun (_s : Unit) (g : Nat × Nat)=>[(0,.sl (g1.map (eL Pa))),(9,.osl 9 g.1 0 r5.length),(10,.osl 10 g.2 0 r6.length),(11,.int .i64 i7)]) (O:=fun _ g=>[(9,some (g.1,⟨false,false,1,3,r5.map Pa⟩)),(10,some (g.2,⟨false,false,1,3,r6.map Pa⟩))]) (j:=fun _=>Zr i7) ?_ ?_
  ·refine A 6 ?_
   refine lP (E:=fun (s : Int) (g : Nat × Nat)=>[(0,.sl (g1.map (eL Pa))),(9,.osl 9 g.1 0 r5.length),(10,.osl 10 g.2 0 r6.length),(11,.int .i64 i7),(12,.int .i64 s)]) (O:=fun _ g=>[(9,some (g.1,⟨false,false,1,3,r5.map Pa⟩)),(10,some (g.2,⟨false,false,1,3,r6.map Pa⟩))]) (body:=fun s=>Zq r6 i7 r5 g1 s) (s:=0) (_,_) ((hE ⟨rfl,r,r,r,r,trivial⟩ ⟨rfl,r,trivial⟩))<|?_
   rintro k8 ⟨v9x2,v10x2⟩ nn
   try dsimp only
   unfold Zq
   exact B
  ·rintro ⟨⟩ ⟨v9x3,v10x3⟩ nn
   try dsimp only
   unfold Zr
   exact B
 ·exact B

def We (a : OX × (List (List Int))) : List D:=[PM a.1,.sl (a.2.map (eL Pa))]
def Wd (ds : List D) : OX × (List (List Int)):=(SS (ds.getD 0 .top),(uL (uL uI)) (ds.getD 1 .top))
theorem AhO (a : OX × (List (List Int))) : Wd (We a) = a:=by simp [Wd,We,PV (u:=(uL uI)) (en:=(eL Pa)) (PV (u:=uI) (en:=Pa) (fun _=>rfl))]
instance : Px We Wd:=⟨AhO⟩
def Aiz (b : (List Int)) : D:=.sl (b.map Pa)
noncomputable def AdF : Dw.Spec:=Pf [] (.row 1 3) We Wd (fun a=>Vd a.1 a.2) Aiz noE
theorem AhP : Pd Tryz.prog 78 AdF:=by
 refine fn2 2 (Pk (l:=[(96,Afq),(97,Afs)]) (by simp [Ajw,AjC])) Tryz.func78<|?_
 rintro ⟨f1,g2⟩
 unfold Vd
 refine A 18 ?_
 refine lP (E:=fun (s : (List Int) × Int) (g : Nat × Nat)=>[(1,.sl (g2.map (eL Pa))),(2,.optr 2 g.1 0 0),(5,.osl 5 g.2 0 s.1.length),(6,.int .i64 s.2)]) (O:=fun s g=>[(2,some (g.1,⟨false,true,3,40,[.agg [.int .i64 f1.Params,.sl (f1.Slots.map Po),.sl (f1.Code.map Pn)]]⟩)),(5,some (g.2,⟨false,false,1,3,s.1.map Pa⟩))]) (body:=fun s=>WZ f1 g2 s.1 s.2) (s:=(([] : List Int),0)) (_,_) ((hE ⟨rfl,r,r,r,trivial⟩ ⟨rfl,r,trivial⟩))<|?_
 rintro ⟨to3,s4⟩ ⟨v2x1,v5x1⟩ nn
 try dsimp only
 unfold WZ
 refine A 10 ?_
 refine cD r ?_ ?_
 ·exact B
 ·refine A 8 ?_
  refine bD fun r5 hr5=>?_
  refine A 11 ?_
  refine lP (E:=fun (s : (List Int) × Int) (g : Nat × Nat)=>[(1,.sl (g2.map (eL Pa))),(5,.osl 5 g.1 0 s.1.length),(7,.osl 7 g.2 0 r5.length),(8,.int .i64 s.2)]) (O:=fun s g=>[(5,some (g.1,⟨false,false,1,3,s.1.map Pa⟩)),(7,some (g.2,⟨false,false,2,135,r5.map TM⟩))]) (body:=fun s=>Xa r5 g2 s.1 s.2) (s:=(to3,0)) (_,_) ((hE ⟨rfl,r,r,r,trivial⟩ ⟨rfl,r,trivial⟩))<|?_
  rintro ⟨to6,i7⟩ ⟨v5x2,v7x2⟩ nn
  try dsimp only
  unfold Xa
  refine A 9 ?_
  refine cD r ?_ ?_
  ·refine A 2 ?_
   refine bC (E:=fun (s : (List Int)) (g : Nat × Nat)=>[(1,.sl (g2.map (eL Pa))),(5,.osl 5 g.1 0 s.length),(7,.osl 7 g.2 0 r5.length),(8,.int .i64 i7)]) (O:=fun s g=>[(5,some (g.1,⟨false,false,1,3,s.map Pa⟩)),(7,some (g.2,⟨false,false,2,135,r5.map TM⟩))]) (j:=fun s=>Rk i7 s) ?_ ?_
   ·refine A 6 ?_
    refine Uo r r r (by decide)<|bD fun moves_e9 hmoves_e9=>?_
    refine A 2 ?_
    refine bD fun to_e10 hto_e10=>?_
    refine A 5 ?_
    refine Uo r r r (by decide)<|bD fun moves_e11 hmoves_e11=>?_
    refine A 2 ?_
    refine bD fun to_e12 hto_e12=>?_
    refine A 5 ?_
    refine sC (E:=fun (s : Bool × Bool) (g : Nat × Nat)=>[(1,.sl (g2.map (eL Pa))),(5,.osl 5 g.1 0 to6.length),(7,.osl 7 g.2 0 r5.length),(8,.int .i64 i7),(9,.int .i64 to_e10),(10,.int .i64 to_e12),(51,.sl (g2.map (eL Pa))),(52,.osl 5 g.1 0 to6.length),(53,.int .i64 to_e10),(54,.int .i64 to_e12),(55,.bool s.1),(56,.bool s.2)]) (O:=fun _ g=>[(5,some (g.1,⟨false,false,1,3,to6.map Pa⟩)),(7,some (g.2,⟨false,false,2,135,r5.map TM⟩))]) (j:=fun s=>Xc to_e10 to_e12 i7 to6 s.1 s.2) ?_ ?_
    ·exact B
    ·rintro ⟨x13,x14⟩ ⟨v5x3,v7x3⟩ nn
     try dsimp only
     unfold Xc
     refine A 6 ?_
     refine lP (E:=fun (s : (List Int) × Int) (g : Nat × Nat)=>[(1,.sl (g2.map (eL Pa))),(5,.osl 5 g.1 0 s.1.length),(7,.osl 7 g.2 0 r5.length),(8,.int .i64 i7),(9,.int .i64 to_e10),(10,.int .i64 to_e12),(11,.int .i64 s.2),(51,.sl (g2.map (eL Pa))),(52,.osl 5 g.1 0 s.1.length),(53,.int .i64 to_e10),(54,.int .i64 to_e12),(55,.bool x13),(56,.bool x14)]) (O:=fun s g=>[(5,some (g.1,⟨false,false,1,3,s.1.map Pa⟩)),(7,some (g.2,⟨false,false,2,135,r5.map TM⟩))]) (body:=fun s=>Xb to_e10 to_e12 i7 s.1 s.2) (s:=(to6,0)) (_,_) ((hE ⟨rfl,r,r,r,r,r,r,r,r,r,r,r,r,trivial⟩ ⟨rfl,r,trivial⟩))<|?_
     rintro ⟨to16,s17⟩ ⟨v5x4,v7x4⟩ nn
     try dsimp only
     unfold Xb
     refine A 9 ?_
     refine cD r ?_ ?_
     ·refine A 4 ?_
      refine sC (E:=fun (s : Bool) (g : Nat × Nat)=>[(1,.sl (g2.map (eL Pa))),(5,.osl 5 g.1 0 to16.length),(7,.osl 7 g.2 0 r5.length),(8,.int .i64 i7),(9,.int .i64 to_e10),(10,.int .i64 to_e12),(11,.int .i64 s17),(51,.sl (g2.map (eL Pa))),(52,.osl 5 g.1 0 to16.length),(53,.int .i64 to_e10),(54,.int .i64 to_e12),(55,.bool x13),(56,.bool x14),(77,.bool s)]) (O:=fun _ g=>[(5,some (g.1,⟨false,false,1,3,to16.map Pa⟩)),(7,some (g.2,⟨false,false,2,135,r5.map TM⟩))]) (j:=fun s=>Td s17 to16 to_e10 to_e12 s) ?_ ?_
      ·exact B
      ·rintro x18 ⟨v5x5,v7x5⟩ nn
       try dsimp only
       unfold Td
       exact B
     ·exact B
   ·rintro to8 ⟨v5x6,v7x6⟩ nn
    try dsimp only
    unfold Rk
    exact B
  ·exact B

def AlS (b : Bool) : D:=.bool b
noncomputable def Agn : Dw.Spec:=Pf [] .ground Ud Uc (fun a=>Abm a.1 a.2.1 a.2.2) AlS noE
theorem AkQ : Pd Tryz.prog 98 Agn:=by
 refine fn2 3 (Pk (l:=[(14,Vy),(15,XG)]) (by simp [WY,YC])) Tryz.func98<|?_
 intro a
 unfold Abm
 exact B

def Zu (a : OX × Ph × (List Int)) : List D:=[PM a.1,Qz a.2.1,.sl (a.2.2.map Pa)]
def Zt (ds : List D) : OX × Ph × (List Int):=(SS (ds.getD 0 .top),Wj (ds.getD 1 .top),(uL uI) (ds.getD 2 .top))
theorem AkO (a : OX × Ph × (List Int)) : Zt (Zu a) = a:=by simp [Zt,Zu,PV (u:=uI) (en:=Pa) (fun _=>rfl)]
instance : Px Zu Zt:=⟨AkO⟩
def AlR (b : (List Bool)) : D:=.sl (b.map D.bool)
noncomputable def Agm : Dw.Spec:=Pf [] (.row 1 4) Zu Zt (fun a=>Zs a.1 a.2.1 a.2.2) AlR noE
theorem AkP : Pd Tryz.prog 79 Agm:=by
 refine fn2 3 (Pk (l:=[(98,Agn)]) (by simp [AkQ])) Tryz.func79<|?_
 rintro ⟨f1,l2,to3⟩
 unfold Zs
 refine A 19 ?_
 refine lP (E:=fun (s : (List Bool) × Int) (g : Nat × Nat × Nat)=>[(2,.sl (to3.map Pa)),(3,.optr 3 g.1 0 0),(4,.optr 4 g.2.1 0 0),(7,.osl 7 g.2.2 0 s.1.length),(8,.int .i64 s.2)]) (O:=fun s g=>[(3,some (g.1,⟨false,true,3,40,[.agg [.int .i64 f1.Params,.sl (f1.Slots.map Po),.sl (f1.Code.map Pn)]]⟩)),(4,some (g.2.1,⟨false,true,1,29,[.agg [.sl (l2.Out.map (eL Pa))]]⟩)),(7,some (g.2.2,⟨false,false,1,4,s.1.map D.bool⟩))]) (body:=fun s=>Aao f1 l2 to3 s.1 s.2) (s:=(([] : List Bool),0)) (_,_,_) ((hE ⟨rfl,r,r,r,r,trivial⟩ ⟨rfl,r,r,trivial⟩))<|?_
 rintro ⟨out4,k5⟩ ⟨v3x1,v4x1,v7x1⟩ nn
 try dsimp only
 unfold Aao
 exact B

def Yc (a : OX × (List Int)) : List D:=[PM a.1,.sl (a.2.map Pa)]
def Ya (ds : List D) : OX × (List Int):=(SS (ds.getD 0 .top),(uL uI) (ds.getD 1 .top))
theorem Ajz (a : OX × (List Int)) : Ya (Yc a) = a:=by simp [Ya,Yc,PV (u:=uI) (en:=Pa) (fun _=>rfl)]
instance : Px Yc Ya:=⟨Ajz⟩
def AkM (b : Bool) : D:=.bool b
noncomputable def Afr : Dw.Spec:=Pf [] .ground Yc Ya (fun a=>ZX a.1 a.2) AkM noE
theorem AjA : Pd Tryz.prog 121 Afr:=by
 refine fn2 2 (Pv) Tryz.func121<|?_
 rintro ⟨f1,to2⟩
 unfold ZX
 refine A 17 ?_
 refine cD r ?_ ?_
 ·exact B
 ·refine A 9 ?_
  refine lP (E:=fun (s : Int) (g : Nat)=>[(1,.sl (to2.map Pa)),(2,.optr 2 g 0 0),(5,.int .i64 s)]) (O:=fun _ g=>[(2,some (g,⟨false,true,3,40,[.agg [.int .i64 f1.Params,.sl (f1.Slots.map Po),.sl (f1.Code.map Pn)]]⟩))]) (body:=fun s=>Zn to2 f1 s) (s:=0) _ ((hE ⟨rfl,r,r,trivial⟩ ⟨rfl,trivial⟩))<|?_
  rintro s3 v2x1 nn
  try dsimp only
  unfold Zn
  refine A 9 ?_
  refine cD r ?_ ?_
  ·exact B
  ·refine A 12 ?_
   refine lP (E:=fun (s : Int) (g : Nat)=>[(1,.sl (to2.map Pa)),(2,.optr 2 g 0 0),(6,.int .i64 s)]) (O:=fun _ g=>[(2,some (g,⟨false,true,3,40,[.agg [.int .i64 f1.Params,.sl (f1.Slots.map Po),.sl (f1.Code.map Pn)]]⟩))]) (body:=fun s=>Zo to2 f1 s) (s:=0) _ ((hE ⟨rfl,r,r,trivial⟩ ⟨rfl,trivial⟩))<|?_
   rintro s6 v2x2 nn
   try dsimp only
   unfold Zo
   exact B

def TR (a : OX × Pw) : List D:=[PM a.1,Aep a.2]
def TQ (ds : List D) : OX × Pw:=(SS (ds.getD 0 .top),AeJ (ds.getD 1 .top))
theorem AjE (a : OX × Pw) : TQ (TR a) = a:=by simp [TQ,TR]
instance : Px TR TQ:=⟨AjE⟩
def AkS (b : Int) : D:=.int .i64 b
noncomputable def Afv : Dw.Spec:=Pf [] .ground TR TQ (fun a=>ZZ a.1 a.2) AkS noE
theorem AjF : Pd Tryz.prog 99 Afv:=by
 refine fn2 2 (Pk (l:=[(121,Afr),(37,ZK)]) (by simp [AjA,Acd])) Tryz.func99<|?_
 rintro ⟨f1,r2⟩
 unfold ZZ
 refine A 7 ?_
 refine sC (E:=fun (_s : Unit) (g : Nat × Nat)=>[(2,.optr 2 g.1 0 0),(3,.optr 3 g.2 0 0)]) (O:=fun _ g=>[(2,some (g.1,⟨false,true,3,40,[.agg [.int .i64 f1.Params,.sl (f1.Slots.map Po),.sl (f1.Code.map Pn)]]⟩)),(3,some (g.2,⟨false,true,2,104,[.agg [.sl (r2.To.map Pa),.sl (r2.Keep.map D.bool)]]⟩))]) (j:=fun _=>Zy f1 r2) ?_ ?_
 ·exact B
 ·rintro ⟨⟩ ⟨v2x1,v3x1⟩ nn
  try dsimp only
  unfold Zy
  refine A 7 ?_
  refine lP (E:=fun (s : Int) (g : Nat × Nat)=>[(2,.optr 2 g.1 0 0),(3,.optr 3 g.2 0 0),(5,.int .i64 s)]) (O:=fun _ g=>[(2,some (g.1,⟨false,true,3,40,[.agg [.int .i64 f1.Params,.sl (f1.Slots.map Po),.sl (f1.Code.map Pn)]]⟩)),(3,some (g.2,⟨false,true,2,104,[.agg [.sl (r2.To.map Pa),.sl (r2.Keep.map D.bool)]]⟩))]) (body:=fun s=>Zx f1 r2 s) (s:=0) (_,_) ((hE ⟨rfl,r,r,trivial⟩ ⟨rfl,r,trivial⟩))<|?_
  rintro k4 ⟨v2x2,v3x2⟩ nn
  try dsimp only
  unfold Zx
  exact B

def Wc (a : Int × (List Int)) : List D:=[.int .i64 a.1,.sl (a.2.map Pa)]
def Wb (ds : List D) : Int × (List Int):=(uI (ds.getD 0 .top),(uL uI) (ds.getD 1 .top))
theorem AhK (a : Int × (List Int)) : Wb (Wc a) = a:=by simp [Wb,Wc,uI,PV (u:=uI) (en:=Pa) (fun _=>rfl)]
instance : Px Wc Wb:=⟨AhK⟩
def Aix (b : Int) : D:=.int .i64 b
noncomputable def AdB : Dw.Spec:=Pf [] .ground Wc Wb (fun a=>SF a.1 a.2) Aix noE
theorem AhL : Pd Tryz.prog 122 AdB:=by
 refine fn2 2 (Pv) Tryz.func122<|?_
 intro a
 unfold SF
 exact B

def Aiw (b : OZ) : D:=Pn b
noncomputable def Abg : Dw.Spec:=Pf [] .ground WB WA (fun a=>Va a.1 a.2) Aiw noE
theorem Ade : Pd Tryz.prog 104 Abg:=by
 refine fn2 2 (Pk (l:=[(122,AdB)]) (by simp [AhL])) Tryz.func104<|?_
 intro a
 unfold Va
 exact B

def AlT (b : (List Int)) : D:=.sl (b.map Pa)
noncomputable def Ago : Dw.Spec:=Pf [] (.row 1 3) TR TQ (fun a=>Abn a.1 a.2) AlT noE
theorem AkT : Pd Tryz.prog 100 Ago:=by
 refine fn2 2 (Pk (l:=[(104,Abg),(88,Adf),(64,Xx),(14,Vy),(32,XE)]) (by simp [Ade,Afl,Za,WY,YB])) Tryz.func100<|?_
 rintro ⟨f1,r2⟩
 unfold Abn
 refine A 19 ?_
 refine lP (E:=fun (s : (List Int) × Int) (g : Nat × Nat × Nat)=>[(2,.optr 2 g.1 0 0),(3,.optr 3 g.2.1 0 0),(5,.osl 5 g.2.2 0 s.1.length),(6,.int .i64 s.2)]) (O:=fun s g=>[(2,some (g.1,⟨false,true,3,40,[.agg [.int .i64 f1.Params,.sl (f1.Slots.map Po),.sl (f1.Code.map Pn)]]⟩)),(3,some (g.2.1,⟨false,true,2,104,[.agg [.sl (r2.To.map Pa),.sl (r2.Keep.map D.bool)]]⟩)),(5,some (g.2.2,⟨false,false,1,3,s.1.map Pa⟩))]) (body:=fun s=>Aaq f1 r2 s.1 s.2) (s:=(([] : List Int),0)) (_,_,_) ((hE ⟨rfl,r,r,r,trivial⟩ ⟨rfl,r,r,trivial⟩))<|?_
 rintro ⟨out3,k4⟩ ⟨v2x1,v3x1,v5x1⟩ nn
 try dsimp only
 unfold Aaq
 refine sC (E:=fun (_s : Unit) (g : Nat × Nat × Nat)=>[(2,.optr 2 g.1 0 0),(3,.optr 3 g.2.1 0 0),(5,.osl 5 g.2.2 0 out3.length),(6,.int .i64 k4),(16,.int .i64 k4),(17,.optr 3 g.2.1 0 1),(18,.sl (r2.Keep.map D.bool)),(19,.int .i64 (r2.Keep.length : Int)),(20,.bool (decide (k4 < (r2.Keep.length : Int))))]) (O:=fun _ g=>[(2,some (g.1,⟨false,true,3,40,[.agg [.int .i64 f1.Params,.sl (f1.Slots.map Po),.sl (f1.Code.map Pn)]]⟩)),(3,some (g.2.1,⟨false,true,2,104,[.agg [.sl (r2.To.map Pa),.sl (r2.Keep.map D.bool)]]⟩)),(5,some (g.2.2,⟨false,false,1,3,out3.map Pa⟩))]) (j:=fun _=>Aar r2 k4 out3 f1) ?_ ?_
 ·exact B
 ·rintro ⟨⟩ ⟨v2x2,v3x2,v5x2⟩ nn
  try dsimp only
  unfold Aar
  exact B

def Wg (a : Pw × (List Int)) : List D:=[Aep a.1,.sl (a.2.map Pa)]
def Wf (ds : List D) : Pw × (List Int):=(AeJ (ds.getD 0 .top),(uL uI) (ds.getD 1 .top))
theorem AhS (a : Pw × (List Int)) : Wf (Wg a) = a:=by simp [Wf,Wg,PV (u:=uI) (en:=Pa) (fun _=>rfl)]
instance : Px Wg Wf:=⟨AhS⟩
def AiG (b : (List Int)) : D:=.sl (b.map Pa)
noncomputable def AdI : Dw.Spec:=Pf [] (.row 1 3) Wg Wf (fun a=>Xz a.1 a.2) AiG noE
theorem AhT : Pd Tryz.prog 102 AdI:=by
 refine fn2 2 (Pv) Tryz.func102<|?_
 rintro ⟨r1,used2⟩
 unfold Xz
 refine A 18 ?_
 refine lP (E:=fun (s : (List Int) × Int) (g : Nat × Nat)=>[(1,.sl (used2.map Pa)),(2,.optr 2 g.1 0 0),(5,.osl 5 g.2 0 s.1.length),(6,.int .i64 s.2)]) (O:=fun s g=>[(2,some (g.1,⟨false,true,2,104,[.agg [.sl (r1.To.map Pa),.sl (r1.Keep.map D.bool)]]⟩)),(5,some (g.2,⟨false,false,1,3,s.1.map Pa⟩))]) (body:=fun s=>Xg r1 used2 s.1 s.2) (s:=(([] : List Int),0)) (_,_) ((hE ⟨rfl,r,r,r,trivial⟩ ⟨rfl,r,trivial⟩))<|?_
 rintro ⟨out3,s4⟩ ⟨v2x1,v5x1⟩ nn
 try dsimp only
 unfold Xg
 refine A 10 ?_
 refine cD r ?_ ?_
 ·refine A 2 ?_
  refine bC (E:=fun (s : (List Int)) (g : Nat × Nat)=>[(1,.sl (used2.map Pa)),(2,.optr 2 g.1 0 0),(5,.osl 5 g.2 0 s.length),(6,.int .i64 s4)]) (O:=fun s g=>[(2,some (g.1,⟨false,true,2,104,[.agg [.sl (r1.To.map Pa),.sl (r1.Keep.map D.bool)]]⟩)),(5,some (g.2,⟨false,false,1,3,s.map Pa⟩))]) (j:=fun s=>Xi s4 s) ?_ ?_
  ·refine A 12 ?_
   refine lP (E:=fun (s : Int × Int) (g : Nat × Nat)=>[(1,.sl (used2.map Pa)),(2,.optr 2 g.1 0 0),(5,.osl 5 g.2 0 out3.length),(6,.int .i64 s4),(7,.int .i64 s.1),(8,.int .i64 s.2)]) (O:=fun _ g=>[(2,some (g.1,⟨false,true,2,104,[.agg [.sl (r1.To.map Pa),.sl (r1.Keep.map D.bool)]]⟩)),(5,some (g.2,⟨false,false,1,3,out3.map Pa⟩))]) (body:=fun s=>Xh used2 r1 s4 out3 s.1 s.2) (s:=(0,0)) (_,_) ((hE ⟨rfl,r,r,r,r,r,trivial⟩ ⟨rfl,r,trivial⟩))<|?_
   rintro ⟨n6,i7⟩ ⟨v2x2,v5x2⟩ nn
   try dsimp only
   unfold Xh
   exact B
  ·rintro out5 ⟨v2x3,v5x3⟩ nn
   try dsimp only
   unfold Xi
   exact B
 ·exact B

def Xf (a : Pw) : List D:=[Aep a]
def Xe (ds : List D) : Pw:=AeJ (ds.getD 0 .top)
theorem AiB (a : Pw) : Xe (Xf a) = a:=by simp [Xe,Xf]
instance : Px Xf Xe:=⟨AiB⟩
def AjG (b : (List Int)) : D:=.sl (b.map Pa)
noncomputable def AeD : Dw.Spec:=Pf [] (.row 1 3) Xf Xe (fun a=>YD a) AjG noE
theorem AiE : Pd Tryz.prog 103 AeD:=by
 refine fn2 1 (Pv) Tryz.func103<|?_
 intro r1
 unfold YD
 refine A 23 ?_
 refine lP (E:=fun (s : (List Int) × Int × Int) (g : Nat × Nat)=>[(1,.optr 1 g.1 0 0),(3,.osl 3 g.2 0 s.1.length),(4,.int .i64 s.2.1),(5,.int .i64 s.2.2)]) (O:=fun s g=>[(1,some (g.1,⟨false,true,2,104,[.agg [.sl (r1.To.map Pa),.sl (r1.Keep.map D.bool)]]⟩)),(3,some (g.2,⟨false,false,1,3,s.1.map Pa⟩))]) (body:=fun s=>Yf r1 s.1 s.2.1 s.2.2) (s:=(([] : List Int),0,0)) (_,_) ((hE ⟨rfl,r,r,r,trivial⟩ ⟨rfl,r,trivial⟩))<|?_
 rintro ⟨out2,n3,k4⟩ ⟨v1x1,v3x1⟩ nn
 try dsimp only
 unfold Yf
 exact B

def Aft (b : OX × Int) : D:=.tup [PM b.1,.int .i64 b.2]
noncomputable def Afu : Dw.Spec:=Pf [] .val TR TQ (fun a=>VT a.1 a.2) Aft noE
theorem AjD : Pd Tryz.prog 80 Afu:=by
 refine fn2 2 (Pk (l:=[(99,Afv),(100,Ago),(101,Abj),(102,AdI),(103,AeD),(104,Abg)]) (by simp [AjF,AkT,Adg,AhT,AiE,Ade])) Tryz.func80<|?_
 rintro ⟨f1,r2⟩
 unfold VT
 refine A 13 ?_
 refine bD fun r3 hr3=>?_
 refine A 10 ?_
 refine cD r ?_ ?_
 ·refine A 10 ?_
  refine Qu (b:=((OX.mk 0 ([]) ([])),r3)) r ?_ r r ?_ (by first | rfl | (simp only [OV]; rfl) | (simp only [OW]; rfl) | (simp only [OV,OW]; rfl) | simp [Aft,PM]) (by decide)
  all_goals first|(simp;done)|(simp;omega)|rfl|(simp [PG,PE];done)
 ·refine A 6 ?_
  refine bD fun r4 hr4=>?_
  refine A 20 ?_
  refine lP (E:=fun (s : (List Pm) × Int) (g : Nat × Nat × Nat × Nat × Nat)=>[(2,.optr 2 g.1 0 0),(3,.optr 3 g.2.1 0 0),(4,.optr 4 g.2.2.1 0 0),(7,.osl 7 g.2.2.2.1 0 r4.length),(8,.optr 8 g.2.2.2.2 0 0),(9,.int .i64 s.2)]) (O:=fun s g=>[(2,some (g.1,⟨false,true,3,40,[.agg [.int .i64 f1.Params,.sl (f1.Slots.map Po),.sl (f1.Code.map Pn)]]⟩)),(3,some (g.2.1,⟨false,true,2,104,[.agg [.sl (r2.To.map Pa),.sl (r2.Keep.map D.bool)]]⟩)),(4,some (g.2.2.1,⟨false,true,3,40,[.agg [.int .i64 0,.nils,.nils]]⟩)),(7,some (g.2.2.2.1,⟨false,false,1,3,r4.map Pa⟩)),(8,some (g.2.2.2.2,⟨false,true,3,40,[.agg [.int .i64 f1.Params,.sl (s.1.map Po),.nils]]⟩))]) (body:=fun s=>Zv r4 f1 r2 s.1 s.2) (s:=([],0)) (_,_,_,_,_) ((Abq [] trivial ⟨(PF r),(PF r),(PF r),(PF r),(PF r),(PF r),trivial⟩ ⟨(.inl r),(.inl r),(.inl r),(.inl r),(.inr ⟨_,_,_,_,r,r,r,r,ZT r ⟨(UY r),(XS Po r),(UY r),trivial⟩⟩),trivial⟩))<|?_
  rintro ⟨out5,i6⟩ ⟨v2x1,v3x1,v4x1,v7x1,v8x1⟩ nn
  try dsimp only
  unfold Zv
  refine A 9 ?_
  refine cD r ?_ ?_
  ·refine A 2 ?_
   refine bC (E:=fun (_s : (List Pm)) (g : Nat × Nat × Nat × Nat × Nat × Nat)=>[(2,.optr 2 g.1 0 0),(3,.optr 3 g.2.1 0 0),(4,.optr 4 g.2.2.1 0 0),(7,.osl 7 g.2.2.2.1 0 r4.length),(8,.optr 8 g.2.2.2.2.1 0 0),(9,.int .i64 i6)]) (O:=fun s g=>[(2,some (g.1,⟨false,true,3,40,[.agg [.int .i64 f1.Params,.sl (f1.Slots.map Po),.sl (f1.Code.map Pn)]]⟩)),(3,some (g.2.1,⟨false,true,2,104,[.agg [.sl (r2.To.map Pa),.sl (r2.Keep.map D.bool)]]⟩)),(4,some (g.2.2.1,⟨false,true,3,40,[.agg [.int .i64 0,.nils,.nils]]⟩)),(7,some (g.2.2.2.1,⟨false,false,1,3,r4.map Pa⟩)),(8,some (g.2.2.2.2.1,⟨false,true,3,40,[.agg [.int .i64 f1.Params,.osl 13 g.2.2.2.2.2 0 s.length,.nils]]⟩)),(13,some (g.2.2.2.2.2,⟨false,false,2,54,s.map Po⟩))]) (j:=fun s=>Zw i6 s) ?_ ?_
   ·refine A 7 ?_
    refine bD fun used_e8 hused_e8=>?_
    refine A 1 ?_
    refine bD fun x_x9 hx_x9=>?_
    refine A 13 ?_
    refine bD fun used_e10 hused_e10=>?_
    refine A 1 ?_
    refine bD fun r11 hr11=>?_
    refine A 11 ?_
    refine lP (E:=fun (s : Int × Int) (g : Nat × Nat × Nat × Nat × Nat × Nat × Nat)=>[(2,.optr 2 g.1 0 0),(3,.optr 3 g.2.1 0 0),(4,.optr 4 g.2.2.1 0 0),(7,.osl 7 g.2.2.2.1 0 r4.length),(8,.optr 8 g.2.2.2.2.1 0 0),(9,.int .i64 i6),(10,.optr 10 g.2.2.2.2.2.1 0 0),(11,.osl 11 g.2.2.2.2.2.2 0 r11.length),(12,.int .i64 s.2)]) (O:=fun s g=>[(2,some (g.1,⟨false,true,3,40,[.agg [.int .i64 f1.Params,.sl (f1.Slots.map Po),.sl (f1.Code.map Pn)]]⟩)),(3,some (g.2.1,⟨false,true,2,104,[.agg [.sl (r2.To.map Pa),.sl (r2.Keep.map D.bool)]]⟩)),(4,some (g.2.2.1,⟨false,true,3,40,[.agg [.int .i64 0,.nils,.nils]]⟩)),(7,some (g.2.2.2.1,⟨false,false,1,3,r4.map Pa⟩)),(8,some (g.2.2.2.2.1,⟨false,true,3,40,[.agg [.int .i64 f1.Params,.sl (out5.map Po),.nils]]⟩)),(10,some (g.2.2.2.2.2.1,⟨false,true,2,54,[.agg [.int .i64 x_x9.Size,.int .i64 s.1]]⟩)),(11,some (g.2.2.2.2.2.2,⟨false,false,1,3,r11.map Pa⟩))]) (body:=fun s=>WH r11 f1 out5 x_x9 i6 s.1 s.2) (s:=(x_x9.Align,0)) (_,_,_,_,_,_,_) ((hE ⟨rfl,r,r,r,r,r,r,r,r,trivial⟩ ⟨rfl,r,r,r,r,r,r,trivial⟩))<|?_
    rintro ⟨s12,k13⟩ ⟨v2x2,v3x2,v4x2,v7x2,v8x2,v10x2,v11x2⟩ nn
    try dsimp only
    unfold WH
    refine A 9 ?_
    refine cD r ?_ ?_
    ·exact B
    ·refine A 11 ?_
     refine bS ([(Pm.mk x_x9.Size s12)] : List Pm) Po r r r (by simp) r r r<|?_
     exact B
   ·rintro slots7 ⟨v2x3,v3x3,v4x3,v7x3,v8x3,v13x3⟩ nn
    try dsimp only
    unfold Zw
    refine A 5 ?_
    exact wf [13] fun _=>B
  ·refine A 9 ?_
   refine bD fun r16 hr16=>?_
   refine A 2 ?_
   refine bD fun r17 hr17=>?_
   refine A 12 ?_
   refine lP (E:=fun (s : (List OZ) × Int) (g : Nat × Nat × Nat × Nat × Nat × Nat)=>[(2,.optr 2 g.1 0 0),(3,.optr 3 g.2.1 0 0),(4,.optr 4 g.2.2.1 0 0),(8,.optr 8 g.2.2.2.1 0 0),(14,.osl 14 g.2.2.2.2.1 0 r16.length),(15,.osl 15 g.2.2.2.2.2 0 r17.length),(16,.int .i64 s.2)]) (O:=fun s g=>[(2,some (g.1,⟨false,true,3,40,[.agg [.int .i64 f1.Params,.sl (f1.Slots.map Po),.sl (f1.Code.map Pn)]]⟩)),(3,some (g.2.1,⟨false,true,2,104,[.agg [.sl (r2.To.map Pa),.sl (r2.Keep.map D.bool)]]⟩)),(4,some (g.2.2.1,⟨false,true,3,40,[.agg [.int .i64 0,.nils,.nils]]⟩)),(8,some (g.2.2.2.1,⟨false,true,3,40,[.agg [.int .i64 f1.Params,.sl (out5.map Po),.sl (s.1.map Pn)]]⟩)),(14,some (g.2.2.2.2.1,⟨false,false,1,3,r16.map Pa⟩)),(15,some (g.2.2.2.2.2,⟨false,false,1,3,r17.map Pa⟩))]) (body:=fun s=>WI f1 r2 r16 r17 out5 s.1 s.2) (s:=([],0)) (_,_,_,_,_,_) ((Abq [] trivial ⟨(PF r),(PF r),(PF r),(PF r),(PF r),(PF r),(PF r),trivial⟩ ⟨(.inl r),(.inl r),(.inl r),(.inr ⟨_,_,_,_,r,r,r,r,ZT r ⟨(UY r),(UY r),(XS Pn r),trivial⟩⟩),(.inl r),(.inl r),trivial⟩))<|?_
   rintro ⟨out18,k19⟩ ⟨v2x4,v3x4,v4x4,v8x4,v14x4,v15x4⟩ nn
   try dsimp only
   unfold WI
   refine A 10 ?_
   refine cD r ?_ ?_
   ·refine A 10 ?_
    refine bD fun x_x20 hx_x20=>?_
    refine A 5 ?_
    refine cD r ?_ ?_
    ·exact B
    ·refine A 7 ?_
     refine bD fun x_x21 hx_x21=>?_
     refine A 3 ?_
     refine bD fun r22 hr22=>?_
     refine A 5 ?_
     refine sC (E:=fun (_s : Int × Int) (g : Nat × Nat × Nat × Nat × Nat × Nat × Nat)=>[(2,.optr 2 g.1 0 0),(3,.optr 3 g.2.1 0 0),(4,.optr 4 g.2.2.1 0 0),(8,.optr 8 g.2.2.2.1 0 0),(14,.osl 14 g.2.2.2.2.1 0 r16.length),(15,.osl 15 g.2.2.2.2.2.1 0 r17.length),(16,.int .i64 k19),(17,.optr 17 g.2.2.2.2.2.2 0 0)]) (O:=fun s g=>[(2,some (g.1,⟨false,true,3,40,[.agg [.int .i64 f1.Params,.sl (f1.Slots.map Po),.sl (f1.Code.map Pn)]]⟩)),(3,some (g.2.1,⟨false,true,2,104,[.agg [.sl (r2.To.map Pa),.sl (r2.Keep.map D.bool)]]⟩)),(4,some (g.2.2.1,⟨false,true,3,40,[.agg [.int .i64 0,.nils,.nils]]⟩)),(8,some (g.2.2.2.1,⟨false,true,3,40,[.agg [.int .i64 f1.Params,.sl (out5.map Po),.sl (out18.map Pn)]]⟩)),(14,some (g.2.2.2.2.1,⟨false,false,1,3,r16.map Pa⟩)),(15,some (g.2.2.2.2.2.1,⟨false,false,1,3,r17.map Pa⟩)),(17,some (g.2.2.2.2.2.2,⟨false,true,5,50,[.agg [.int .i64 r22.Op,.int .i64 s.1,.int .i64 s.2,.int .i64 r22.C,.int .u64 r22.Imm]]⟩))]) (j:=fun s=>Te out18 r22 k19 s.1 s.2) ?_ ?_
     ·exact B
     ·rintro ⟨x23,x24⟩ ⟨v2x5,v3x5,v4x5,v8x5,v14x5,v15x5,v17x5⟩ nn
      try dsimp only
      unfold Te
      refine A 6 ?_
      refine bS ([(OZ.mk r22.Op x23 x24 r22.C r22.Imm)] : List OZ) Pn r r r (by simp) r r r<|?_
      refine A 16 ?_
      exact wf [18] fun _=>B
   ·exact B

def Ajx (b : (List (List Int)) × Int) : D:=.tup [.sl (b.1.map (eL Pa)),.int .i64 b.2]
noncomputable def AbQ : Dw.Spec:=Pf [] .val Ql Qk (fun a=>WE a.1 a.2) Ajx noE
theorem AdE : Pd Tryz.prog 22 AbQ:=by
 refine fn2 2 (Pk (l:=[(44,Acl)]) (by simp [AeC])) Tryz.func22<|?_
 intro a
 unfold WE
 exact B

def XX (a : (List (List Int)) × Int) : List D:=[.sl (a.1.map (eL Pa)),.int .i64 a.2]
def XW (ds : List D) : (List (List Int)) × Int:=((uL (uL uI)) (ds.getD 0 .top),uI (ds.getD 1 .top))
theorem Ajt (a : (List (List Int)) × Int) : XW (XX a) = a:=by simp [XW,XX,uI,PV (u:=(uL uI)) (en:=(eL Pa)) (PV (u:=uI) (en:=Pa) (fun _=>rfl))]
instance : Px XX XW:=⟨Ajt⟩
def AkI (b : Bool) : D:=.bool b
noncomputable def Afo : Dw.Spec:=Pf [] .ground XX XW (fun a=>VS a.1 a.2) AkI noE
theorem Aju : Pd Tryz.prog 46 Afo:=by
 refine fn2 2 (Pk (l:=[(71,Aci),(15,XG)]) (by simp [Aex,YC])) Tryz.func46<|?_
 rintro ⟨g1,n2⟩
 unfold VS
 refine A 14 ?_
 refine cD r ?_ ?_
 ·exact B
 ·refine A 9 ?_
  refine lP (E:=fun (s : Int) (_g : Unit)=>[(0,.sl (g1.map (eL Pa))),(1,.int .i64 n2),(5,.int .i64 s)]) (O:=fun _ _=>[]) (body:=fun s=>Qm n2 g1 s) (s:=0) () ((hE ⟨rfl,r,r,trivial⟩ trivial))<|?_
  rintro x3 ⟨⟩ nn
  try dsimp only
  unfold Qm
  refine A 8 ?_
  refine cD r ?_ ?_
  ·refine A 2 ?_
   refine bC (E:=fun (s : (List Int) × (List Int) × Bool) (_g : Unit)=>[(0,.sl (g1.map (eL Pa))),(1,.int .i64 n2),(5,.int .i64 x3),(24,.sl (g1.map (eL Pa))),(25,.int .i64 x3),(26,.fptr (.sl (s.1.map Pa)) 0),(27,.sl (s.2.1.map Pa)),(28,.int .i64 x3),(29,.bool s.2.2)]) (O:=fun _ _=>[]) (j:=fun s=>WC x3 s.1 s.2.1 s.2.2) ?_ ?_
   ·refine sC (E:=fun (s : (List Int) × (List Int) × Bool) (_g : Unit)=>[(0,.sl (g1.map (eL Pa))),(1,.int .i64 n2),(5,.int .i64 x3),(24,.sl (g1.map (eL Pa))),(25,.int .i64 x3),(26,.fptr (.sl (s.1.map Pa)) 0),(27,.sl (s.2.1.map Pa)),(28,.int .i64 x3),(29,.bool s.2.2)]) (O:=fun _ _=>[]) (j:=fun s=>Uv g1 x3 n2 s.1 s.2.1 s.2.2) ?_ ?_
    ·exact B
    ·rintro ⟨x7,x8,x9⟩ ⟨⟩ nn
     try dsimp only
     unfold Uv
     refine A 6 ?_
     refine lP (E:=fun (s : Int) (_g : Unit)=>[(0,.sl (g1.map (eL Pa))),(1,.int .i64 n2),(5,.int .i64 x3),(6,.int .i64 s),(24,.sl (g1.map (eL Pa))),(25,.int .i64 x3),(26,.fptr (.sl (x7.map Pa)) 0),(27,.sl (x8.map Pa)),(28,.int .i64 x3),(29,.bool x9)]) (O:=fun _ _=>[]) (body:=fun s=>RA g1 x3 n2 x7 x8 x9 s) (s:=0) () ((hE ⟨rfl,r,r,r,r,r,r,r,r,r,trivial⟩ trivial))<|?_
     rintro i14 ⟨⟩ nn
     try dsimp only
     unfold RA
     exact B
   ·rintro ⟨x4,x5,x6⟩ ⟨⟩ nn
    try dsimp only
    unfold WC
    exact B
  ·exact B

def Xn (a : Pm × Pm) : List D:=[Po a.1,Po a.2]
def Xm (ds : List D) : Pm × Pm:=(Yg (ds.getD 0 .top),Yg (ds.getD 1 .top))
theorem AiI (a : Pm × Pm) : Xm (Xn a) = a:=by simp [Xm,Xn]
instance : Px Xn Xm:=⟨AiI⟩
def AjJ (b : Bool) : D:=.bool b
noncomputable def AeE : Dw.Spec:=Pf [] .ground Xn Xm (fun a=>YH a.1 a.2) AjJ noE
theorem AiJ : Pd Tryz.prog 72 AeE:=by
 refine fn2 2 (Pv) Tryz.func72<|?_
 intro a
 unfold YH
 exact B

end Go.Proofs.YtnldnldmgceooaaGreatDoor
