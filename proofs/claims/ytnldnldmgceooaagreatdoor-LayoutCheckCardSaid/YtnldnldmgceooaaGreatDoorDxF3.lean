/-
  Programs on typed data, and the proofs that the code does what they say; written by a program (dx.py).
-/
import Derived.Test.YtnldnldmgceooaaGreatDoorProg
import Derived.Test.YtnldnldmgceooaaGreatDoorDd
import Derived.KernelRfl
import Derived.Test.YtnldnldmgceooaaGreatDoorDxP
import Derived.Test.YtnldnldmgceooaaGreatDoorDxF2
namespace Go.Proofs.YtnldnldmgceooaaGreatDoor
open Go Go.Dw Go.Proofs
set_option maxRecDepth 100000
set_option maxHeartbeats 4000000
open Go.Dw renaming QU → bD,PN → cK,AcW → bS,Ue → sE,Acy → cD,Aah → hE,Aez → lP,AaZ → sC,Zg → bC,rf → r
def Ald (b : Int × Int × Bool) : D:=.tup [.int .i64 b.1,.int .i64 b.2.1,.bool b.2.2]
noncomputable def AfG : Dw.Spec:=Pf [] .ground Ql Qk (fun a=>ZO a.1 a.2) Ald noE
theorem AjN : Pd Tryz.prog 61 AfG:=by
 refine fn2 2 (Pk (l:=[(62,Acw),(87,AdR)]) (by simp [AeV,Aij])) Tryz.func61<|?_
 rintro ⟨f1,l2⟩
 unfold ZO
 refine A 14 ?_
 refine bD fun r3 hr3=>?_
 refine A 4 ?_
 refine cD r ?_ ?_
 ·exact B
 ·refine A 9 ?_
  refine lP (E:=fun (s : Int) (g : Nat × Nat)=>[(2,.optr 2 g.1 0 0),(3,.optr 3 g.2 0 0),(7,.int .i64 s)]) (O:=fun _ g=>[(2,some (g.1,⟨false,true,3,40,[.agg [.int .i64 f1.Params,.sl (f1.Slots.map Pn),.sl (f1.Code.map Pm)]]⟩)),(3,some (g.2,⟨false,true,1,29,[.agg [.sl (l2.Out.map (eL OZ))]]⟩))]) (body:=fun s=>YT f1 l2 s) (s:=0) (_,_) ((hE ⟨rfl,r,r,trivial⟩ ⟨rfl,r,trivial⟩))<|?_
  rintro k4 ⟨v2x1,v3x1⟩ nn
  try dsimp only
  unfold YT
  exact B

def Alc (b : Int) : D:=.int .i64 b
noncomputable def Aan : Dw.Spec:=Pf [] .ground Ql Qk (fun a=>VN a.1 a.2) Alc noE
theorem AbX : Pd Tryz.prog 36 Aan:=by
 refine fn2 2 (Pk (l:=[(61,AfG),(62,Acw)]) (by simp [AjN,AeV])) Tryz.func36<|?_
 intro a
 unfold VN
 exact B

def XI (a : OX × Pg × Bool) : List D:=[PI a.1,Qi a.2.1,.bool a.2.2]
def XH (ds : List D) : OX × Pg × Bool:=(Ss (ds.getD 0 .top),UW (ds.getD 1 .top),uBo (ds.getD 2 .top))
theorem AjT (a : OX × Pg × Bool) : XH (XI a) = a:=by simp [XH,XI,uBo]
instance : Px XI XH:=⟨AjT⟩
def Alk (b : (List (List Int)) × Int) : D:=.tup [.sl (b.1.map (eL OZ)),.int .i64 b.2]
noncomputable def Acz : Dw.Spec:=Pf [] .val XI XH (fun a=>Xt a.1 a.2.1 a.2.2) Alk noE
theorem AeX : Pd Tryz.prog 44 Acz:=by
 refine fn2 3 (Pk (l:=[(36,Aan),(14,TG),(32,Xo)]) (by simp [AbX,UJ,Yp])) Tryz.func44<|?_
 rintro ⟨f1,l2,strict3⟩
 unfold Xt
 refine A 13 ?_
 refine bD fun r4 hr4=>?_
 refine A 10 ?_
 refine cD r ?_ ?_
 ·exact B
 ·refine A 7 ?_
  refine cK fun hq=>AdU (α:=Int) r r r hq r<|?_
  refine A 2 ?_
  refine VC (E:=[(2,.bool strict3),(3,.optr 3 _ 0 0),(4,.optr 4 _ 0 0),(9,.osl 9 _ 0 ((List.replicate (f1.Slots.length : Int).toNat ([] : (List Int))).length))]) (O:=[(3,some (_,⟨false,true,3,40,[.agg [.int .i64 f1.Params,.sl (f1.Slots.map Pn),.sl (f1.Code.map Pm)]]⟩)),(4,some (_,⟨false,true,1,29,[.agg [.sl (l2.Out.map (eL OZ))]]⟩)),(9,some (_,⟨false,false,1,30,(List.replicate (f1.Slots.length : Int).toNat ([] : (List Int))).map (eL OZ)⟩))]) ((AfM (g:=9) r (Aht (l:=List.replicate (f1.Slots.length : Int).toNat ([] : (List Int))) OZ (fun _ h=>List.eq_of_mem_replicate h)) (hE ⟨rfl,r,r,r,trivial⟩ ⟨rfl,r,r,trivial⟩))) fun nn=>?_
  refine A 7 ?_
  refine lP (E:=fun (s : (List (List Int)) × Int) (g : Nat × Nat × Nat)=>[(2,.bool strict3),(3,.optr 3 g.1 0 0),(4,.optr 4 g.2.1 0 0),(9,.osl 9 g.2.2 0 s.1.length),(10,.int .i64 s.2)]) (O:=fun s g=>[(3,some (g.1,⟨false,true,3,40,[.agg [.int .i64 f1.Params,.sl (f1.Slots.map Pn),.sl (f1.Code.map Pm)]]⟩)),(4,some (g.2.1,⟨false,true,1,29,[.agg [.sl (l2.Out.map (eL OZ))]]⟩)),(9,some (g.2.2,⟨false,false,1,30,s.1.map (eL OZ)⟩))]) (body:=fun s=>Zb f1 l2 strict3 s.1 s.2) (s:=(List.replicate (f1.Slots.length : Int).toNat ([] : (List Int)),0)) (_,_,_) ((hE ⟨rfl,r,r,r,r,trivial⟩ ⟨rfl,r,r,trivial⟩))<|?_
  rintro ⟨out5,k6⟩ ⟨v3x1,v4x1,v9x1⟩ nn
  try dsimp only
  unfold Zb
  refine A 10 ?_
  refine cD r ?_ ?_
  ·refine A 2 ?_
   refine bC (E:=fun (s : Int × Int × Int × Int × Int × (List (List Int))) (g : Nat × Nat × Nat)=>[(2,.bool strict3),(3,.optr 3 g.1 0 0),(4,.optr 4 g.2.1 0 0),(9,.osl 9 g.2.2 0 s.2.2.2.2.2.length),(10,.int .i64 k6)]) (O:=fun s g=>[(3,some (g.1,⟨false,true,3,40,[.agg [.int .i64 f1.Params,.sl (f1.Slots.map Pn),.sl (f1.Code.map Pm)]]⟩)),(4,some (g.2.1,⟨false,true,1,29,[.agg [.sl (l2.Out.map (eL OZ))]]⟩)),(9,some (g.2.2,⟨false,false,1,30,s.2.2.2.2.2.map (eL OZ)⟩))]) (j:=fun s=>SV k6 s.1 s.2.1 s.2.2.1 s.2.2.2.1 s.2.2.2.2.1 s.2.2.2.2.2) ?_ ?_
   ·refine A 5 ?_
    refine bD fun x_x13 hx_x13=>?_
    refine A 9 ?_
    refine bD fun r14 hr14=>?_
    refine A 8 ?_
    refine sC (E:=fun (_s : Unit) (g : Nat × Nat × Nat × Nat)=>[(2,.bool strict3),(3,.optr 3 g.1 0 0),(4,.optr 4 g.2.1 0 0),(9,.osl 9 g.2.2.1 0 out5.length),(10,.int .i64 k6),(11,.optr 11 g.2.2.2 0 0),(12,.int .i64 r14.1),(13,.bool r14.2)]) (O:=fun _ g=>[(3,some (g.1,⟨false,true,3,40,[.agg [.int .i64 f1.Params,.sl (f1.Slots.map Pn),.sl (f1.Code.map Pm)]]⟩)),(4,some (g.2.1,⟨false,true,1,29,[.agg [.sl (l2.Out.map (eL OZ))]]⟩)),(9,some (g.2.2.1,⟨false,false,1,30,out5.map (eL OZ)⟩)),(11,some (g.2.2.2,⟨false,true,5,50,[.agg [.int .i64 x_x13.Op,.int .i64 x_x13.A,.int .i64 x_x13.B,.int .i64 x_x13.C,.int .u64 x_x13.Imm]]⟩))]) (j:=fun _=>Uv l2 k6 r14 strict3 x_x13 out5) ?_ ?_
    ·exact B
    ·rintro ⟨⟩ ⟨v3x2,v4x2,v9x2,v11x2⟩ nn
     try dsimp only
     unfold Uv
     refine A 6 ?_
     refine lP (E:=fun (s : (List (List Int)) × Int) (g : Nat × Nat × Nat × Nat)=>[(2,.bool strict3),(3,.optr 3 g.1 0 0),(4,.optr 4 g.2.1 0 0),(9,.osl 9 g.2.2.1 0 s.1.length),(10,.int .i64 k6),(11,.optr 11 g.2.2.2 0 0),(12,.int .i64 r14.1),(13,.bool r14.2),(14,.int .i64 s.2)]) (O:=fun s g=>[(3,some (g.1,⟨false,true,3,40,[.agg [.int .i64 f1.Params,.sl (f1.Slots.map Pn),.sl (f1.Code.map Pm)]]⟩)),(4,some (g.2.1,⟨false,true,1,29,[.agg [.sl (l2.Out.map (eL OZ))]]⟩)),(9,some (g.2.2.1,⟨false,false,1,30,s.1.map (eL OZ)⟩)),(11,some (g.2.2.2,⟨false,true,5,50,[.agg [.int .i64 x_x13.Op,.int .i64 x_x13.A,.int .i64 x_x13.B,.int .i64 x_x13.C,.int .u64 x_x13.Imm]]⟩))]) (body:=fun s=>Wu l2 k6 r14 strict3 x_x13 s.1 s.2) (s:=(out5,0)) (_,_,_,_) ((hE ⟨rfl,r,r,r,r,r,r,r,r,trivial⟩ ⟨rfl,r,r,r,trivial⟩))<|?_
     rintro ⟨out15,i16⟩ ⟨v3x3,v4x3,v9x3,v11x3⟩ nn
     try dsimp only
     unfold Wu
     refine sC (E:=fun (_s : Unit) (g : Nat × Nat × Nat × Nat)=>[(2,.bool strict3),(3,.optr 3 g.1 0 0),(4,.optr 4 g.2.1 0 0),(9,.osl 9 g.2.2.1 0 out15.length),(10,.int .i64 k6),(11,.optr 11 g.2.2.2 0 0),(12,.int .i64 r14.1),(13,.bool r14.2),(14,.int .i64 i16),(62,.bool r14.2)]) (O:=fun _ g=>[(3,some (g.1,⟨false,true,3,40,[.agg [.int .i64 f1.Params,.sl (f1.Slots.map Pn),.sl (f1.Code.map Pm)]]⟩)),(4,some (g.2.1,⟨false,true,1,29,[.agg [.sl (l2.Out.map (eL OZ))]]⟩)),(9,some (g.2.2.1,⟨false,false,1,30,out15.map (eL OZ)⟩)),(11,some (g.2.2.2,⟨false,true,5,50,[.agg [.int .i64 x_x13.Op,.int .i64 x_x13.A,.int .i64 x_x13.B,.int .i64 x_x13.C,.int .u64 x_x13.Imm]]⟩))]) (j:=fun _=>Zc l2 k6 i16 r14 out15 strict3 x_x13) ?_ ?_
     ·exact B
     ·rintro ⟨⟩ ⟨v3x4,v4x4,v9x4,v11x4⟩ nn
      try dsimp only
      unfold Zc
      refine A 7 ?_
      refine bD fun x_x18 hx_x18=>?_
      refine A 3 ?_
      refine bD fun x_x19 hx_x19=>?_
      refine A 5 ?_
      refine sC (E:=fun (s : Bool × Bool × Bool × Bool) (g : Nat × Nat × Nat × Nat)=>[(2,.bool strict3),(3,.optr 3 g.1 0 0),(4,.optr 4 g.2.1 0 0),(9,.osl 9 g.2.2.1 0 out15.length),(10,.int .i64 k6),(11,.optr 11 g.2.2.2 0 0),(12,.int .i64 r14.1),(13,.bool r14.2),(14,.int .i64 i16),(15,.int .i64 x_x19),(62,.bool r14.2),(78,.bool strict3),(79,.bool (!strict3)),(80,.bool s.1),(84,.bool s.2.1),(85,.bool s.2.2.1),(90,.bool s.2.2.2)]) (O:=fun _ g=>[(3,some (g.1,⟨false,true,3,40,[.agg [.int .i64 f1.Params,.sl (f1.Slots.map Pn),.sl (f1.Code.map Pm)]]⟩)),(4,some (g.2.1,⟨false,true,1,29,[.agg [.sl (l2.Out.map (eL OZ))]]⟩)),(9,some (g.2.2.1,⟨false,false,1,30,out15.map (eL OZ)⟩)),(11,some (g.2.2.2,⟨false,true,5,50,[.agg [.int .i64 x_x13.Op,.int .i64 x_x13.A,.int .i64 x_x13.B,.int .i64 x_x13.C,.int .u64 x_x13.Imm]]⟩))]) (j:=fun s=>RV r14 out15 x_x19 i16 s.1 s.2.1 s.2.2.1 s.2.2.2) ?_ ?_
      ·exact B
      ·rintro ⟨x20,x21,x22,x23⟩ ⟨v3x5,v4x5,v9x5,v11x5⟩ nn
       try dsimp only
       unfold RV
       refine A 8 ?_
       refine bD fun out_e24 hout_e24=>?_
       refine A 2 ?_
       refine bD fun r25 hr25=>?_
       refine A 4 ?_
       refine bD fun out_e26 hout_e26=>?_
       refine A 2 ?_
       refine bD fun r27 hr27=>?_
       refine A 2 ?_
       refine bD fun out_o28 hout_o28=>sE (l:=out15) (en:=(eL OZ)) (q':=r25) r r r r r r r (by simp) hout_o28 r r r (by simp [PH,cells,eL]) r<|?_
       refine A 1 ?_
       refine bD fun out_o29 hout_o29=>sE (l:=out15.set r14.1.toNat r25) (en:=(eL OZ)) (q':=r27) r r r r r r r (by simp) hout_o29 r r r (by simp [PH,cells,eL]) r<|?_
       exact B
   ·rintro ⟨x7,x8,x9,x10,x11,out12⟩ ⟨v3x6,v4x6,v9x6⟩ nn
    try dsimp only
    unfold SV
    exact B
  ·exact B

def Ali (b : (List (List Int)) × Int) : D:=.tup [.sl (b.1.map (eL OZ)),.int .i64 b.2]
noncomputable def AfI : Dw.Spec:=Pf [] .val Ql Qk (fun a=>ZQ a.1 a.2) Ali noE
theorem AjQ : Pd Tryz.prog 77 AfI:=by
 refine fn2 2 (Pk (l:=[(44,Acz)]) (by simp [AeX])) Tryz.func77<|?_
 intro a
 unfold ZQ
 exact B

def Alj (b : (List PS)) : D:=.sl (b.map TA)
noncomputable def AfJ : Dw.Spec:=Pf [] (.row 2 135) VD VB (fun a=>ZR a) Alj noE
theorem AjR : Pd Tryz.prog 96 AfJ:=by
 refine fn2 1 (Pv) Tryz.func96<|?_
 intro f1
 unfold ZR
 refine A 18 ?_
 refine lP (E:=fun (s : (List PS) × Int) (g : Nat × Nat)=>[(1,.optr 1 g.1 0 0),(3,.osl 3 g.2 0 s.1.length),(4,.int .i64 s.2)]) (O:=fun s g=>[(1,some (g.1,⟨false,true,3,40,[.agg [.int .i64 f1.Params,.sl (f1.Slots.map Pn),.sl (f1.Code.map Pm)]]⟩)),(3,some (g.2,⟨false,false,2,135,s.1.map TA⟩))]) (body:=fun s=>YZ f1 s.1 s.2) (s:=(([] : List PS),0)) (_,_) ((hE ⟨rfl,r,r,trivial⟩ ⟨rfl,r,trivial⟩))<|?_
 rintro ⟨out2,k3⟩ ⟨v1x1,v3x1⟩ nn
 try dsimp only
 unfold YZ
 refine A 10 ?_
 refine cD r ?_ ?_
 ·refine A 2 ?_
  refine bC (E:=fun (s : (List PS)) (g : Nat × Nat)=>[(1,.optr 1 g.1 0 0),(3,.osl 3 g.2 0 s.length),(4,.int .i64 k3)]) (O:=fun s g=>[(1,some (g.1,⟨false,true,3,40,[.agg [.int .i64 f1.Params,.sl (f1.Slots.map Pn),.sl (f1.Code.map Pm)]]⟩)),(3,some (g.2,⟨false,false,2,135,s.map TA⟩))]) (j:=fun s=>Wt k3 s) ?_ ?_
  ·refine A 5 ?_
   refine bD fun x_x5 hx_x5=>?_
   refine A 17 ?_
   refine sC (E:=fun (s : Bool) (g : Nat × Nat × Nat)=>[(1,.optr 1 g.1 0 0),(3,.osl 3 g.2.1 0 out2.length),(4,.int .i64 k3),(6,.optr 6 g.2.2 0 0),(7,.bool s)]) (O:=fun _ g=>[(1,some (g.1,⟨false,true,3,40,[.agg [.int .i64 f1.Params,.sl (f1.Slots.map Pn),.sl (f1.Code.map Pm)]]⟩)),(3,some (g.2.1,⟨false,false,2,135,out2.map TA⟩)),(6,some (g.2.2,⟨false,true,2,135,[.agg [.int .i64 x_x5.A,.int .i64 x_x5.B]]⟩))]) (j:=fun s=>Uu out2 x_x5 k3 s) ?_ ?_
   ·exact B
   ·rintro old6 ⟨v1x2,v3x2,v6x2⟩ nn
    try dsimp only
    unfold Uu
    refine A 7 ?_
    refine lP (E:=fun (s : Bool × Int) (g : Nat × Nat × Nat)=>[(1,.optr 1 g.1 0 0),(3,.osl 3 g.2.1 0 out2.length),(4,.int .i64 k3),(6,.optr 6 g.2.2 0 0),(7,.bool s.1),(8,.int .i64 s.2)]) (O:=fun _ g=>[(1,some (g.1,⟨false,true,3,40,[.agg [.int .i64 f1.Params,.sl (f1.Slots.map Pn),.sl (f1.Code.map Pm)]]⟩)),(3,some (g.2.1,⟨false,false,2,135,out2.map TA⟩)),(6,some (g.2.2,⟨false,true,2,135,[.agg [.int .i64 x_x5.A,.int .i64 x_x5.B]]⟩))]) (body:=fun s=>Za out2 x_x5 k3 s.1 s.2) (s:=(old6,0)) (_,_,_) ((hE ⟨rfl,r,r,r,r,r,trivial⟩ ⟨rfl,r,r,trivial⟩))<|?_
    rintro ⟨old7,i8⟩ ⟨v1x3,v3x3,v6x3⟩ nn
    try dsimp only
    unfold Za
    refine A 9 ?_
    refine cD r ?_ ?_
    ·exact B
    ·refine A 11 ?_
     refine cD r ?_ ?_
     ·refine A 3 ?_
      refine bS ([(PS.mk x_x5.A x_x5.B)] : List PS) TA r r r (by simp) r r r<|?_
      exact B
     ·exact B
  ·rintro out4 ⟨v1x4,v3x4⟩ nn
   try dsimp only
   unfold Wt
   exact B
 ·exact B

def AiZ (b : (List Int)) : D:=.sl (b.map OZ)
noncomputable def Abt : Dw.Spec:=Pf [] (.row 1 3) Re Rc (fun a=>TQ a.1 a.2) AiZ noE
theorem Adt : Pd Tryz.prog 101 Abt:=by
 refine fn2 2 (Pv) Tryz.func101<|?_
 rintro ⟨to1,s2⟩
 unfold TQ
 refine A 17 ?_
 refine lP (E:=fun (s : (List Int) × Int) (g : Nat)=>[(0,.sl (to1.map OZ)),(1,.int .i64 s2),(5,.osl 5 g 0 s.1.length),(6,.int .i64 s.2)]) (O:=fun s g=>[(5,some (g,⟨false,false,1,3,s.1.map OZ⟩))]) (body:=fun s=>WK to1 s2 s.1 s.2) (s:=(([] : List Int),0)) _ ((hE ⟨rfl,r,r,r,trivial⟩ ⟨rfl,trivial⟩))<|?_
 rintro ⟨out3,t4⟩ v5x1 nn
 try dsimp only
 unfold WK
 exact B

def XN (a : (List (List Int)) × (List Int) × Int × Int) : List D:=[.sl (a.1.map (eL OZ)),.sl (a.2.1.map OZ),.int .i64 a.2.2.1,.int .i64 a.2.2.2]
def XM (ds : List D) : (List (List Int)) × (List Int) × Int × Int:=((uL (uL uI)) (ds.getD 0 .top),(uL uI) (ds.getD 1 .top),uI (ds.getD 2 .top),uI (ds.getD 3 .top))
theorem AjW (a : (List (List Int)) × (List Int) × Int × Int) : XM (XN a) = a:=by simp [XM,XN,uI,PV (u:=(uL uI)) (en:=(eL OZ)) (PV (u:=uI) (en:=OZ) (fun _=>rfl)),PV (u:=uI) (en:=OZ) (fun _=>rfl)]
instance : Px XN XM:=⟨AjW⟩
def Aln (b : Bool) : D:=.bool b
noncomputable def AfL : Dw.Spec:=Pf [] .ground XN XM (fun a=>ZU a.1 a.2.1 a.2.2.1 a.2.2.2) Aln noE
theorem AjX : Pd Tryz.prog 97 AfL:=by
 refine fn2 4 (Pk (l:=[(101,Abt),(15,Xq)]) (by simp [Adt,Yq])) Tryz.func97<|?_
 rintro ⟨g1,to2,a3,b4⟩
 unfold ZU
 refine A 9 ?_
 refine bD fun r5 hr5=>?_
 refine A 3 ?_
 refine bD fun r6 hr6=>?_
 refine A 12 ?_
 refine lP (E:=fun (s : Int) (g : Nat × Nat)=>[(0,.sl (g1.map (eL OZ))),(9,.osl 9 g.1 0 r5.length),(10,.osl 10 g.2 0 r6.length),(11,.int .i64 s)]) (O:=fun _ g=>[(9,some (g.1,⟨false,false,1,3,r5.map OZ⟩)),(10,some (g.2,⟨false,false,1,3,r6.map OZ⟩))]) (body:=fun s=>Zh r5 r6 g1 s) (s:=0) (_,_) ((hE ⟨rfl,r,r,r,trivial⟩ ⟨rfl,r,trivial⟩))<|?_
 rintro i7 ⟨v9x1,v10x1⟩ nn
 try dsimp only
 unfold Zh
 refine A 9 ?_
 refine cD r ?_ ?_
 ·refine A 2 ?_
  refine bC (E:=fun (_s : Unit) (g : Nat × Nat)=>[(0,.sl (g1.map (eL OZ))),(9,.osl 9 g.1 0 r5.length),(10,.osl 10 g.2 0 r6.length),(11,.int .i64 i7)]) (O:=fun _ g=>[(9,some (g.1,⟨false,false,1,3,r5.map OZ⟩)),(10,some (g.2,⟨false,false,1,3,r6.map OZ⟩))]) (j:=fun _=>Zj i7) ?_ ?_
  ·refine A 6 ?_
   refine lP (E:=fun (s : Int) (g : Nat × Nat)=>[(0,.sl (g1.map (eL OZ))),(9,.osl 9 g.1 0 r5.length),(10,.osl 10 g.2 0 r6.length),(11,.int .i64 i7),(12,.int .i64 s)]) (O:=fun _ g=>[(9,some (g.1,⟨false,false,1,3,r5.map OZ⟩)),(10,some (g.2,⟨false,false,1,3,r6.map OZ⟩))]) (body:=fun s=>Zi r6 i7 r5 g1 s) (s:=0) (_,_) ((hE ⟨rfl,r,r,r,r,trivial⟩ ⟨rfl,r,trivial⟩))<|?_
   rintro k8 ⟨v9x2,v10x2⟩ nn
   try dsimp only
   unfold Zi
   exact B
  ·rintro ⟨⟩ ⟨v9x3,v10x3⟩ nn
   try dsimp only
   unfold Zj
   exact B
 ·exact B

def VX (a : OX × (List (List Int))) : List D:=[PI a.1,.sl (a.2.map (eL OZ))]
def VW (ds : List D) : OX × (List (List Int)):=(Ss (ds.getD 0 .top),(uL (uL uI)) (ds.getD 1 .top))
theorem Aik (a : OX × (List (List Int))) : VW (VX a) = a:=by simp [VW,VX,PV (u:=(uL uI)) (en:=(eL OZ)) (PV (u:=uI) (en:=OZ) (fun _=>rfl))]
instance : Px VX VW:=⟨Aik⟩
def AiY (b : (List Int)) : D:=.sl (b.map OZ)
noncomputable def AdS : Dw.Spec:=Pf [] (.row 1 3) VX VW (fun a=>Vg a.1 a.2) AiY noE
theorem Ail : Pd Tryz.prog 78 AdS:=by
 refine fn2 2 (Pk (l:=[(96,AfJ),(97,AfL)]) (by simp [AjR,AjX])) Tryz.func78<|?_
 rintro ⟨f1,g2⟩
 unfold Vg
 refine A 18 ?_
 refine lP (E:=fun (s : (List Int) × Int) (g : Nat × Nat)=>[(1,.sl (g2.map (eL OZ))),(2,.optr 2 g.1 0 0),(5,.osl 5 g.2 0 s.1.length),(6,.int .i64 s.2)]) (O:=fun s g=>[(2,some (g.1,⟨false,true,3,40,[.agg [.int .i64 f1.Params,.sl (f1.Slots.map Pn),.sl (f1.Code.map Pm)]]⟩)),(5,some (g.2,⟨false,false,1,3,s.1.map OZ⟩))]) (body:=fun s=>WG f1 g2 s.1 s.2) (s:=(([] : List Int),0)) (_,_) ((hE ⟨rfl,r,r,r,trivial⟩ ⟨rfl,r,trivial⟩))<|?_
 rintro ⟨to3,s4⟩ ⟨v2x1,v5x1⟩ nn
 try dsimp only
 unfold WG
 refine A 10 ?_
 refine cD r ?_ ?_
 ·exact B
 ·refine A 8 ?_
  refine bD fun r5 hr5=>?_
  refine A 11 ?_
  refine lP (E:=fun (s : (List Int) × Int) (g : Nat × Nat)=>[(1,.sl (g2.map (eL OZ))),(5,.osl 5 g.1 0 s.1.length),(7,.osl 7 g.2 0 r5.length),(8,.int .i64 s.2)]) (O:=fun s g=>[(5,some (g.1,⟨false,false,1,3,s.1.map OZ⟩)),(7,some (g.2,⟨false,false,2,135,r5.map TA⟩))]) (body:=fun s=>WH r5 g2 s.1 s.2) (s:=(to3,0)) (_,_) ((hE ⟨rfl,r,r,r,trivial⟩ ⟨rfl,r,trivial⟩))<|?_
  rintro ⟨to6,i7⟩ ⟨v5x2,v7x2⟩ nn
  try dsimp only
  unfold WH
  refine A 9 ?_
  refine cD r ?_ ?_
  ·refine A 2 ?_
   refine bC (E:=fun (s : (List Int)) (g : Nat × Nat)=>[(1,.sl (g2.map (eL OZ))),(5,.osl 5 g.1 0 s.length),(7,.osl 7 g.2 0 r5.length),(8,.int .i64 i7)]) (O:=fun s g=>[(5,some (g.1,⟨false,false,1,3,s.map OZ⟩)),(7,some (g.2,⟨false,false,2,135,r5.map TA⟩))]) (j:=fun s=>Rf i7 s) ?_ ?_
   ·refine A 6 ?_
    refine Uo r r r (by decide)<|bD fun moves_e9 hmoves_e9=>?_
    refine A 2 ?_
    refine bD fun to_e10 hto_e10=>?_
    refine A 5 ?_
    refine Uo r r r (by decide)<|bD fun moves_e11 hmoves_e11=>?_
    refine A 2 ?_
    refine bD fun to_e12 hto_e12=>?_
    refine A 5 ?_
    refine sC (E:=fun (s : Bool × Bool) (g : Nat × Nat)=>[(1,.sl (g2.map (eL OZ))),(5,.osl 5 g.1 0 to6.length),(7,.osl 7 g.2 0 r5.length),(8,.int .i64 i7),(9,.int .i64 to_e10),(10,.int .i64 to_e12),(51,.sl (g2.map (eL OZ))),(52,.osl 5 g.1 0 to6.length),(53,.int .i64 to_e10),(54,.int .i64 to_e12),(55,.bool s.1),(56,.bool s.2)]) (O:=fun _ g=>[(5,some (g.1,⟨false,false,1,3,to6.map OZ⟩)),(7,some (g.2,⟨false,false,2,135,r5.map TA⟩))]) (j:=fun s=>WJ to_e10 to_e12 i7 to6 s.1 s.2) ?_ ?_
    ·exact B
    ·rintro ⟨x13,x14⟩ ⟨v5x3,v7x3⟩ nn
     try dsimp only
     unfold WJ
     refine A 6 ?_
     refine lP (E:=fun (s : (List Int) × Int) (g : Nat × Nat)=>[(1,.sl (g2.map (eL OZ))),(5,.osl 5 g.1 0 s.1.length),(7,.osl 7 g.2 0 r5.length),(8,.int .i64 i7),(9,.int .i64 to_e10),(10,.int .i64 to_e12),(11,.int .i64 s.2),(51,.sl (g2.map (eL OZ))),(52,.osl 5 g.1 0 s.1.length),(53,.int .i64 to_e10),(54,.int .i64 to_e12),(55,.bool x13),(56,.bool x14)]) (O:=fun s g=>[(5,some (g.1,⟨false,false,1,3,s.1.map OZ⟩)),(7,some (g.2,⟨false,false,2,135,r5.map TA⟩))]) (body:=fun s=>WI to_e10 to_e12 i7 s.1 s.2) (s:=(to6,0)) (_,_) ((hE ⟨rfl,r,r,r,r,r,r,r,r,r,r,r,r,trivial⟩ ⟨rfl,r,trivial⟩))<|?_
     rintro ⟨to16,s17⟩ ⟨v5x4,v7x4⟩ nn
     try dsimp only
     unfold WI
     refine A 9 ?_
     refine cD r ?_ ?_
     ·refine A 4 ?_
      refine sC (E:=fun (s : Bool) (g : Nat × Nat)=>[(1,.sl (g2.map (eL OZ))),(5,.osl 5 g.1 0 to16.length),(7,.osl 7 g.2 0 r5.length),(8,.int .i64 i7),(9,.int .i64 to_e10),(10,.int .i64 to_e12),(11,.int .i64 s17),(51,.sl (g2.map (eL OZ))),(52,.osl 5 g.1 0 to16.length),(53,.int .i64 to_e10),(54,.int .i64 to_e12),(55,.bool x13),(56,.bool x14),(77,.bool s)]) (O:=fun _ g=>[(5,some (g.1,⟨false,false,1,3,to16.map OZ⟩)),(7,some (g.2,⟨false,false,2,135,r5.map TA⟩))]) (j:=fun s=>SW s17 to16 to_e10 to_e12 s) ?_ ?_
      ·exact B
      ·rintro x18 ⟨v5x5,v7x5⟩ nn
       try dsimp only
       unfold SW
       exact B
     ·exact B
   ·rintro to8 ⟨v5x6,v7x6⟩ nn
    try dsimp only
    unfold Rf
    exact B
  ·exact B

def Amv (b : Bool) : D:=.bool b
noncomputable def AgJ : Dw.Spec:=Pf [] .ground TZ TY (fun a=>Abu a.1 a.2.1 a.2.2) Amv noE
theorem Alu : Pd Tryz.prog 98 AgJ:=by
 refine fn2 3 (Pk (l:=[(14,TG),(15,Xq)]) (by simp [UJ,Yq])) Tryz.func98<|?_
 intro a
 unfold Abu
 exact B

def Zm (a : OX × Pg × (List Int)) : List D:=[PI a.1,Qi a.2.1,.sl (a.2.2.map OZ)]
def Zl (ds : List D) : OX × Pg × (List Int):=(Ss (ds.getD 0 .top),UW (ds.getD 1 .top),(uL uI) (ds.getD 2 .top))
theorem Alo (a : OX × Pg × (List Int)) : Zl (Zm a) = a:=by simp [Zl,Zm,PV (u:=uI) (en:=OZ) (fun _=>rfl)]
instance : Px Zm Zl:=⟨Alo⟩
def Amu (b : (List Bool)) : D:=.sl (b.map D.bool)
noncomputable def AgI : Dw.Spec:=Pf [] (.row 1 4) Zm Zl (fun a=>Zk a.1 a.2.1 a.2.2) Amu noE
theorem Alr : Pd Tryz.prog 79 AgI:=by
 refine fn2 3 (Pk (l:=[(98,AgJ)]) (by simp [Alu])) Tryz.func79<|?_
 rintro ⟨f1,l2,to3⟩
 unfold Zk
 refine A 19 ?_
 refine lP (E:=fun (s : (List Bool) × Int) (g : Nat × Nat × Nat)=>[(2,.sl (to3.map OZ)),(3,.optr 3 g.1 0 0),(4,.optr 4 g.2.1 0 0),(7,.osl 7 g.2.2 0 s.1.length),(8,.int .i64 s.2)]) (O:=fun s g=>[(3,some (g.1,⟨false,true,3,40,[.agg [.int .i64 f1.Params,.sl (f1.Slots.map Pn),.sl (f1.Code.map Pm)]]⟩)),(4,some (g.2.1,⟨false,true,1,29,[.agg [.sl (l2.Out.map (eL OZ))]]⟩)),(7,some (g.2.2,⟨false,false,1,4,s.1.map D.bool⟩))]) (body:=fun s=>Aao f1 l2 to3 s.1 s.2) (s:=(([] : List Bool),0)) (_,_,_) ((hE ⟨rfl,r,r,r,r,trivial⟩ ⟨rfl,r,r,trivial⟩))<|?_
 rintro ⟨out4,k5⟩ ⟨v3x1,v4x1,v7x1⟩ nn
 try dsimp only
 unfold Aao
 exact B

def XL (a : OX × (List Int)) : List D:=[PI a.1,.sl (a.2.map OZ)]
def XJ (ds : List D) : OX × (List Int):=(Ss (ds.getD 0 .top),(uL uI) (ds.getD 1 .top))
theorem AjU (a : OX × (List Int)) : XJ (XL a) = a:=by simp [XJ,XL,PV (u:=uI) (en:=OZ) (fun _=>rfl)]
instance : Px XL XJ:=⟨AjU⟩
def Alm (b : Bool) : D:=.bool b
noncomputable def AfK : Dw.Spec:=Pf [] .ground XL XJ (fun a=>ZS a.1 a.2) Alm noE
theorem AjV : Pd Tryz.prog 121 AfK:=by
 refine fn2 2 (Pv) Tryz.func121<|?_
 rintro ⟨f1,to2⟩
 unfold ZS
 refine A 17 ?_
 refine cD r ?_ ?_
 ·exact B
 ·refine A 9 ?_
  refine lP (E:=fun (s : Int) (g : Nat)=>[(1,.sl (to2.map OZ)),(2,.optr 2 g 0 0),(5,.int .i64 s)]) (O:=fun _ g=>[(2,some (g,⟨false,true,3,40,[.agg [.int .i64 f1.Params,.sl (f1.Slots.map Pn),.sl (f1.Code.map Pm)]]⟩))]) (body:=fun s=>Zd to2 f1 s) (s:=0) _ ((hE ⟨rfl,r,r,trivial⟩ ⟨rfl,trivial⟩))<|?_
  rintro s3 v2x1 nn
  try dsimp only
  unfold Zd
  refine A 9 ?_
  refine cD r ?_ ?_
  ·exact B
  ·refine A 12 ?_
   refine lP (E:=fun (s : Int) (g : Nat)=>[(1,.sl (to2.map OZ)),(2,.optr 2 g 0 0),(6,.int .i64 s)]) (O:=fun _ g=>[(2,some (g,⟨false,true,3,40,[.agg [.int .i64 f1.Params,.sl (f1.Slots.map Pn),.sl (f1.Code.map Pm)]]⟩))]) (body:=fun s=>Ze to2 f1 s) (s:=0) _ ((hE ⟨rfl,r,r,trivial⟩ ⟨rfl,trivial⟩))<|?_
   rintro s6 v2x2 nn
   try dsimp only
   unfold Ze
   exact B

def TJ (a : OX × Pw) : List D:=[PI a.1,AeI a.2]
def TI (ds : List D) : OX × Pw:=(Ss (ds.getD 0 .top),Afd (ds.getD 1 .top))
theorem AjZ (a : OX × Pw) : TI (TJ a) = a:=by simp [TI,TJ]
instance : Px TJ TI:=⟨AjZ⟩
def Alv (b : Int) : D:=.int .i64 b
noncomputable def AfP : Dw.Spec:=Pf [] .ground TJ TI (fun a=>ZV a.1 a.2) Alv noE
theorem Aka : Pd Tryz.prog 99 AfP:=by
 refine fn2 2 (Pk (l:=[(121,AfK),(37,ZG)]) (by simp [AjV,Acm])) Tryz.func99<|?_
 rintro ⟨f1,r2⟩
 unfold ZV
 refine A 7 ?_
 refine sC (E:=fun (_s : Unit) (g : Nat × Nat)=>[(2,.optr 2 g.1 0 0),(3,.optr 3 g.2 0 0)]) (O:=fun _ g=>[(2,some (g.1,⟨false,true,3,40,[.agg [.int .i64 f1.Params,.sl (f1.Slots.map Pn),.sl (f1.Code.map Pm)]]⟩)),(3,some (g.2,⟨false,true,2,104,[.agg [.sl (r2.To.map OZ),.sl (r2.Keep.map D.bool)]]⟩))]) (j:=fun _=>Zq f1 r2) ?_ ?_
 ·exact B
 ·rintro ⟨⟩ ⟨v2x1,v3x1⟩ nn
  try dsimp only
  unfold Zq
  refine A 7 ?_
  refine lP (E:=fun (s : Int) (g : Nat × Nat)=>[(2,.optr 2 g.1 0 0),(3,.optr 3 g.2 0 0),(5,.int .i64 s)]) (O:=fun _ g=>[(2,some (g.1,⟨false,true,3,40,[.agg [.int .i64 f1.Params,.sl (f1.Slots.map Pn),.sl (f1.Code.map Pm)]]⟩)),(3,some (g.2,⟨false,true,2,104,[.agg [.sl (r2.To.map OZ),.sl (r2.Keep.map D.bool)]]⟩))]) (body:=fun s=>Zp f1 r2 s) (s:=0) (_,_) ((hE ⟨rfl,r,r,trivial⟩ ⟨rfl,r,trivial⟩))<|?_
  rintro k4 ⟨v2x2,v3x2⟩ nn
  try dsimp only
  unfold Zp
  exact B

def VV (a : Int × (List Int)) : List D:=[.int .i64 a.1,.sl (a.2.map OZ)]
def VU (ds : List D) : Int × (List Int):=(uI (ds.getD 0 .top),(uL uI) (ds.getD 1 .top))
theorem Aig (a : Int × (List Int)) : VU (VV a) = a:=by simp [VU,VV,uI,PV (u:=uI) (en:=OZ) (fun _=>rfl)]
instance : Px VV VU:=⟨Aig⟩
def AiV (b : Int) : D:=.int .i64 b
noncomputable def AdQ : Dw.Spec:=Pf [] .ground VV VU (fun a=>SA a.1 a.2) AiV noE
theorem Aih : Pd Tryz.prog 122 AdQ:=by
 refine fn2 2 (Pv) Tryz.func122<|?_
 intro a
 unfold SA
 exact B

def AiU (b : Pa) : D:=Pm b
noncomputable def Abo : Dw.Spec:=Pf [] .ground Ws Wq (fun a=>Vd a.1 a.2) AiU noE
theorem Adr : Pd Tryz.prog 104 Abo:=by
 refine fn2 2 (Pk (l:=[(122,AdQ)]) (by simp [Aih])) Tryz.func104<|?_
 intro a
 unfold Vd
 exact B

def Amw (b : (List Int)) : D:=.sl (b.map OZ)
noncomputable def AgK : Dw.Spec:=Pf [] (.row 1 3) TJ TI (fun a=>Abv a.1 a.2) Amw noE
theorem Alw : Pd Tryz.prog 100 AgK:=by
 refine fn2 2 (Pk (l:=[(104,Abo),(88,Ads),(64,Xf),(14,TG),(32,Xo)]) (by simp [Adr,AfF,YO,UJ,Yp])) Tryz.func100<|?_
 rintro ⟨f1,r2⟩
 unfold Abv
 refine A 19 ?_
 refine lP (E:=fun (s : (List Int) × Int) (g : Nat × Nat × Nat)=>[(2,.optr 2 g.1 0 0),(3,.optr 3 g.2.1 0 0),(5,.osl 5 g.2.2 0 s.1.length),(6,.int .i64 s.2)]) (O:=fun s g=>[(2,some (g.1,⟨false,true,3,40,[.agg [.int .i64 f1.Params,.sl (f1.Slots.map Pn),.sl (f1.Code.map Pm)]]⟩)),(3,some (g.2.1,⟨false,true,2,104,[.agg [.sl (r2.To.map OZ),.sl (r2.Keep.map D.bool)]]⟩)),(5,some (g.2.2,⟨false,false,1,3,s.1.map OZ⟩))]) (body:=fun s=>Aaq f1 r2 s.1 s.2) (s:=(([] : List Int),0)) (_,_,_) ((hE ⟨rfl,r,r,r,trivial⟩ ⟨rfl,r,r,trivial⟩))<|?_
 rintro ⟨out3,k4⟩ ⟨v2x1,v3x1,v5x1⟩ nn
 try dsimp only
 unfold Aaq
 refine sC (E:=fun (_s : Unit) (g : Nat × Nat × Nat)=>[(2,.optr 2 g.1 0 0),(3,.optr 3 g.2.1 0 0),(5,.osl 5 g.2.2 0 out3.length),(6,.int .i64 k4),(16,.int .i64 k4),(17,.optr 3 g.2.1 0 1),(18,.sl (r2.Keep.map D.bool)),(19,.int .i64 (r2.Keep.length : Int)),(20,.bool (decide (k4 < (r2.Keep.length : Int))))]) (O:=fun _ g=>[(2,some (g.1,⟨false,true,3,40,[.agg [.int .i64 f1.Params,.sl (f1.Slots.map Pn),.sl (f1.Code.map Pm)]]⟩)),(3,some (g.2.1,⟨false,true,2,104,[.agg [.sl (r2.To.map OZ),.sl (r2.Keep.map D.bool)]]⟩)),(5,some (g.2.2,⟨false,false,1,3,out3.map OZ⟩))]) (j:=fun _=>Aar r2 k4 out3 f1) ?_ ?_
 ·exact B
 ·rintro ⟨⟩ ⟨v2x2,v3x2,v5x2⟩ nn
  try dsimp only
  unfold Aar
  exact B

def VZ (a : Pw × (List Int)) : List D:=[AeI a.1,.sl (a.2.map OZ)]
def VY (ds : List D) : Pw × (List Int):=(Afd (ds.getD 0 .top),(uL uI) (ds.getD 1 .top))
theorem Aio (a : Pw × (List Int)) : VY (VZ a) = a:=by simp [VY,VZ,PV (u:=uI) (en:=OZ) (fun _=>rfl)]
instance : Px VZ VY:=⟨Aio⟩
def Ajc (b : (List Int)) : D:=.sl (b.map OZ)
noncomputable def AdW : Dw.Spec:=Pf [] (.row 1 3) VZ VY (fun a=>Xh a.1 a.2) Ajc noE
theorem Aip : Pd Tryz.prog 102 AdW:=by
 refine fn2 2 (Pv) Tryz.func102<|?_
 rintro ⟨r1,used2⟩
 unfold Xh
 refine A 18 ?_
 refine lP (E:=fun (s : (List Int) × Int) (g : Nat × Nat)=>[(1,.sl (used2.map OZ)),(2,.optr 2 g.1 0 0),(5,.osl 5 g.2 0 s.1.length),(6,.int .i64 s.2)]) (O:=fun s g=>[(2,some (g.1,⟨false,true,2,104,[.agg [.sl (r1.To.map OZ),.sl (r1.Keep.map D.bool)]]⟩)),(5,some (g.2,⟨false,false,1,3,s.1.map OZ⟩))]) (body:=fun s=>WN r1 used2 s.1 s.2) (s:=(([] : List Int),0)) (_,_) ((hE ⟨rfl,r,r,r,trivial⟩ ⟨rfl,r,trivial⟩))<|?_
 rintro ⟨out3,s4⟩ ⟨v2x1,v5x1⟩ nn
 try dsimp only
 unfold WN
 refine A 10 ?_
 refine cD r ?_ ?_
 ·refine A 2 ?_
  refine bC (E:=fun (s : (List Int)) (g : Nat × Nat)=>[(1,.sl (used2.map OZ)),(2,.optr 2 g.1 0 0),(5,.osl 5 g.2 0 s.length),(6,.int .i64 s4)]) (O:=fun s g=>[(2,some (g.1,⟨false,true,2,104,[.agg [.sl (r1.To.map OZ),.sl (r1.Keep.map D.bool)]]⟩)),(5,some (g.2,⟨false,false,1,3,s.map OZ⟩))]) (j:=fun s=>WR s4 s) ?_ ?_
  ·refine A 12 ?_
   refine lP (E:=fun (s : Int × Int) (g : Nat × Nat)=>[(1,.sl (used2.map OZ)),(2,.optr 2 g.1 0 0),(5,.osl 5 g.2 0 out3.length),(6,.int .i64 s4),(7,.int .i64 s.1),(8,.int .i64 s.2)]) (O:=fun _ g=>[(2,some (g.1,⟨false,true,2,104,[.agg [.sl (r1.To.map OZ),.sl (r1.Keep.map D.bool)]]⟩)),(5,some (g.2,⟨false,false,1,3,out3.map OZ⟩))]) (body:=fun s=>WO used2 r1 s4 out3 s.1 s.2) (s:=(0,0)) (_,_) ((hE ⟨rfl,r,r,r,r,r,trivial⟩ ⟨rfl,r,trivial⟩))<|?_
   rintro ⟨n6,i7⟩ ⟨v2x2,v5x2⟩ nn
   try dsimp only
   unfold WO
   exact B
  ·rintro out5 ⟨v2x3,v5x3⟩ nn
   try dsimp only
   unfold WR
   exact B
 ·exact B

def WM (a : Pw) : List D:=[AeI a]
def WL (ds : List D) : Pw:=Afd (ds.getD 0 .top)
theorem Aja (a : Pw) : WL (WM a) = a:=by simp [WL,WM]
instance : Px WM WL:=⟨Aja⟩
def Akb (b : (List Int)) : D:=.sl (b.map OZ)
noncomputable def AeY : Dw.Spec:=Pf [] (.row 1 3) WM WL (fun a=>Yr a) Akb noE
theorem Ajb : Pd Tryz.prog 103 AeY:=by
 refine fn2 1 (Pv) Tryz.func103<|?_
 intro r1
 unfold Yr
 refine A 23 ?_
 refine lP (E:=fun (s : (List Int) × Int × Int) (g : Nat × Nat)=>[(1,.optr 1 g.1 0 0),(3,.osl 3 g.2 0 s.1.length),(4,.int .i64 s.2.1),(5,.int .i64 s.2.2)]) (O:=fun s g=>[(1,some (g.1,⟨false,true,2,104,[.agg [.sl (r1.To.map OZ),.sl (r1.Keep.map D.bool)]]⟩)),(3,some (g.2,⟨false,false,1,3,s.1.map OZ⟩))]) (body:=fun s=>XO r1 s.1 s.2.1 s.2.2) (s:=(([] : List Int),0,0)) (_,_) ((hE ⟨rfl,r,r,r,trivial⟩ ⟨rfl,r,trivial⟩))<|?_
 rintro ⟨out2,n3,k4⟩ ⟨v1x1,v3x1⟩ nn
 try dsimp only
 unfold XO
 exact B

def AfN (b : OX × Int) : D:=.tup [PI b.1,.int .i64 b.2]
noncomputable def AfO : Dw.Spec:=Pf [] .val TJ TI (fun a=>VO a.1 a.2) AfN noE
theorem AjY : Pd Tryz.prog 80 AfO:=by
 refine fn2 2 (Pk (l:=[(99,AfP),(100,AgK),(101,Abt),(102,AdW),(103,AeY),(104,Abo)]) (by simp [Aka,Alw,Adt,Aip,Ajb,Adr])) Tryz.func80<|?_
 rintro ⟨f1,r2⟩
 unfold VO
 refine A 13 ?_
 refine bD fun r3 hr3=>?_
 refine A 10 ?_
 refine cD r ?_ ?_
 ·refine A 10 ?_
  refine Qu (b:=((OX.mk 0 ([]) ([])),r3)) r ?_ r r ?_ (by first | rfl | (simp only [OV]; rfl) | (simp only [OW]; rfl) | (simp only [OV,OW]; rfl) | simp [AfN,PI]) (by decide)
  all_goals first|(simp;done)|(simp;omega)|rfl|(simp [PG,PE];done)
 ·refine A 6 ?_
  refine bD fun r4 hr4=>?_
  refine A 20 ?_
  refine lP (E:=fun (s : (List Po) × Int) (g : Nat × Nat × Nat × Nat × Nat)=>[(2,.optr 2 g.1 0 0),(3,.optr 3 g.2.1 0 0),(4,.optr 4 g.2.2.1 0 0),(7,.osl 7 g.2.2.2.1 0 r4.length),(8,.optr 8 g.2.2.2.2 0 0),(9,.int .i64 s.2)]) (O:=fun s g=>[(2,some (g.1,⟨false,true,3,40,[.agg [.int .i64 f1.Params,.sl (f1.Slots.map Pn),.sl (f1.Code.map Pm)]]⟩)),(3,some (g.2.1,⟨false,true,2,104,[.agg [.sl (r2.To.map OZ),.sl (r2.Keep.map D.bool)]]⟩)),(4,some (g.2.2.1,⟨false,true,3,40,[.agg [.int .i64 0,.nils,.nils]]⟩)),(7,some (g.2.2.2.1,⟨false,false,1,3,r4.map OZ⟩)),(8,some (g.2.2.2.2,⟨false,true,3,40,[.agg [.int .i64 f1.Params,.sl (s.1.map Pn),.nils]]⟩))]) (body:=fun s=>Zn r4 f1 r2 s.1 s.2) (s:=([],0)) (_,_,_,_,_) ((Abq [] trivial ⟨(PF r),(PF r),(PF r),(PF r),(PF r),(PF r),trivial⟩ ⟨(.inl r),(.inl r),(.inl r),(.inl r),(.inr ⟨_,_,_,_,r,r,r,r,ZT r ⟨(UY r),(XS Pn r),(UY r),trivial⟩⟩),trivial⟩))<|?_
  rintro ⟨out5,i6⟩ ⟨v2x1,v3x1,v4x1,v7x1,v8x1⟩ nn
  try dsimp only
  unfold Zn
  refine A 9 ?_
  refine cD r ?_ ?_
  ·refine A 2 ?_
   refine bC (E:=fun (_s : (List Po)) (g : Nat × Nat × Nat × Nat × Nat × Nat)=>[(2,.optr 2 g.1 0 0),(3,.optr 3 g.2.1 0 0),(4,.optr 4 g.2.2.1 0 0),(7,.osl 7 g.2.2.2.1 0 r4.length),(8,.optr 8 g.2.2.2.2.1 0 0),(9,.int .i64 i6)]) (O:=fun s g=>[(2,some (g.1,⟨false,true,3,40,[.agg [.int .i64 f1.Params,.sl (f1.Slots.map Pn),.sl (f1.Code.map Pm)]]⟩)),(3,some (g.2.1,⟨false,true,2,104,[.agg [.sl (r2.To.map OZ),.sl (r2.Keep.map D.bool)]]⟩)),(4,some (g.2.2.1,⟨false,true,3,40,[.agg [.int .i64 0,.nils,.nils]]⟩)),(7,some (g.2.2.2.1,⟨false,false,1,3,r4.map OZ⟩)),(8,some (g.2.2.2.2.1,⟨false,true,3,40,[.agg [.int .i64 f1.Params,.osl 13 g.2.2.2.2.2 0 s.length,.nils]]⟩)),(13,some (g.2.2.2.2.2,⟨false,false,2,54,s.map Pn⟩))]) (j:=fun s=>Zo i6 s) ?_ ?_
   ·refine A 7 ?_
    refine bD fun used_e8 hused_e8=>?_
    refine A 1 ?_
    refine bD fun x_x9 hx_x9=>?_
    refine A 13 ?_
    refine bD fun used_e10 hused_e10=>?_
    refine A 1 ?_
    refine bD fun r11 hr11=>?_
    refine A 11 ?_
    refine lP (E:=fun (s : Int × Int) (g : Nat × Nat × Nat × Nat × Nat × Nat × Nat)=>[(2,.optr 2 g.1 0 0),(3,.optr 3 g.2.1 0 0),(4,.optr 4 g.2.2.1 0 0),(7,.osl 7 g.2.2.2.1 0 r4.length),(8,.optr 8 g.2.2.2.2.1 0 0),(9,.int .i64 i6),(10,.optr 10 g.2.2.2.2.2.1 0 0),(11,.osl 11 g.2.2.2.2.2.2 0 r11.length),(12,.int .i64 s.2)]) (O:=fun s g=>[(2,some (g.1,⟨false,true,3,40,[.agg [.int .i64 f1.Params,.sl (f1.Slots.map Pn),.sl (f1.Code.map Pm)]]⟩)),(3,some (g.2.1,⟨false,true,2,104,[.agg [.sl (r2.To.map OZ),.sl (r2.Keep.map D.bool)]]⟩)),(4,some (g.2.2.1,⟨false,true,3,40,[.agg [.int .i64 0,.nils,.nils]]⟩)),(7,some (g.2.2.2.1,⟨false,false,1,3,r4.map OZ⟩)),(8,some (g.2.2.2.2.1,⟨false,true,3,40,[.agg [.int .i64 f1.Params,.sl (out5.map Pn),.nils]]⟩)),(10,some (g.2.2.2.2.2.1,⟨false,true,2,54,[.agg [.int .i64 x_x9.Size,.int .i64 s.1]]⟩)),(11,some (g.2.2.2.2.2.2,⟨false,false,1,3,r11.map OZ⟩))]) (body:=fun s=>Wv r11 f1 out5 x_x9 i6 s.1 s.2) (s:=(x_x9.Align,0)) (_,_,_,_,_,_,_) ((hE ⟨rfl,r,r,r,r,r,r,r,r,trivial⟩ ⟨rfl,r,r,r,r,r,r,trivial⟩))<|?_
    rintro ⟨s12,k13⟩ ⟨v2x2,v3x2,v4x2,v7x2,v8x2,v10x2,v11x2⟩ nn
    try dsimp only
    unfold Wv
    refine A 9 ?_
    refine cD r ?_ ?_
    ·exact B
    ·refine A 11 ?_
     refine bS ([(Po.mk x_x9.Size s12)] : List Po) Pn r r r (by simp) r r r<|?_
     exact B
   ·rintro slots7 ⟨v2x3,v3x3,v4x3,v7x3,v8x3,v13x3⟩ nn
    try dsimp only
    unfold Zo
    refine A 5 ?_
    exact wf [13] fun _=>B
  ·refine A 9 ?_
   refine bD fun r16 hr16=>?_
   refine A 2 ?_
   refine bD fun r17 hr17=>?_
   refine A 12 ?_
   refine lP (E:=fun (s : (List Pa) × Int) (g : Nat × Nat × Nat × Nat × Nat × Nat)=>[(2,.optr 2 g.1 0 0),(3,.optr 3 g.2.1 0 0),(4,.optr 4 g.2.2.1 0 0),(8,.optr 8 g.2.2.2.1 0 0),(14,.osl 14 g.2.2.2.2.1 0 r16.length),(15,.osl 15 g.2.2.2.2.2 0 r17.length),(16,.int .i64 s.2)]) (O:=fun s g=>[(2,some (g.1,⟨false,true,3,40,[.agg [.int .i64 f1.Params,.sl (f1.Slots.map Pn),.sl (f1.Code.map Pm)]]⟩)),(3,some (g.2.1,⟨false,true,2,104,[.agg [.sl (r2.To.map OZ),.sl (r2.Keep.map D.bool)]]⟩)),(4,some (g.2.2.1,⟨false,true,3,40,[.agg [.int .i64 0,.nils,.nils]]⟩)),(8,some (g.2.2.2.1,⟨false,true,3,40,[.agg [.int .i64 f1.Params,.sl (out5.map Pn),.sl (s.1.map Pm)]]⟩)),(14,some (g.2.2.2.2.1,⟨false,false,1,3,r16.map OZ⟩)),(15,some (g.2.2.2.2.2,⟨false,false,1,3,r17.map OZ⟩))]) (body:=fun s=>Ww f1 r2 r16 r17 out5 s.1 s.2) (s:=([],0)) (_,_,_,_,_,_) ((Abq [] trivial ⟨(PF r),(PF r),(PF r),(PF r),(PF r),(PF r),(PF r),trivial⟩ ⟨(.inl r),(.inl r),(.inl r),(.inr ⟨_,_,_,_,r,r,r,r,ZT r ⟨(UY r),(UY r),(XS Pm r),trivial⟩⟩),(.inl r),(.inl r),trivial⟩))<|?_
   rintro ⟨out18,k19⟩ ⟨v2x4,v3x4,v4x4,v8x4,v14x4,v15x4⟩ nn
   try dsimp only
   unfold Ww
   refine A 10 ?_
   refine cD r ?_ ?_
   ·refine A 10 ?_
    refine bD fun x_x20 hx_x20=>?_
    refine A 5 ?_
    refine cD r ?_ ?_
    ·exact B
    ·refine A 7 ?_
     refine bD fun x_x21 hx_x21=>?_
     refine A 3 ?_
     refine bD fun r22 hr22=>?_
     refine A 5 ?_
     refine sC (E:=fun (_s : Int × Int) (g : Nat × Nat × Nat × Nat × Nat × Nat × Nat)=>[(2,.optr 2 g.1 0 0),(3,.optr 3 g.2.1 0 0),(4,.optr 4 g.2.2.1 0 0),(8,.optr 8 g.2.2.2.1 0 0),(14,.osl 14 g.2.2.2.2.1 0 r16.length),(15,.osl 15 g.2.2.2.2.2.1 0 r17.length),(16,.int .i64 k19),(17,.optr 17 g.2.2.2.2.2.2 0 0)]) (O:=fun s g=>[(2,some (g.1,⟨false,true,3,40,[.agg [.int .i64 f1.Params,.sl (f1.Slots.map Pn),.sl (f1.Code.map Pm)]]⟩)),(3,some (g.2.1,⟨false,true,2,104,[.agg [.sl (r2.To.map OZ),.sl (r2.Keep.map D.bool)]]⟩)),(4,some (g.2.2.1,⟨false,true,3,40,[.agg [.int .i64 0,.nils,.nils]]⟩)),(8,some (g.2.2.2.1,⟨false,true,3,40,[.agg [.int .i64 f1.Params,.sl (out5.map Pn),.sl (out18.map Pm)]]⟩)),(14,some (g.2.2.2.2.1,⟨false,false,1,3,r16.map OZ⟩)),(15,some (g.2.2.2.2.2.1,⟨false,false,1,3,r17.map OZ⟩)),(17,some (g.2.2.2.2.2.2,⟨false,true,5,50,[.agg [.int .i64 r22.Op,.int .i64 s.1,.int .i64 s.2,.int .i64 r22.C,.int .u64 r22.Imm]]⟩))]) (j:=fun s=>SX out18 r22 k19 s.1 s.2) ?_ ?_
     ·exact B
     ·rintro ⟨x23,x24⟩ ⟨v2x5,v3x5,v4x5,v8x5,v14x5,v15x5,v17x5⟩ nn
      try dsimp only
      unfold SX
      refine A 6 ?_
      refine bS ([(Pa.mk r22.Op x23 x24 r22.C r22.Imm)] : List Pa) Pm r r r (by simp) r r r<|?_
      refine A 16 ?_
      exact wf [18] fun _=>B
   ·exact B

def AjS (b : (List (List Int)) × Int) : D:=.tup [.sl (b.1.map (eL OZ)),.int .i64 b.2]
noncomputable def AeW : Dw.Spec:=Pf [] .val Ql Qk (fun a=>Abs a.1 a.2) AjS noE
theorem AiX : Pd Tryz.prog 22 AeW:=by
 refine fn2 2 (Pk (l:=[(44,Acz)]) (by simp [AeX])) Tryz.func22<|?_
 intro a
 unfold Abs
 exact B

def XG (a : (List (List Int)) × Int) : List D:=[.sl (a.1.map (eL OZ)),.int .i64 a.2]
def XF (ds : List D) : (List (List Int)) × Int:=((uL (uL uI)) (ds.getD 0 .top),uI (ds.getD 1 .top))
theorem AjO (a : (List (List Int)) × Int) : XF (XG a) = a:=by simp [XF,XG,uI,PV (u:=(uL uI)) (en:=(eL OZ)) (PV (u:=uI) (en:=OZ) (fun _=>rfl))]
instance : Px XG XF:=⟨AjO⟩
def Alh (b : Bool) : D:=.bool b
noncomputable def AfH : Dw.Spec:=Pf [] .ground XG XF (fun a=>ZP a.1 a.2) Alh noE
theorem AjP : Pd Tryz.prog 46 AfH:=by
 refine fn2 2 (Pk (l:=[(71,Acs),(15,Xq)]) (by simp [AeR,Yq])) Tryz.func46<|?_
 rintro ⟨g1,n2⟩
 unfold ZP
 refine A 14 ?_
 refine cD r ?_ ?_
 ·exact B
 ·refine A 9 ?_
  refine lP (E:=fun (s : Int) (_g : Unit)=>[(0,.sl (g1.map (eL OZ))),(1,.int .i64 n2),(5,.int .i64 s)]) (O:=fun _ _=>[]) (body:=fun s=>YV n2 g1 s) (s:=0) () ((hE ⟨rfl,r,r,trivial⟩ trivial))<|?_
  rintro x3 ⟨⟩ nn
  try dsimp only
  unfold YV
  refine A 8 ?_
  refine cD r ?_ ?_
  ·refine A 2 ?_
   refine bC (E:=fun (s : (List Int) × (List Int) × Bool) (_g : Unit)=>[(0,.sl (g1.map (eL OZ))),(1,.int .i64 n2),(5,.int .i64 x3),(24,.sl (g1.map (eL OZ))),(25,.int .i64 x3),(26,.fptr (.sl (s.1.map OZ)) 0),(27,.sl (s.2.1.map OZ)),(28,.int .i64 x3),(29,.bool s.2.2)]) (O:=fun _ _=>[]) (j:=fun s=>YX x3 s.1 s.2.1 s.2.2) ?_ ?_
   ·refine sC (E:=fun (s : (List Int) × (List Int) × Bool) (_g : Unit)=>[(0,.sl (g1.map (eL OZ))),(1,.int .i64 n2),(5,.int .i64 x3),(24,.sl (g1.map (eL OZ))),(25,.int .i64 x3),(26,.fptr (.sl (s.1.map OZ)) 0),(27,.sl (s.2.1.map OZ)),(28,.int .i64 x3),(29,.bool s.2.2)]) (O:=fun _ _=>[]) (j:=fun s=>YY g1 x3 n2 s.1 s.2.1 s.2.2) ?_ ?_
    ·exact B
    ·rintro ⟨x7,x8,x9⟩ ⟨⟩ nn
     try dsimp only
     unfold YY
     refine A 6 ?_
     refine lP (E:=fun (s : Int) (_g : Unit)=>[(0,.sl (g1.map (eL OZ))),(1,.int .i64 n2),(5,.int .i64 x3),(6,.int .i64 s),(24,.sl (g1.map (eL OZ))),(25,.int .i64 x3),(26,.fptr (.sl (x7.map OZ)) 0),(27,.sl (x8.map OZ)),(28,.int .i64 x3),(29,.bool x9)]) (O:=fun _ _=>[]) (body:=fun s=>YW g1 x3 n2 x7 x8 x9 s) (s:=0) () ((hE ⟨rfl,r,r,r,r,r,r,r,r,r,trivial⟩ trivial))<|?_
     rintro i14 ⟨⟩ nn
     try dsimp only
     unfold YW
     exact B
   ·rintro ⟨x4,x5,x6⟩ ⟨⟩ nn
    try dsimp only
    unfold YX
    exact B
  ·exact B

def WV (a : Po × Po) : List D:=[Pn a.1,Pn a.2]
def WU (ds : List D) : Po × Po:=(XY (ds.getD 0 .top),XY (ds.getD 1 .top))
theorem Ajf (a : Po × Po) : WU (WV a) = a:=by simp [WU,WV]
instance : Px WV WU:=⟨Ajf⟩
def Ake (b : Bool) : D:=.bool b
noncomputable def Afa : Dw.Spec:=Pf [] .ground WV WU (fun a=>Yt a.1 a.2) Ake noE
theorem Ajg : Pd Tryz.prog 72 Afa:=by
 refine fn2 2 (Pv) Tryz.func72<|?_
 intro a
 unfold Yt
 exact B

end Go.Proofs.YtnldnldmgceooaaGreatDoor
