/-
  Programs on typed data, and the proofs that the code does what they say; written by a program (dx.py).
-/
import Derived.Test.YtnldnldmgceooaaGreatDoorProg
import Derived.Test.YtnldnldmgceooaaGreatDoorDd
import Derived.KernelRfl
import Derived.Test.YtnldnldmgceooaaGreatDoorDxP
import Derived.Test.YtnldnldmgceooaaGreatDoorDxF2
namespace Go.Proofs.YtnldnldmgceooaaGreatDoor
open Go Go.Dw Go.Proofs
set_option maxRecDepth 100000
set_option maxHeartbeats 4000000
open Go.Dw renaming QU → bD,PN → cK,AcW → bS,Ue → sE,Acy → cD,Aah → hE,Aez → lP,AaZ → sC,Zg → bC,rf → r
def AkA (b : Int × Int × Bool) : D:=.tup [.int .i64 b.1,.int .i64 b.2.1,.bool b.2.2]
noncomputable def Aff : Dw.Spec:=Pf [] .ground Ql Qk (fun a=>Zt a.1 a.2) AkA noE
theorem Ajk : Pd Tryz.prog 61 Aff:=by
 refine fn2 2 (Pk (l:=[(62,AbV),(87,Adw)]) (by simp [Aeq,AhE])) Tryz.func61<|?_
 rintro ⟨f1,l2⟩
 unfold Zt
 refine A 14 ?_
 refine bD fun r3 hr3=>?_
 refine A 4 ?_
 refine cD r ?_ ?_
 ·exact B
 ·refine A 9 ?_
  refine lP (E:=fun (s : Int) (g : Nat × Nat)=>[(2,.optr 2 g.1 0 0),(3,.optr 3 g.2 0 0),(7,.int .i64 s)]) (O:=fun _ g=>[(2,some (g.1,⟨false,true,3,40,[.agg [.int .i64 f1.Params,.sl (f1.Slots.map Pn),.sl (f1.Code.map Pm)]]⟩)),(3,some (g.2,⟨false,true,1,29,[.agg [.sl (l2.Out.map (eL Pa))]]⟩))]) (body:=fun s=>YE f1 l2 s) (s:=0) (_,_) ((hE ⟨rfl,r,r,trivial⟩ ⟨rfl,r,trivial⟩))<|?_
  rintro k4 ⟨v2x1,v3x1⟩ nn
  try dsimp only
  unfold YE
  exact B

def Akz (b : Int) : D:=.int .i64 b
noncomputable def Afe : Dw.Spec:=Pf [] .ground Ql Qk (fun a=>VA a.1 a.2) Akz noE
theorem Ajj : Pd Tryz.prog 36 Afe:=by
 refine fn2 2 (Pk (l:=[(61,Aff),(62,AbV)]) (by simp [Ajk,Aeq])) Tryz.func36<|?_
 intro a
 unfold VA
 exact B

def Xz (a : OX × Pg × Bool) : List D:=[PL a.1,Qt a.2.1,.bool a.2.2]
def Xy (ds : List D) : OX × Pg × Bool:=(SM (ds.getD 0 .top),VR (ds.getD 1 .top),uBo (ds.getD 2 .top))
theorem Ajq (a : OX × Pg × Bool) : Xy (Xz a) = a:=by simp [Xy,Xz,uBo]
instance : Px Xz Xy:=⟨Ajq⟩
def AkF (b : (List (List Int)) × Int) : D:=.tup [.sl (b.1.map (eL Pa)),.int .i64 b.2]
noncomputable def AbW : Dw.Spec:=Pf [] .val Xz Xy (fun a=>Xj a.1 a.2.1 a.2.2) AkF noE
theorem Aes : Pd Tryz.prog 44 AbW:=by
 refine fn2 3 (Pk (l:=[(36,Afe),(14,Vq),(32,Xf)]) (by simp [Ajj,Wx,Yd])) Tryz.func44<|?_
 rintro ⟨f1,l2,strict3⟩
 unfold Xj
 refine A 13 ?_
 refine bD fun r4 hr4=>?_
 refine A 10 ?_
 refine cD r ?_ ?_
 ·exact B
 ·refine A 7 ?_
  refine cK fun hq=>AdU (α:=Int) r r r hq r<|?_
  refine A 2 ?_
  refine VC (E:=[(2,.bool strict3),(3,.optr 3 _ 0 0),(4,.optr 4 _ 0 0),(9,.osl 9 _ 0 ((List.replicate (f1.Slots.length : Int).toNat ([] : (List Int))).length))]) (O:=[(3,some (_,⟨false,true,3,40,[.agg [.int .i64 f1.Params,.sl (f1.Slots.map Pn),.sl (f1.Code.map Pm)]]⟩)),(4,some (_,⟨false,true,1,29,[.agg [.sl (l2.Out.map (eL Pa))]]⟩)),(9,some (_,⟨false,false,1,30,(List.replicate (f1.Slots.length : Int).toNat ([] : (List Int))).map (eL Pa)⟩))]) ((AfM (g:=9) r (Aht (l:=List.replicate (f1.Slots.length : Int).toNat ([] : (List Int))) Pa (fun _ h=>List.eq_of_mem_replicate h)) (hE ⟨rfl,r,r,r,trivial⟩ ⟨rfl,r,r,trivial⟩))) fun nn=>?_
  refine A 7 ?_
  refine lP (E:=fun (s : (List (List Int)) × Int) (g : Nat × Nat × Nat)=>[(2,.bool strict3),(3,.optr 3 g.1 0 0),(4,.optr 4 g.2.1 0 0),(9,.osl 9 g.2.2 0 s.1.length),(10,.int .i64 s.2)]) (O:=fun s g=>[(3,some (g.1,⟨false,true,3,40,[.agg [.int .i64 f1.Params,.sl (f1.Slots.map Pn),.sl (f1.Code.map Pm)]]⟩)),(4,some (g.2.1,⟨false,true,1,29,[.agg [.sl (l2.Out.map (eL Pa))]]⟩)),(9,some (g.2.2,⟨false,false,1,30,s.1.map (eL Pa)⟩))]) (body:=fun s=>YM f1 l2 strict3 s.1 s.2) (s:=(List.replicate (f1.Slots.length : Int).toNat ([] : (List Int)),0)) (_,_,_) ((hE ⟨rfl,r,r,r,r,trivial⟩ ⟨rfl,r,r,trivial⟩))<|?_
  rintro ⟨out5,k6⟩ ⟨v3x1,v4x1,v9x1⟩ nn
  try dsimp only
  unfold YM
  refine A 10 ?_
  refine cD r ?_ ?_
  ·refine A 2 ?_
   refine bC (E:=fun (s : Int × Int × Int × Int × Int × (List (List Int))) (g : Nat × Nat × Nat)=>[(2,.bool strict3),(3,.optr 3 g.1 0 0),(4,.optr 4 g.2.1 0 0),(9,.osl 9 g.2.2 0 s.2.2.2.2.2.length),(10,.int .i64 k6)]) (O:=fun s g=>[(3,some (g.1,⟨false,true,3,40,[.agg [.int .i64 f1.Params,.sl (f1.Slots.map Pn),.sl (f1.Code.map Pm)]]⟩)),(4,some (g.2.1,⟨false,true,1,29,[.agg [.sl (l2.Out.map (eL Pa))]]⟩)),(9,some (g.2.2,⟨false,false,1,30,s.2.2.2.2.2.map (eL Pa)⟩))]) (j:=fun s=>SW k6 s.1 s.2.1 s.2.2.1 s.2.2.2.1 s.2.2.2.2.1 s.2.2.2.2.2) ?_ ?_
   ·refine A 5 ?_
    refine bD fun x_x13 hx_x13=>?_
    refine A 9 ?_
    refine bD fun r14 hr14=>?_
    refine A 8 ?_
    refine sC (E:=fun (_s : Unit) (g : Nat × Nat × Nat × Nat)=>[(2,.bool strict3),(3,.optr 3 g.1 0 0),(4,.optr 4 g.2.1 0 0),(9,.osl 9 g.2.2.1 0 out5.length),(10,.int .i64 k6),(11,.optr 11 g.2.2.2 0 0),(12,.int .i64 r14.1),(13,.bool r14.2)]) (O:=fun _ g=>[(3,some (g.1,⟨false,true,3,40,[.agg [.int .i64 f1.Params,.sl (f1.Slots.map Pn),.sl (f1.Code.map Pm)]]⟩)),(4,some (g.2.1,⟨false,true,1,29,[.agg [.sl (l2.Out.map (eL Pa))]]⟩)),(9,some (g.2.2.1,⟨false,false,1,30,out5.map (eL Pa)⟩)),(11,some (g.2.2.2,⟨false,true,5,50,[.agg [.int .i64 x_x13.Op,.int .i64 x_x13.A,.int .i64 x_x13.B,.int .i64 x_x13.C,.int .u64 x_x13.Imm]]⟩))]) (j:=fun _=>Ul l2 k6 r14 strict3 x_x13 out5) ?_ ?_
    ·exact B
    ·rintro ⟨⟩ ⟨v3x2,v4x2,v9x2,v11x2⟩ nn
     try dsimp only
     unfold Ul
     refine A 6 ?_
     refine lP (E:=fun (s : (List (List Int)) × Int) (g : Nat × Nat × Nat × Nat)=>[(2,.bool strict3),(3,.optr 3 g.1 0 0),(4,.optr 4 g.2.1 0 0),(9,.osl 9 g.2.2.1 0 s.1.length),(10,.int .i64 k6),(11,.optr 11 g.2.2.2 0 0),(12,.int .i64 r14.1),(13,.bool r14.2),(14,.int .i64 s.2)]) (O:=fun s g=>[(3,some (g.1,⟨false,true,3,40,[.agg [.int .i64 f1.Params,.sl (f1.Slots.map Pn),.sl (f1.Code.map Pm)]]⟩)),(4,some (g.2.1,⟨false,true,1,29,[.agg [.sl (l2.Out.map (eL Pa))]]⟩)),(9,some (g.2.2.1,⟨false,false,1,30,s.1.map (eL Pa)⟩)),(11,some (g.2.2.2,⟨false,true,5,50,[.agg [.int .i64 x_x13.Op,.int .i64 x_x13.A,.int .i64 x_x13.B,.int .i64 x_x13.C,.int .u64 x_x13.Imm]]⟩))]) (body:=fun s=>Wi l2 k6 r14 strict3 x_x13 s.1 s.2) (s:=(out5,0)) (_,_,_,_) ((hE ⟨rfl,r,r,r,r,r,r,r,r,trivial⟩ ⟨rfl,r,r,r,trivial⟩))<|?_
     rintro ⟨out15,i16⟩ ⟨v3x3,v4x3,v9x3,v11x3⟩ nn
     try dsimp only
     unfold Wi
     refine sC (E:=fun (_s : Unit) (g : Nat × Nat × Nat × Nat)=>[(2,.bool strict3),(3,.optr 3 g.1 0 0),(4,.optr 4 g.2.1 0 0),(9,.osl 9 g.2.2.1 0 out15.length),(10,.int .i64 k6),(11,.optr 11 g.2.2.2 0 0),(12,.int .i64 r14.1),(13,.bool r14.2),(14,.int .i64 i16),(62,.bool r14.2)]) (O:=fun _ g=>[(3,some (g.1,⟨false,true,3,40,[.agg [.int .i64 f1.Params,.sl (f1.Slots.map Pn),.sl (f1.Code.map Pm)]]⟩)),(4,some (g.2.1,⟨false,true,1,29,[.agg [.sl (l2.Out.map (eL Pa))]]⟩)),(9,some (g.2.2.1,⟨false,false,1,30,out15.map (eL Pa)⟩)),(11,some (g.2.2.2,⟨false,true,5,50,[.agg [.int .i64 x_x13.Op,.int .i64 x_x13.A,.int .i64 x_x13.B,.int .i64 x_x13.C,.int .u64 x_x13.Imm]]⟩))]) (j:=fun _=>YN l2 k6 i16 r14 out15 strict3 x_x13) ?_ ?_
     ·exact B
     ·rintro ⟨⟩ ⟨v3x4,v4x4,v9x4,v11x4⟩ nn
      try dsimp only
      unfold YN
      refine A 7 ?_
      refine bD fun x_x18 hx_x18=>?_
      refine A 3 ?_
      refine bD fun x_x19 hx_x19=>?_
      refine A 5 ?_
      refine sC (E:=fun (s : Bool × Bool × Bool × Bool) (g : Nat × Nat × Nat × Nat)=>[(2,.bool strict3),(3,.optr 3 g.1 0 0),(4,.optr 4 g.2.1 0 0),(9,.osl 9 g.2.2.1 0 out15.length),(10,.int .i64 k6),(11,.optr 11 g.2.2.2 0 0),(12,.int .i64 r14.1),(13,.bool r14.2),(14,.int .i64 i16),(15,.int .i64 x_x19),(62,.bool r14.2),(78,.bool strict3),(79,.bool (!strict3)),(80,.bool s.1),(84,.bool s.2.1),(85,.bool s.2.2.1),(90,.bool s.2.2.2)]) (O:=fun _ g=>[(3,some (g.1,⟨false,true,3,40,[.agg [.int .i64 f1.Params,.sl (f1.Slots.map Pn),.sl (f1.Code.map Pm)]]⟩)),(4,some (g.2.1,⟨false,true,1,29,[.agg [.sl (l2.Out.map (eL Pa))]]⟩)),(9,some (g.2.2.1,⟨false,false,1,30,out15.map (eL Pa)⟩)),(11,some (g.2.2.2,⟨false,true,5,50,[.agg [.int .i64 x_x13.Op,.int .i64 x_x13.A,.int .i64 x_x13.B,.int .i64 x_x13.C,.int .u64 x_x13.Imm]]⟩))]) (j:=fun s=>RW r14 out15 x_x19 i16 s.1 s.2.1 s.2.2.1 s.2.2.2) ?_ ?_
      ·exact B
      ·rintro ⟨x20,x21,x22,x23⟩ ⟨v3x5,v4x5,v9x5,v11x5⟩ nn
       try dsimp only
       unfold RW
       refine A 8 ?_
       refine bD fun out_e24 hout_e24=>?_
       refine A 2 ?_
       refine bD fun r25 hr25=>?_
       refine A 4 ?_
       refine bD fun out_e26 hout_e26=>?_
       refine A 2 ?_
       refine bD fun r27 hr27=>?_
       refine A 2 ?_
       refine bD fun out_o28 hout_o28=>sE (l:=out15) (en:=(eL Pa)) (q':=r25) r r r r r r r (by simp) hout_o28 r r r (by simp [PH,cells,eL]) r<|?_
       refine A 1 ?_
       refine bD fun out_o29 hout_o29=>sE (l:=out15.set r14.1.toNat r25) (en:=(eL Pa)) (q':=r27) r r r r r r r (by simp) hout_o29 r r r (by simp [PH,cells,eL]) r<|?_
       exact B
   ·rintro ⟨x7,x8,x9,x10,x11,out12⟩ ⟨v3x6,v4x6,v9x6⟩ nn
    try dsimp only
    unfold SW
    exact B
  ·exact B

def AkD (b : (List (List Int)) × Int) : D:=.tup [.sl (b.1.map (eL Pa)),.int .i64 b.2]
noncomputable def Afh : Dw.Spec:=Pf [] .val Ql Qk (fun a=>Zv a.1 a.2) AkD noE
theorem Ajn : Pd Tryz.prog 77 Afh:=by
 refine fn2 2 (Pk (l:=[(44,AbW)]) (by simp [Aes])) Tryz.func77<|?_
 intro a
 unfold Zv
 exact B

def AkE (b : (List PR)) : D:=.sl (b.map TA)
noncomputable def Afi : Dw.Spec:=Pf [] (.row 2 135) Vs Vr (fun a=>Zw a) AkE noE
theorem Ajo : Pd Tryz.prog 96 Afi:=by
 refine fn2 1 (Pv) Tryz.func96<|?_
 intro f1
 unfold Zw
 refine A 18 ?_
 refine lP (E:=fun (s : (List PR) × Int) (g : Nat × Nat)=>[(1,.optr 1 g.1 0 0),(3,.osl 3 g.2 0 s.1.length),(4,.int .i64 s.2)]) (O:=fun s g=>[(1,some (g.1,⟨false,true,3,40,[.agg [.int .i64 f1.Params,.sl (f1.Slots.map Pn),.sl (f1.Code.map Pm)]]⟩)),(3,some (g.2,⟨false,false,2,135,s.1.map TA⟩))]) (body:=fun s=>YK f1 s.1 s.2) (s:=(([] : List PR),0)) (_,_) ((hE ⟨rfl,r,r,trivial⟩ ⟨rfl,r,trivial⟩))<|?_
 rintro ⟨out2,k3⟩ ⟨v1x1,v3x1⟩ nn
 try dsimp only
 unfold YK
 refine A 10 ?_
 refine cD r ?_ ?_
 ·refine A 2 ?_
  refine bC (E:=fun (s : (List PR)) (g : Nat × Nat)=>[(1,.optr 1 g.1 0 0),(3,.osl 3 g.2 0 s.length),(4,.int .i64 k3)]) (O:=fun s g=>[(1,some (g.1,⟨false,true,3,40,[.agg [.int .i64 f1.Params,.sl (f1.Slots.map Pn),.sl (f1.Code.map Pm)]]⟩)),(3,some (g.2,⟨false,false,2,135,s.map TA⟩))]) (j:=fun s=>Wh k3 s) ?_ ?_
  ·refine A 5 ?_
   refine bD fun x_x5 hx_x5=>?_
   refine A 17 ?_
   refine sC (E:=fun (s : Bool) (g : Nat × Nat × Nat)=>[(1,.optr 1 g.1 0 0),(3,.osl 3 g.2.1 0 out2.length),(4,.int .i64 k3),(6,.optr 6 g.2.2 0 0),(7,.bool s)]) (O:=fun _ g=>[(1,some (g.1,⟨false,true,3,40,[.agg [.int .i64 f1.Params,.sl (f1.Slots.map Pn),.sl (f1.Code.map Pm)]]⟩)),(3,some (g.2.1,⟨false,false,2,135,out2.map TA⟩)),(6,some (g.2.2,⟨false,true,2,135,[.agg [.int .i64 x_x5.A,.int .i64 x_x5.B]]⟩))]) (j:=fun s=>Uk out2 x_x5 k3 s) ?_ ?_
   ·exact B
   ·rintro old6 ⟨v1x2,v3x2,v6x2⟩ nn
    try dsimp only
    unfold Uk
    refine A 7 ?_
    refine lP (E:=fun (s : Bool × Int) (g : Nat × Nat × Nat)=>[(1,.optr 1 g.1 0 0),(3,.osl 3 g.2.1 0 out2.length),(4,.int .i64 k3),(6,.optr 6 g.2.2 0 0),(7,.bool s.1),(8,.int .i64 s.2)]) (O:=fun _ g=>[(1,some (g.1,⟨false,true,3,40,[.agg [.int .i64 f1.Params,.sl (f1.Slots.map Pn),.sl (f1.Code.map Pm)]]⟩)),(3,some (g.2.1,⟨false,false,2,135,out2.map TA⟩)),(6,some (g.2.2,⟨false,true,2,135,[.agg [.int .i64 x_x5.A,.int .i64 x_x5.B]]⟩))]) (body:=fun s=>YL out2 x_x5 k3 s.1 s.2) (s:=(old6,0)) (_,_,_) ((hE ⟨rfl,r,r,r,r,r,trivial⟩ ⟨rfl,r,r,trivial⟩))<|?_
    rintro ⟨old7,i8⟩ ⟨v1x3,v3x3,v6x3⟩ nn
    try dsimp only
    unfold YL
    refine A 9 ?_
    refine cD r ?_ ?_
    ·exact B
    ·refine A 11 ?_
     refine cD r ?_ ?_
     ·refine A 3 ?_
      refine bS ([(PR.mk x_x5.A x_x5.B)] : List PR) TA r r r (by simp) r r r<|?_
      exact B
     ·exact B
  ·rintro out4 ⟨v1x4,v3x4⟩ nn
   try dsimp only
   unfold Wh
   exact B
 ·exact B

def Air (b : (List Int)) : D:=.sl (b.map Pa)
noncomputable def AaQ : Dw.Spec:=Pf [] (.row 1 3) Rh Rg (fun a=>TM a.1 a.2) Air noE
theorem AcS : Pd Tryz.prog 101 AaQ:=by
 refine fn2 2 (Pv) Tryz.func101<|?_
 rintro ⟨to1,s2⟩
 unfold TM
 refine A 17 ?_
 refine lP (E:=fun (s : (List Int) × Int) (g : Nat)=>[(0,.sl (to1.map Pa)),(1,.int .i64 s2),(5,.osl 5 g 0 s.1.length),(6,.int .i64 s.2)]) (O:=fun s g=>[(5,some (g,⟨false,false,1,3,s.1.map Pa⟩))]) (body:=fun s=>WC to1 s2 s.1 s.2) (s:=(([] : List Int),0)) _ ((hE ⟨rfl,r,r,r,trivial⟩ ⟨rfl,trivial⟩))<|?_
 rintro ⟨out3,t4⟩ v5x1 nn
 try dsimp only
 unfold WC
 exact B

def XD (a : (List (List Int)) × (List Int) × Int × Int) : List D:=[.sl (a.1.map (eL Pa)),.sl (a.2.1.map Pa),.int .i64 a.2.2.1,.int .i64 a.2.2.2]
def XC (ds : List D) : (List (List Int)) × (List Int) × Int × Int:=((uL (uL uI)) (ds.getD 0 .top),(uL uI) (ds.getD 1 .top),uI (ds.getD 2 .top),uI (ds.getD 3 .top))
theorem Ajt (a : (List (List Int)) × (List Int) × Int × Int) : XC (XD a) = a:=by simp [XC,XD,uI,PV (u:=(uL uI)) (en:=(eL Pa)) (PV (u:=uI) (en:=Pa) (fun _=>rfl)),PV (u:=uI) (en:=Pa) (fun _=>rfl)]
instance : Px XD XC:=⟨Ajt⟩
def AkH (b : Bool) : D:=.bool b
noncomputable def Afk : Dw.Spec:=Pf [] .ground XD XC (fun a=>Zy a.1 a.2.1 a.2.2.1 a.2.2.2) AkH noE
theorem Aju : Pd Tryz.prog 97 Afk:=by
 refine fn2 4 (Pk (l:=[(101,AaQ),(15,Xh)]) (by simp [AcS,Ye])) Tryz.func97<|?_
 rintro ⟨g1,to2,a3,b4⟩
 unfold Zy
 refine A 9 ?_
 refine bD fun r5 hr5=>?_
 refine A 3 ?_
 refine bD fun r6 hr6=>?_
 refine A 12 ?_
 refine lP (E:=fun (s : Int) (g : Nat × Nat)=>[(0,.sl (g1.map (eL Pa))),(9,.osl 9 g.1 0 r5.length),(10,.osl 10 g.2 0 r6.length),(11,.int .i64 s)]) (O:=fun _ g=>[(9,some (g.1,⟨false,false,1,3,r5.map Pa⟩)),(10,some (g.2,⟨false,false,1,3,r6.map Pa⟩))]) (body:=fun s=>YQ r5 r6 g1 s) (s:=0) (_,_) ((hE ⟨rfl,r,r,r,trivial⟩ ⟨rfl,r,trivial⟩))<|?_
 rintro i7 ⟨v9x1,v10x1⟩ nn
 try dsimp only
 unfold YQ
 refine A 9 ?_
 refine cD r ?_ ?_
 ·refine A 2 ?_
  refine bC (E:=fun (_s : Unit) (g : Nat × Nat)=>[(0,.sl (g1.map (eL Pa))),(9,.osl 9 g.1 0 r5.length),(10,.osl 10 g.2 0 r6.length),(11,.int .i64 i7)]) (O:=fun _ g=>[(9,some (g.1,⟨false,false,1,3,r5.map Pa⟩)),(10,some (g.2,⟨false,false,1,3,r6.map Pa⟩))]) (j:=fun _=>YS i7) ?_ ?_
  ·refine A 6 ?_
   refine lP (E:=fun (s : Int) (g : Nat × Nat)=>[(0,.sl (g1.map (eL Pa))),(9,.osl 9 g.1 0 r5.length),(10,.osl 10 g.2 0 r6.length),(11,.int .i64 i7),(12,.int .i64 s)]) (O:=fun _ g=>[(9,some (g.1,⟨false,false,1,3,r5.map Pa⟩)),(10,some (g.2,⟨false,false,1,3,r6.map Pa⟩))]) (body:=fun s=>YR r6 i7 r5 g1 s) (s:=0) (_,_) ((hE ⟨rfl,r,r,r,r,trivial⟩ ⟨rfl,r,trivial⟩))<|?_
   rintro k8 ⟨v9x2,v10x2⟩ nn
   try dsimp only
   unfold YR
   exact B
  ·rintro ⟨⟩ ⟨v9x3,v10x3⟩ nn
   try dsimp only
   unfold YS
   exact B
 ·exact B

def VM (a : OX × (List (List Int))) : List D:=[PL a.1,.sl (a.2.map (eL Pa))]
def VL (ds : List D) : OX × (List (List Int)):=(SM (ds.getD 0 .top),(uL (uL uI)) (ds.getD 1 .top))
theorem AhF (a : OX × (List (List Int))) : VL (VM a) = a:=by simp [VL,VM,PV (u:=(uL uI)) (en:=(eL Pa)) (PV (u:=uI) (en:=Pa) (fun _=>rfl))]
instance : Px VM VL:=⟨AhF⟩
def Aiq (b : (List Int)) : D:=.sl (b.map Pa)
noncomputable def Adx : Dw.Spec:=Pf [] (.row 1 3) VM VL (fun a=>UQ a.1 a.2) Aiq noE
theorem AhG : Pd Tryz.prog 78 Adx:=by
 refine fn2 2 (Pk (l:=[(96,Afi),(97,Afk)]) (by simp [Ajo,Aju])) Tryz.func78<|?_
 rintro ⟨f1,g2⟩
 unfold UQ
 refine A 18 ?_
 refine lP (E:=fun (s : (List Int) × Int) (g : Nat × Nat)=>[(1,.sl (g2.map (eL Pa))),(2,.optr 2 g.1 0 0),(5,.osl 5 g.2 0 s.1.length),(6,.int .i64 s.2)]) (O:=fun s g=>[(2,some (g.1,⟨false,true,3,40,[.agg [.int .i64 f1.Params,.sl (f1.Slots.map Pn),.sl (f1.Code.map Pm)]]⟩)),(5,some (g.2,⟨false,false,1,3,s.1.map Pa⟩))]) (body:=fun s=>Wy f1 g2 s.1 s.2) (s:=(([] : List Int),0)) (_,_) ((hE ⟨rfl,r,r,r,trivial⟩ ⟨rfl,r,trivial⟩))<|?_
 rintro ⟨to3,s4⟩ ⟨v2x1,v5x1⟩ nn
 try dsimp only
 unfold Wy
 refine A 10 ?_
 refine cD r ?_ ?_
 ·exact B
 ·refine A 8 ?_
  refine bD fun r5 hr5=>?_
  refine A 11 ?_
  refine lP (E:=fun (s : (List Int) × Int) (g : Nat × Nat)=>[(1,.sl (g2.map (eL Pa))),(5,.osl 5 g.1 0 s.1.length),(7,.osl 7 g.2 0 r5.length),(8,.int .i64 s.2)]) (O:=fun s g=>[(5,some (g.1,⟨false,false,1,3,s.1.map Pa⟩)),(7,some (g.2,⟨false,false,2,135,r5.map TA⟩))]) (body:=fun s=>Wz r5 g2 s.1 s.2) (s:=(to3,0)) (_,_) ((hE ⟨rfl,r,r,r,trivial⟩ ⟨rfl,r,trivial⟩))<|?_
  rintro ⟨to6,i7⟩ ⟨v5x2,v7x2⟩ nn
  try dsimp only
  unfold Wz
  refine A 9 ?_
  refine cD r ?_ ?_
  ·refine A 2 ?_
   refine bC (E:=fun (s : (List Int)) (g : Nat × Nat)=>[(1,.sl (g2.map (eL Pa))),(5,.osl 5 g.1 0 s.length),(7,.osl 7 g.2 0 r5.length),(8,.int .i64 i7)]) (O:=fun s g=>[(5,some (g.1,⟨false,false,1,3,s.map Pa⟩)),(7,some (g.2,⟨false,false,2,135,r5.map TA⟩))]) (j:=fun s=>Ri i7 s) ?_ ?_
   ·refine A 6 ?_
    refine Uo r r r (by decide)<|bD fun moves_e9 hmoves_e9=>?_
    refine A 2 ?_
    refine bD fun to_e10 hto_e10=>?_
    refine A 5 ?_
    refine Uo r r r (by decide)<|bD fun moves_e11 hmoves_e11=>?_
    refine A 2 ?_
    refine bD fun to_e12 hto_e12=>?_
    refine A 5 ?_
    refine sC (E:=fun (s : Bool × Bool) (g : Nat × Nat)=>[(1,.sl (g2.map (eL Pa))),(5,.osl 5 g.1 0 to6.length),(7,.osl 7 g.2 0 r5.length),(8,.int .i64 i7),(9,.int .i64 to_e10),(10,.int .i64 to_e12),(51,.sl (g2.map (eL Pa))),(52,.osl 5 g.1 0 to6.length),(53,.int .i64 to_e10),(54,.int .i64 to_e12),(55,.bool s.1),(56,.bool s.2)]) (O:=fun _ g=>[(5,some (g.1,⟨false,false,1,3,to6.map Pa⟩)),(7,some (g.2,⟨false,false,2,135,r5.map TA⟩))]) (j:=fun s=>WB to_e10 to_e12 i7 to6 s.1 s.2) ?_ ?_
    ·exact B
    ·rintro ⟨x13,x14⟩ ⟨v5x3,v7x3⟩ nn
     try dsimp only
     unfold WB
     refine A 6 ?_
     refine lP (E:=fun (s : (List Int) × Int) (g : Nat × Nat)=>[(1,.sl (g2.map (eL Pa))),(5,.osl 5 g.1 0 s.1.length),(7,.osl 7 g.2 0 r5.length),(8,.int .i64 i7),(9,.int .i64 to_e10),(10,.int .i64 to_e12),(11,.int .i64 s.2),(51,.sl (g2.map (eL Pa))),(52,.osl 5 g.1 0 s.1.length),(53,.int .i64 to_e10),(54,.int .i64 to_e12),(55,.bool x13),(56,.bool x14)]) (O:=fun s g=>[(5,some (g.1,⟨false,false,1,3,s.1.map Pa⟩)),(7,some (g.2,⟨false,false,2,135,r5.map TA⟩))]) (body:=fun s=>WA to_e10 to_e12 i7 s.1 s.2) (s:=(to6,0)) (_,_) ((hE ⟨rfl,r,r,r,r,r,r,r,r,r,r,r,r,trivial⟩ ⟨rfl,r,trivial⟩))<|?_
     rintro ⟨to16,s17⟩ ⟨v5x4,v7x4⟩ nn
     try dsimp only
     unfold WA
     refine A 9 ?_
     refine cD r ?_ ?_
     ·refine A 4 ?_
      refine sC (E:=fun (s : Bool) (g : Nat × Nat)=>[(1,.sl (g2.map (eL Pa))),(5,.osl 5 g.1 0 to16.length),(7,.osl 7 g.2 0 r5.length),(8,.int .i64 i7),(9,.int .i64 to_e10),(10,.int .i64 to_e12),(11,.int .i64 s17),(51,.sl (g2.map (eL Pa))),(52,.osl 5 g.1 0 to16.length),(53,.int .i64 to_e10),(54,.int .i64 to_e12),(55,.bool x13),(56,.bool x14),(77,.bool s)]) (O:=fun _ g=>[(5,some (g.1,⟨false,false,1,3,to16.map Pa⟩)),(7,some (g.2,⟨false,false,2,135,r5.map TA⟩))]) (j:=fun s=>SX s17 to16 to_e10 to_e12 s) ?_ ?_
      ·exact B
      ·rintro x18 ⟨v5x5,v7x5⟩ nn
       try dsimp only
       unfold SX
       exact B
     ·exact B
   ·rintro to8 ⟨v5x6,v7x6⟩ nn
    try dsimp only
    unfold Ri
    exact B
  ·exact B

def AlM (b : Bool) : D:=.bool b
noncomputable def Agf : Dw.Spec:=Pf [] .ground TS TR (fun a=>AaR a.1 a.2.1 a.2.2) AlM noE
theorem AkK : Pd Tryz.prog 98 Agf:=by
 refine fn2 3 (Pk (l:=[(14,Vq),(15,Xh)]) (by simp [Wx,Ye])) Tryz.func98<|?_
 intro a
 unfold AaR
 exact B

def YV (a : OX × Pg × (List Int)) : List D:=[PL a.1,Qt a.2.1,.sl (a.2.2.map Pa)]
def YU (ds : List D) : OX × Pg × (List Int):=(SM (ds.getD 0 .top),VR (ds.getD 1 .top),(uL uI) (ds.getD 2 .top))
theorem AkI (a : OX × Pg × (List Int)) : YU (YV a) = a:=by simp [YU,YV,PV (u:=uI) (en:=Pa) (fun _=>rfl)]
instance : Px YV YU:=⟨AkI⟩
def AlL (b : (List Bool)) : D:=.sl (b.map D.bool)
noncomputable def Age : Dw.Spec:=Pf [] (.row 1 4) YV YU (fun a=>YT a.1 a.2.1 a.2.2) AlL noE
theorem AkJ : Pd Tryz.prog 79 Age:=by
 refine fn2 3 (Pk (l:=[(98,Agf)]) (by simp [AkK])) Tryz.func79<|?_
 rintro ⟨f1,l2,to3⟩
 unfold YT
 refine A 19 ?_
 refine lP (E:=fun (s : (List Bool) × Int) (g : Nat × Nat × Nat)=>[(2,.sl (to3.map Pa)),(3,.optr 3 g.1 0 0),(4,.optr 4 g.2.1 0 0),(7,.osl 7 g.2.2 0 s.1.length),(8,.int .i64 s.2)]) (O:=fun s g=>[(3,some (g.1,⟨false,true,3,40,[.agg [.int .i64 f1.Params,.sl (f1.Slots.map Pn),.sl (f1.Code.map Pm)]]⟩)),(4,some (g.2.1,⟨false,true,1,29,[.agg [.sl (l2.Out.map (eL Pa))]]⟩)),(7,some (g.2.2,⟨false,false,1,4,s.1.map D.bool⟩))]) (body:=fun s=>ZN f1 l2 to3 s.1 s.2) (s:=(([] : List Bool),0)) (_,_,_) ((hE ⟨rfl,r,r,r,r,trivial⟩ ⟨rfl,r,r,trivial⟩))<|?_
 rintro ⟨out4,k5⟩ ⟨v3x1,v4x1,v7x1⟩ nn
 try dsimp only
 unfold ZN
 exact B

def XB (a : OX × (List Int)) : List D:=[PL a.1,.sl (a.2.map Pa)]
def XA (ds : List D) : OX × (List Int):=(SM (ds.getD 0 .top),(uL uI) (ds.getD 1 .top))
theorem Ajr (a : OX × (List Int)) : XA (XB a) = a:=by simp [XA,XB,PV (u:=uI) (en:=Pa) (fun _=>rfl)]
instance : Px XB XA:=⟨Ajr⟩
def AkG (b : Bool) : D:=.bool b
noncomputable def Afj : Dw.Spec:=Pf [] .ground XB XA (fun a=>Zx a.1 a.2) AkG noE
theorem Ajs : Pd Tryz.prog 121 Afj:=by
 refine fn2 2 (Pv) Tryz.func121<|?_
 rintro ⟨f1,to2⟩
 unfold Zx
 refine A 17 ?_
 refine cD r ?_ ?_
 ·exact B
 ·refine A 9 ?_
  refine lP (E:=fun (s : Int) (g : Nat)=>[(1,.sl (to2.map Pa)),(2,.optr 2 g 0 0),(5,.int .i64 s)]) (O:=fun _ g=>[(2,some (g,⟨false,true,3,40,[.agg [.int .i64 f1.Params,.sl (f1.Slots.map Pn),.sl (f1.Code.map Pm)]]⟩))]) (body:=fun s=>YO to2 f1 s) (s:=0) _ ((hE ⟨rfl,r,r,trivial⟩ ⟨rfl,trivial⟩))<|?_
  rintro s3 v2x1 nn
  try dsimp only
  unfold YO
  refine A 9 ?_
  refine cD r ?_ ?_
  ·exact B
  ·refine A 12 ?_
   refine lP (E:=fun (s : Int) (g : Nat)=>[(1,.sl (to2.map Pa)),(2,.optr 2 g 0 0),(6,.int .i64 s)]) (O:=fun _ g=>[(2,some (g,⟨false,true,3,40,[.agg [.int .i64 f1.Params,.sl (f1.Slots.map Pn),.sl (f1.Code.map Pm)]]⟩))]) (body:=fun s=>YP to2 f1 s) (s:=0) _ ((hE ⟨rfl,r,r,trivial⟩ ⟨rfl,trivial⟩))<|?_
   rintro s6 v2x2 nn
   try dsimp only
   unfold YP
   exact B

def TF (a : OX × Pw) : List D:=[PL a.1,Aeh a.2]
def TE (ds : List D) : OX × Pw:=(SM (ds.getD 0 .top),AeB (ds.getD 1 .top))
theorem Ajw (a : OX × Pw) : TE (TF a) = a:=by simp [TE,TF]
instance : Px TF TE:=⟨Ajw⟩
def AkL (b : Int) : D:=.int .i64 b
noncomputable def Afn : Dw.Spec:=Pf [] .ground TF TE (fun a=>Zz a.1 a.2) AkL noE
theorem Ajx : Pd Tryz.prog 99 Afn:=by
 refine fn2 2 (Pk (l:=[(121,Afj),(37,Zl)]) (by simp [Ajs,AbN])) Tryz.func99<|?_
 rintro ⟨f1,r2⟩
 unfold Zz
 refine A 7 ?_
 refine sC (E:=fun (_s : Unit) (g : Nat × Nat)=>[(2,.optr 2 g.1 0 0),(3,.optr 3 g.2 0 0)]) (O:=fun _ g=>[(2,some (g.1,⟨false,true,3,40,[.agg [.int .i64 f1.Params,.sl (f1.Slots.map Pn),.sl (f1.Code.map Pm)]]⟩)),(3,some (g.2,⟨false,true,2,104,[.agg [.sl (r2.To.map Pa),.sl (r2.Keep.map D.bool)]]⟩))]) (j:=fun _=>YZ f1 r2) ?_ ?_
 ·exact B
 ·rintro ⟨⟩ ⟨v2x1,v3x1⟩ nn
  try dsimp only
  unfold YZ
  refine A 7 ?_
  refine lP (E:=fun (s : Int) (g : Nat × Nat)=>[(2,.optr 2 g.1 0 0),(3,.optr 3 g.2 0 0),(5,.int .i64 s)]) (O:=fun _ g=>[(2,some (g.1,⟨false,true,3,40,[.agg [.int .i64 f1.Params,.sl (f1.Slots.map Pn),.sl (f1.Code.map Pm)]]⟩)),(3,some (g.2,⟨false,true,2,104,[.agg [.sl (r2.To.map Pa),.sl (r2.Keep.map D.bool)]]⟩))]) (body:=fun s=>YY f1 r2 s) (s:=0) (_,_) ((hE ⟨rfl,r,r,trivial⟩ ⟨rfl,r,trivial⟩))<|?_
  rintro k4 ⟨v2x2,v3x2⟩ nn
  try dsimp only
  unfold YY
  exact B

def VK (a : Int × (List Int)) : List D:=[.int .i64 a.1,.sl (a.2.map Pa)]
def VJ (ds : List D) : Int × (List Int):=(uI (ds.getD 0 .top),(uL uI) (ds.getD 1 .top))
theorem AhB (a : Int × (List Int)) : VJ (VK a) = a:=by simp [VJ,VK,uI,PV (u:=uI) (en:=Pa) (fun _=>rfl)]
instance : Px VK VJ:=⟨AhB⟩
def Ain (b : Int) : D:=.int .i64 b
noncomputable def Adv : Dw.Spec:=Pf [] .ground VK VJ (fun a=>Sy a.1 a.2) Ain noE
theorem AhC : Pd Tryz.prog 122 Adv:=by
 refine fn2 2 (Pv) Tryz.func122<|?_
 intro a
 unfold Sy
 exact B

def Aim (b : OZ) : D:=Pm b
noncomputable def AaM : Dw.Spec:=Pf [] .ground Wg Wf (fun a=>UN a.1 a.2) Aim noE
theorem AcQ : Pd Tryz.prog 104 AaM:=by
 refine fn2 2 (Pk (l:=[(122,Adv)]) (by simp [AhC])) Tryz.func104<|?_
 intro a
 unfold UN
 exact B

def AlN (b : (List Int)) : D:=.sl (b.map Pa)
noncomputable def Agg : Dw.Spec:=Pf [] (.row 1 3) TF TE (fun a=>AaS a.1 a.2) AlN noE
theorem AkM : Pd Tryz.prog 100 Agg:=by
 refine fn2 2 (Pk (l:=[(104,AaM),(88,AcR),(64,WX),(14,Vq),(32,Xf)]) (by simp [AcQ,Afd,Yz,Wx,Yd])) Tryz.func100<|?_
 rintro ⟨f1,r2⟩
 unfold AaS
 refine A 19 ?_
 refine lP (E:=fun (s : (List Int) × Int) (g : Nat × Nat × Nat)=>[(2,.optr 2 g.1 0 0),(3,.optr 3 g.2.1 0 0),(5,.osl 5 g.2.2 0 s.1.length),(6,.int .i64 s.2)]) (O:=fun s g=>[(2,some (g.1,⟨false,true,3,40,[.agg [.int .i64 f1.Params,.sl (f1.Slots.map Pn),.sl (f1.Code.map Pm)]]⟩)),(3,some (g.2.1,⟨false,true,2,104,[.agg [.sl (r2.To.map Pa),.sl (r2.Keep.map D.bool)]]⟩)),(5,some (g.2.2,⟨false,false,1,3,s.1.map Pa⟩))]) (body:=fun s=>ZP f1 r2 s.1 s.2) (s:=(([] : List Int),0)) (_,_,_) ((hE ⟨rfl,r,r,r,trivial⟩ ⟨rfl,r,r,trivial⟩))<|?_
 rintro ⟨out3,k4⟩ ⟨v2x1,v3x1,v5x1⟩ nn
 try dsimp only
 unfold ZP
 refine sC (E:=fun (_s : Unit) (g : Nat × Nat × Nat)=>[(2,.optr 2 g.1 0 0),(3,.optr 3 g.2.1 0 0),(5,.osl 5 g.2.2 0 out3.length),(6,.int .i64 k4),(16,.int .i64 k4),(17,.optr 3 g.2.1 0 1),(18,.sl (r2.Keep.map D.bool)),(19,.int .i64 (r2.Keep.length : Int)),(20,.bool (decide (k4 < (r2.Keep.length : Int))))]) (O:=fun _ g=>[(2,some (g.1,⟨false,true,3,40,[.agg [.int .i64 f1.Params,.sl (f1.Slots.map Pn),.sl (f1.Code.map Pm)]]⟩)),(3,some (g.2.1,⟨false,true,2,104,[.agg [.sl (r2.To.map Pa),.sl (r2.Keep.map D.bool)]]⟩)),(5,some (g.2.2,⟨false,false,1,3,out3.map Pa⟩))]) (j:=fun _=>ZQ r2 k4 out3 f1) ?_ ?_
 ·exact B
 ·rintro ⟨⟩ ⟨v2x2,v3x2,v5x2⟩ nn
  try dsimp only
  unfold ZQ
  exact B

def VO (a : Pw × (List Int)) : List D:=[Aeh a.1,.sl (a.2.map Pa)]
def VN (ds : List D) : Pw × (List Int):=(AeB (ds.getD 0 .top),(uL uI) (ds.getD 1 .top))
theorem AhJ (a : Pw × (List Int)) : VN (VO a) = a:=by simp [VN,VO,PV (u:=uI) (en:=Pa) (fun _=>rfl)]
instance : Px VO VN:=⟨AhJ⟩
def Aiu (b : (List Int)) : D:=.sl (b.map Pa)
noncomputable def AdA : Dw.Spec:=Pf [] (.row 1 3) VO VN (fun a=>WZ a.1 a.2) Aiu noE
theorem AhK : Pd Tryz.prog 102 AdA:=by
 refine fn2 2 (Pv) Tryz.func102<|?_
 rintro ⟨r1,used2⟩
 unfold WZ
 refine A 18 ?_
 refine lP (E:=fun (s : (List Int) × Int) (g : Nat × Nat)=>[(1,.sl (used2.map Pa)),(2,.optr 2 g.1 0 0),(5,.osl 5 g.2 0 s.1.length),(6,.int .i64 s.2)]) (O:=fun s g=>[(2,some (g.1,⟨false,true,2,104,[.agg [.sl (r1.To.map Pa),.sl (r1.Keep.map D.bool)]]⟩)),(5,some (g.2,⟨false,false,1,3,s.1.map Pa⟩))]) (body:=fun s=>WG r1 used2 s.1 s.2) (s:=(([] : List Int),0)) (_,_) ((hE ⟨rfl,r,r,r,trivial⟩ ⟨rfl,r,trivial⟩))<|?_
 rintro ⟨out3,s4⟩ ⟨v2x1,v5x1⟩ nn
 try dsimp only
 unfold WG
 refine A 10 ?_
 refine cD r ?_ ?_
 ·refine A 2 ?_
  refine bC (E:=fun (s : (List Int)) (g : Nat × Nat)=>[(1,.sl (used2.map Pa)),(2,.optr 2 g.1 0 0),(5,.osl 5 g.2 0 s.length),(6,.int .i64 s4)]) (O:=fun s g=>[(2,some (g.1,⟨false,true,2,104,[.agg [.sl (r1.To.map Pa),.sl (r1.Keep.map D.bool)]]⟩)),(5,some (g.2,⟨false,false,1,3,s.map Pa⟩))]) (j:=fun s=>WI s4 s) ?_ ?_
  ·refine A 12 ?_
   refine lP (E:=fun (s : Int × Int) (g : Nat × Nat)=>[(1,.sl (used2.map Pa)),(2,.optr 2 g.1 0 0),(5,.osl 5 g.2 0 out3.length),(6,.int .i64 s4),(7,.int .i64 s.1),(8,.int .i64 s.2)]) (O:=fun _ g=>[(2,some (g.1,⟨false,true,2,104,[.agg [.sl (r1.To.map Pa),.sl (r1.Keep.map D.bool)]]⟩)),(5,some (g.2,⟨false,false,1,3,out3.map Pa⟩))]) (body:=fun s=>WH used2 r1 s4 out3 s.1 s.2) (s:=(0,0)) (_,_) ((hE ⟨rfl,r,r,r,r,r,trivial⟩ ⟨rfl,r,trivial⟩))<|?_
   rintro ⟨n6,i7⟩ ⟨v2x2,v5x2⟩ nn
   try dsimp only
   unfold WH
   exact B
  ·rintro out5 ⟨v2x3,v5x3⟩ nn
   try dsimp only
   unfold WI
   exact B
 ·exact B

def WE (a : Pw) : List D:=[Aeh a]
def WD (ds : List D) : Pw:=AeB (ds.getD 0 .top)
theorem Ais (a : Pw) : WD (WE a) = a:=by simp [WD,WE]
instance : Px WE WD:=⟨Ais⟩
def Ajy (b : (List Int)) : D:=.sl (b.map Pa)
noncomputable def Aet : Dw.Spec:=Pf [] (.row 1 3) WE WD (fun a=>Yf a) Ajy noE
theorem Ait : Pd Tryz.prog 103 Aet:=by
 refine fn2 1 (Pv) Tryz.func103<|?_
 intro r1
 unfold Yf
 refine A 23 ?_
 refine lP (E:=fun (s : (List Int) × Int × Int) (g : Nat × Nat)=>[(1,.optr 1 g.1 0 0),(3,.osl 3 g.2 0 s.1.length),(4,.int .i64 s.2.1),(5,.int .i64 s.2.2)]) (O:=fun s g=>[(1,some (g.1,⟨false,true,2,104,[.agg [.sl (r1.To.map Pa),.sl (r1.Keep.map D.bool)]]⟩)),(3,some (g.2,⟨false,false,1,3,s.1.map Pa⟩))]) (body:=fun s=>XE r1 s.1 s.2.1 s.2.2) (s:=(([] : List Int),0,0)) (_,_) ((hE ⟨rfl,r,r,r,trivial⟩ ⟨rfl,r,trivial⟩))<|?_
 rintro ⟨out2,n3,k4⟩ ⟨v1x1,v3x1⟩ nn
 try dsimp only
 unfold XE
 exact B

def Afl (b : OX × Int) : D:=.tup [PL b.1,.int .i64 b.2]
noncomputable def Afm : Dw.Spec:=Pf [] .val TF TE (fun a=>VB a.1 a.2) Afl noE
theorem Ajv : Pd Tryz.prog 80 Afm:=by
 refine fn2 2 (Pk (l:=[(99,Afn),(100,Agg),(101,AaQ),(102,AdA),(103,Aet),(104,AaM)]) (by simp [Ajx,AkM,AcS,AhK,Ait,AcQ])) Tryz.func80<|?_
 rintro ⟨f1,r2⟩
 unfold VB
 refine A 13 ?_
 refine bD fun r3 hr3=>?_
 refine A 10 ?_
 refine cD r ?_ ?_
 ·refine A 10 ?_
  refine Qu (b:=((OX.mk 0 ([]) ([])),r3)) r ?_ r r ?_ (by first | rfl | (simp only [OV]; rfl) | (simp only [OW]; rfl) | (simp only [OV,OW]; rfl) | simp [Afl,PL]) (by decide)
  all_goals first|(simp;done)|(simp;omega)|rfl|(simp [PG,PE];done)
 ·refine A 6 ?_
  refine bD fun r4 hr4=>?_
  refine A 20 ?_
  refine lP (E:=fun (s : (List Po) × Int) (g : Nat × Nat × Nat × Nat × Nat)=>[(2,.optr 2 g.1 0 0),(3,.optr 3 g.2.1 0 0),(4,.optr 4 g.2.2.1 0 0),(7,.osl 7 g.2.2.2.1 0 r4.length),(8,.optr 8 g.2.2.2.2 0 0),(9,.int .i64 s.2)]) (O:=fun s g=>[(2,some (g.1,⟨false,true,3,40,[.agg [.int .i64 f1.Params,.sl (f1.Slots.map Pn),.sl (f1.Code.map Pm)]]⟩)),(3,some (g.2.1,⟨false,true,2,104,[.agg [.sl (r2.To.map Pa),.sl (r2.Keep.map D.bool)]]⟩)),(4,some (g.2.2.1,⟨false,true,3,40,[.agg [.int .i64 0,.nils,.nils]]⟩)),(7,some (g.2.2.2.1,⟨false,false,1,3,r4.map Pa⟩)),(8,some (g.2.2.2.2,⟨false,true,3,40,[.agg [.int .i64 f1.Params,.sl (s.1.map Pn),.nils]]⟩))]) (body:=fun s=>YW r4 f1 r2 s.1 s.2) (s:=([],0)) (_,_,_,_,_) ((Abq [] trivial ⟨(PF r),(PF r),(PF r),(PF r),(PF r),(PF r),trivial⟩ ⟨(.inl r),(.inl r),(.inl r),(.inl r),(.inr ⟨_,_,_,_,r,r,r,r,ZT r ⟨(UY r),(XS Pn r),(UY r),trivial⟩⟩),trivial⟩))<|?_
  rintro ⟨out5,i6⟩ ⟨v2x1,v3x1,v4x1,v7x1,v8x1⟩ nn
  try dsimp only
  unfold YW
  refine A 9 ?_
  refine cD r ?_ ?_
  ·refine A 2 ?_
   refine bC (E:=fun (_s : (List Po)) (g : Nat × Nat × Nat × Nat × Nat × Nat)=>[(2,.optr 2 g.1 0 0),(3,.optr 3 g.2.1 0 0),(4,.optr 4 g.2.2.1 0 0),(7,.osl 7 g.2.2.2.1 0 r4.length),(8,.optr 8 g.2.2.2.2.1 0 0),(9,.int .i64 i6)]) (O:=fun s g=>[(2,some (g.1,⟨false,true,3,40,[.agg [.int .i64 f1.Params,.sl (f1.Slots.map Pn),.sl (f1.Code.map Pm)]]⟩)),(3,some (g.2.1,⟨false,true,2,104,[.agg [.sl (r2.To.map Pa),.sl (r2.Keep.map D.bool)]]⟩)),(4,some (g.2.2.1,⟨false,true,3,40,[.agg [.int .i64 0,.nils,.nils]]⟩)),(7,some (g.2.2.2.1,⟨false,false,1,3,r4.map Pa⟩)),(8,some (g.2.2.2.2.1,⟨false,true,3,40,[.agg [.int .i64 f1.Params,.osl 13 g.2.2.2.2.2 0 s.length,.nils]]⟩)),(13,some (g.2.2.2.2.2,⟨false,false,2,54,s.map Pn⟩))]) (j:=fun s=>YX i6 s) ?_ ?_
   ·refine A 7 ?_
    refine bD fun used_e8 hused_e8=>?_
    refine A 1 ?_
    refine bD fun x_x9 hx_x9=>?_
    refine A 13 ?_
    refine bD fun used_e10 hused_e10=>?_
    refine A 1 ?_
    refine bD fun r11 hr11=>?_
    refine A 11 ?_
    refine lP (E:=fun (s : Int × Int) (g : Nat × Nat × Nat × Nat × Nat × Nat × Nat)=>[(2,.optr 2 g.1 0 0),(3,.optr 3 g.2.1 0 0),(4,.optr 4 g.2.2.1 0 0),(7,.osl 7 g.2.2.2.1 0 r4.length),(8,.optr 8 g.2.2.2.2.1 0 0),(9,.int .i64 i6),(10,.optr 10 g.2.2.2.2.2.1 0 0),(11,.osl 11 g.2.2.2.2.2.2 0 r11.length),(12,.int .i64 s.2)]) (O:=fun s g=>[(2,some (g.1,⟨false,true,3,40,[.agg [.int .i64 f1.Params,.sl (f1.Slots.map Pn),.sl (f1.Code.map Pm)]]⟩)),(3,some (g.2.1,⟨false,true,2,104,[.agg [.sl (r2.To.map Pa),.sl (r2.Keep.map D.bool)]]⟩)),(4,some (g.2.2.1,⟨false,true,3,40,[.agg [.int .i64 0,.nils,.nils]]⟩)),(7,some (g.2.2.2.1,⟨false,false,1,3,r4.map Pa⟩)),(8,some (g.2.2.2.2.1,⟨false,true,3,40,[.agg [.int .i64 f1.Params,.sl (out5.map Pn),.nils]]⟩)),(10,some (g.2.2.2.2.2.1,⟨false,true,2,54,[.agg [.int .i64 x_x9.Size,.int .i64 s.1]]⟩)),(11,some (g.2.2.2.2.2.2,⟨false,false,1,3,r11.map Pa⟩))]) (body:=fun s=>Wj r11 f1 out5 x_x9 i6 s.1 s.2) (s:=(x_x9.Align,0)) (_,_,_,_,_,_,_) ((hE ⟨rfl,r,r,r,r,r,r,r,r,trivial⟩ ⟨rfl,r,r,r,r,r,r,trivial⟩))<|?_
    rintro ⟨s12,k13⟩ ⟨v2x2,v3x2,v4x2,v7x2,v8x2,v10x2,v11x2⟩ nn
    try dsimp only
    unfold Wj
    refine A 9 ?_
    refine cD r ?_ ?_
    ·exact B
    ·refine A 11 ?_
     refine bS ([(Po.mk x_x9.Size s12)] : List Po) Pn r r r (by simp) r r r<|?_
     exact B
   ·rintro slots7 ⟨v2x3,v3x3,v4x3,v7x3,v8x3,v13x3⟩ nn
    try dsimp only
    unfold YX
    refine A 5 ?_
    exact wf [13] fun _=>B
  ·refine A 9 ?_
   refine bD fun r16 hr16=>?_
   refine A 2 ?_
   refine bD fun r17 hr17=>?_
   refine A 12 ?_
   refine lP (E:=fun (s : (List OZ) × Int) (g : Nat × Nat × Nat × Nat × Nat × Nat)=>[(2,.optr 2 g.1 0 0),(3,.optr 3 g.2.1 0 0),(4,.optr 4 g.2.2.1 0 0),(8,.optr 8 g.2.2.2.1 0 0),(14,.osl 14 g.2.2.2.2.1 0 r16.length),(15,.osl 15 g.2.2.2.2.2 0 r17.length),(16,.int .i64 s.2)]) (O:=fun s g=>[(2,some (g.1,⟨false,true,3,40,[.agg [.int .i64 f1.Params,.sl (f1.Slots.map Pn),.sl (f1.Code.map Pm)]]⟩)),(3,some (g.2.1,⟨false,true,2,104,[.agg [.sl (r2.To.map Pa),.sl (r2.Keep.map D.bool)]]⟩)),(4,some (g.2.2.1,⟨false,true,3,40,[.agg [.int .i64 0,.nils,.nils]]⟩)),(8,some (g.2.2.2.1,⟨false,true,3,40,[.agg [.int .i64 f1.Params,.sl (out5.map Pn),.sl (s.1.map Pm)]]⟩)),(14,some (g.2.2.2.2.1,⟨false,false,1,3,r16.map Pa⟩)),(15,some (g.2.2.2.2.2,⟨false,false,1,3,r17.map Pa⟩))]) (body:=fun s=>Wl f1 r2 r16 r17 out5 s.1 s.2) (s:=([],0)) (_,_,_,_,_,_) ((Abq [] trivial ⟨(PF r),(PF r),(PF r),(PF r),(PF r),(PF r),(PF r),trivial⟩ ⟨(.inl r),(.inl r),(.inl r),(.inr ⟨_,_,_,_,r,r,r,r,ZT r ⟨(UY r),(UY r),(XS Pm r),trivial⟩⟩),(.inl r),(.inl r),trivial⟩))<|?_
   rintro ⟨out18,k19⟩ ⟨v2x4,v3x4,v4x4,v8x4,v14x4,v15x4⟩ nn
   try dsimp only
   unfold Wl
   refine A 10 ?_
   refine cD r ?_ ?_
   ·refine A 10 ?_
    refine bD fun x_x20 hx_x20=>?_
    refine A 5 ?_
    refine cD r ?_ ?_
    ·exact B
    ·refine A 7 ?_
     refine bD fun x_x21 hx_x21=>?_
     refine A 3 ?_
     refine bD fun r22 hr22=>?_
     refine A 5 ?_
     refine sC (E:=fun (_s : Int × Int) (g : Nat × Nat × Nat × Nat × Nat × Nat × Nat)=>[(2,.optr 2 g.1 0 0),(3,.optr 3 g.2.1 0 0),(4,.optr 4 g.2.2.1 0 0),(8,.optr 8 g.2.2.2.1 0 0),(14,.osl 14 g.2.2.2.2.1 0 r16.length),(15,.osl 15 g.2.2.2.2.2.1 0 r17.length),(16,.int .i64 k19),(17,.optr 17 g.2.2.2.2.2.2 0 0)]) (O:=fun s g=>[(2,some (g.1,⟨false,true,3,40,[.agg [.int .i64 f1.Params,.sl (f1.Slots.map Pn),.sl (f1.Code.map Pm)]]⟩)),(3,some (g.2.1,⟨false,true,2,104,[.agg [.sl (r2.To.map Pa),.sl (r2.Keep.map D.bool)]]⟩)),(4,some (g.2.2.1,⟨false,true,3,40,[.agg [.int .i64 0,.nils,.nils]]⟩)),(8,some (g.2.2.2.1,⟨false,true,3,40,[.agg [.int .i64 f1.Params,.sl (out5.map Pn),.sl (out18.map Pm)]]⟩)),(14,some (g.2.2.2.2.1,⟨false,false,1,3,r16.map Pa⟩)),(15,some (g.2.2.2.2.2.1,⟨false,false,1,3,r17.map Pa⟩)),(17,some (g.2.2.2.2.2.2,⟨false,true,5,50,[.agg [.int .i64 r22.Op,.int .i64 s.1,.int .i64 s.2,.int .i64 r22.C,.int .u64 r22.Imm]]⟩))]) (j:=fun s=>SY out18 r22 k19 s.1 s.2) ?_ ?_
     ·exact B
     ·rintro ⟨x23,x24⟩ ⟨v2x5,v3x5,v4x5,v8x5,v14x5,v15x5,v17x5⟩ nn
      try dsimp only
      unfold SY
      refine A 6 ?_
      refine bS ([(OZ.mk r22.Op x23 x24 r22.C r22.Imm)] : List OZ) Pm r r r (by simp) r r r<|?_
      refine A 16 ?_
      exact wf [18] fun _=>B
   ·exact B

def Ajp (b : (List (List Int)) × Int) : D:=.tup [.sl (b.1.map (eL Pa)),.int .i64 b.2]
noncomputable def Aer : Dw.Spec:=Pf [] .val Ql Qk (fun a=>AaP a.1 a.2) Ajp noE
theorem Aip : Pd Tryz.prog 22 Aer:=by
 refine fn2 2 (Pk (l:=[(44,AbW)]) (by simp [Aes])) Tryz.func22<|?_
 intro a
 unfold AaP
 exact B

def Xx (a : (List (List Int)) × Int) : List D:=[.sl (a.1.map (eL Pa)),.int .i64 a.2]
def Xw (ds : List D) : (List (List Int)) × Int:=((uL (uL uI)) (ds.getD 0 .top),uI (ds.getD 1 .top))
theorem Ajl (a : (List (List Int)) × Int) : Xw (Xx a) = a:=by simp [Xw,Xx,uI,PV (u:=(uL uI)) (en:=(eL Pa)) (PV (u:=uI) (en:=Pa) (fun _=>rfl))]
instance : Px Xx Xw:=⟨Ajl⟩
def AkC (b : Bool) : D:=.bool b
noncomputable def Afg : Dw.Spec:=Pf [] .ground Xx Xw (fun a=>Zu a.1 a.2) AkC noE
theorem Ajm : Pd Tryz.prog 46 Afg:=by
 refine fn2 2 (Pk (l:=[(71,AbT),(15,Xh)]) (by simp [Aeo,Ye])) Tryz.func46<|?_
 rintro ⟨g1,n2⟩
 unfold Zu
 refine A 14 ?_
 refine cD r ?_ ?_
 ·exact B
 ·refine A 9 ?_
  refine lP (E:=fun (s : Int) (_g : Unit)=>[(0,.sl (g1.map (eL Pa))),(1,.int .i64 n2),(5,.int .i64 s)]) (O:=fun _ _=>[]) (body:=fun s=>YG n2 g1 s) (s:=0) () ((hE ⟨rfl,r,r,trivial⟩ trivial))<|?_
  rintro x3 ⟨⟩ nn
  try dsimp only
  unfold YG
  refine A 8 ?_
  refine cD r ?_ ?_
  ·refine A 2 ?_
   refine bC (E:=fun (s : (List Int) × (List Int) × Bool) (_g : Unit)=>[(0,.sl (g1.map (eL Pa))),(1,.int .i64 n2),(5,.int .i64 x3),(24,.sl (g1.map (eL Pa))),(25,.int .i64 x3),(26,.fptr (.sl (s.1.map Pa)) 0),(27,.sl (s.2.1.map Pa)),(28,.int .i64 x3),(29,.bool s.2.2)]) (O:=fun _ _=>[]) (j:=fun s=>YI x3 s.1 s.2.1 s.2.2) ?_ ?_
   ·refine sC (E:=fun (s : (List Int) × (List Int) × Bool) (_g : Unit)=>[(0,.sl (g1.map (eL Pa))),(1,.int .i64 n2),(5,.int .i64 x3),(24,.sl (g1.map (eL Pa))),(25,.int .i64 x3),(26,.fptr (.sl (s.1.map Pa)) 0),(27,.sl (s.2.1.map Pa)),(28,.int .i64 x3),(29,.bool s.2.2)]) (O:=fun _ _=>[]) (j:=fun s=>YJ g1 x3 n2 s.1 s.2.1 s.2.2) ?_ ?_
    ·exact B
    ·rintro ⟨x7,x8,x9⟩ ⟨⟩ nn
     try dsimp only
     unfold YJ
     refine A 6 ?_
     refine lP (E:=fun (s : Int) (_g : Unit)=>[(0,.sl (g1.map (eL Pa))),(1,.int .i64 n2),(5,.int .i64 x3),(6,.int .i64 s),(24,.sl (g1.map (eL Pa))),(25,.int .i64 x3),(26,.fptr (.sl (x7.map Pa)) 0),(27,.sl (x8.map Pa)),(28,.int .i64 x3),(29,.bool x9)]) (O:=fun _ _=>[]) (body:=fun s=>YH g1 x3 n2 x7 x8 x9 s) (s:=0) () ((hE ⟨rfl,r,r,r,r,r,r,r,r,r,trivial⟩ trivial))<|?_
     rintro i14 ⟨⟩ nn
     try dsimp only
     unfold YH
     exact B
   ·rintro ⟨x4,x5,x6⟩ ⟨⟩ nn
    try dsimp only
    unfold YI
    exact B
  ·exact B

def WM (a : Po × Po) : List D:=[Pn a.1,Pn a.2]
def WL (ds : List D) : Po × Po:=(XL (ds.getD 0 .top),XL (ds.getD 1 .top))
theorem Aix (a : Po × Po) : WL (WM a) = a:=by simp [WL,WM]
instance : Px WM WL:=⟨Aix⟩
def AjB (b : Bool) : D:=.bool b
noncomputable def Aev : Dw.Spec:=Pf [] .ground WM WL (fun a=>Yh a.1 a.2) AjB noE
theorem Aiy : Pd Tryz.prog 72 Aev:=by
 refine fn2 2 (Pv) Tryz.func72<|?_
 intro a
 unfold Yh
 exact B

end Go.Proofs.YtnldnldmgceooaaGreatDoor
