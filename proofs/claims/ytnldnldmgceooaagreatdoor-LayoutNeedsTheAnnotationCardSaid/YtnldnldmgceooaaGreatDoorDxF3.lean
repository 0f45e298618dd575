/-
  Programs on typed data, and the proofs that the code does what they say; written by a program (dx.py).
-/
import Derived.Test.YtnldnldmgceooaaGreatDoorProg
import Derived.Test.YtnldnldmgceooaaGreatDoorDd
import Derived.KernelRfl
import Derived.Test.YtnldnldmgceooaaGreatDoorDxP
import Derived.Test.YtnldnldmgceooaaGreatDoorDxF2
namespace Go.Proofs.YtnldnldmgceooaaGreatDoor
open Go Go.Dw Go.Proofs
set_option maxRecDepth 100000
set_option maxHeartbeats 4000000
open Go.Dw renaming QS → bD,PM → cK,AcP → bS,Ub → sE,Aco → cD,Aaf → hE,Aes → lP,AaV → sC,Ze → bC,rf → r
def Aku (b : Int × Int × Bool) : D:=.tup [.int .i64 b.1,.int .i64 b.2.1,.bool b.2.2]
noncomputable def AeY : Dw.Spec:=Pe [] .ground Qk Qj (fun a=>Zt a.1 a.2) Aku noE
theorem Ajg : Pd Tryz.prog 61 AeY:=by
 refine fn2 2 (Pk (l:=[(62,AbP),(87,Adp)]) (by simp [Aej,AhA])) Tryz.func61<|?_
 rintro ⟨f1,l2⟩
 unfold Zt
 refine A 14 ?_
 refine bD fun r3 hr3=>?_
 refine A 4 ?_
 refine cD r ?_ ?_
 ·exact B
 ·refine A 9 ?_
  refine lP (E:=fun (s : Int) (g : Nat × Nat)=>[(2,.optr 2 g.1 0 0),(3,.optr 3 g.2 0 0),(7,.int .i64 s)]) (O:=fun _ g=>[(2,some (g.1,⟨false,true,3,40,[.agg [.int .i64 f1.Params,.sl (f1.Slots.map Pn),.sl (f1.Code.map Pm)]]⟩)),(3,some (g.2,⟨false,true,1,29,[.agg [.sl (l2.Out.map (eL Pa))]]⟩))]) (body:=fun s=>YC f1 l2 s) (s:=0) (_,_) ((hE ⟨rfl,r,r,trivial⟩ ⟨rfl,r,trivial⟩))<|?_
  rintro k4 ⟨v2x1,v3x1⟩ nn
  try dsimp only
  unfold YC
  exact B

def Akt (b : Int) : D:=.int .i64 b
noncomputable def AeX : Dw.Spec:=Pe [] .ground Qk Qj (fun a=>Vv a.1 a.2) Akt noE
theorem Ajf : Pd Tryz.prog 36 AeX:=by
 refine fn2 2 (Pk (l:=[(61,AeY),(62,AbP)]) (by simp [Ajg,Aej])) Tryz.func36<|?_
 intro a
 unfold Vv
 exact B

def Xw (a : OX × Pg × Bool) : List D:=[PN a.1,Qv a.2.1,.bool a.2.2]
def Xv (ds : List D) : OX × Pg × Bool:=(SI (ds.getD 0 .top),VN (ds.getD 1 .top),uBo (ds.getD 2 .top))
theorem Ajm (a : OX × Pg × Bool) : Xv (Xw a) = a:=by simp [Xv,Xw,uBo]
instance : Px Xw Xv:=⟨Ajm⟩
def Akz (b : (List (List Int)) × Int) : D:=.tup [.sl (b.1.map (eL Pa)),.int .i64 b.2]
noncomputable def AbQ : Dw.Spec:=Pe [] .val Xw Xv (fun a=>Xg a.1 a.2.1 a.2.2) Akz noE
theorem Ael : Pd Tryz.prog 44 AbQ:=by
 refine fn2 3 (Pk (l:=[(36,AeX),(14,Vl),(32,Xc)]) (by simp [Ajf,Wt,XY])) Tryz.func44<|?_
 rintro ⟨f1,l2,strict3⟩
 unfold Xg
 refine A 13 ?_
 refine bD fun r4 hr4=>?_
 refine A 10 ?_
 refine cD r ?_ ?_
 ·exact B
 ·refine A 7 ?_
  refine cK fun hq=>AdN (α:=Int) r r r hq r<|?_
  refine A 2 ?_
  refine Vx (E:=[(2,.bool strict3),(3,.optr 3 _ 0 0),(4,.optr 4 _ 0 0),(9,.osl 9 _ 0 ((List.replicate (f1.Slots.length : Int).toNat ([] : (List Int))).length))]) (O:=[(3,some (_,⟨false,true,3,40,[.agg [.int .i64 f1.Params,.sl (f1.Slots.map Pn),.sl (f1.Code.map Pm)]]⟩)),(4,some (_,⟨false,true,1,29,[.agg [.sl (l2.Out.map (eL Pa))]]⟩)),(9,some (_,⟨false,false,1,30,(List.replicate (f1.Slots.length : Int).toNat ([] : (List Int))).map (eL Pa)⟩))]) ((AfG (g:=9) r (Aho (l:=List.replicate (f1.Slots.length : Int).toNat ([] : (List Int))) Pa (fun _ h=>List.eq_of_mem_replicate h)) (hE ⟨rfl,r,r,r,trivial⟩ ⟨rfl,r,r,trivial⟩))) fun nn=>?_
  refine A 7 ?_
  refine lP (E:=fun (s : (List (List Int)) × Int) (g : Nat × Nat × Nat)=>[(2,.bool strict3),(3,.optr 3 g.1 0 0),(4,.optr 4 g.2.1 0 0),(9,.osl 9 g.2.2 0 s.1.length),(10,.int .i64 s.2)]) (O:=fun s g=>[(3,some (g.1,⟨false,true,3,40,[.agg [.int .i64 f1.Params,.sl (f1.Slots.map Pn),.sl (f1.Code.map Pm)]]⟩)),(4,some (g.2.1,⟨false,true,1,29,[.agg [.sl (l2.Out.map (eL Pa))]]⟩)),(9,some (g.2.2,⟨false,false,1,30,s.1.map (eL Pa)⟩))]) (body:=fun s=>YK f1 l2 strict3 s.1 s.2) (s:=(List.replicate (f1.Slots.length : Int).toNat ([] : (List Int)),0)) (_,_,_) ((hE ⟨rfl,r,r,r,r,trivial⟩ ⟨rfl,r,r,trivial⟩))<|?_
  rintro ⟨out5,k6⟩ ⟨v3x1,v4x1,v9x1⟩ nn
  try dsimp only
  unfold YK
  refine A 10 ?_
  refine cD r ?_ ?_
  ·refine A 2 ?_
   refine bC (E:=fun (s : Int × Int × Int × Int × Int × (List (List Int))) (g : Nat × Nat × Nat)=>[(2,.bool strict3),(3,.optr 3 g.1 0 0),(4,.optr 4 g.2.1 0 0),(9,.osl 9 g.2.2 0 s.2.2.2.2.2.length),(10,.int .i64 k6)]) (O:=fun s g=>[(3,some (g.1,⟨false,true,3,40,[.agg [.int .i64 f1.Params,.sl (f1.Slots.map Pn),.sl (f1.Code.map Pm)]]⟩)),(4,some (g.2.1,⟨false,true,1,29,[.agg [.sl (l2.Out.map (eL Pa))]]⟩)),(9,some (g.2.2,⟨false,false,1,30,s.2.2.2.2.2.map (eL Pa)⟩))]) (j:=fun s=>SQ k6 s.1 s.2.1 s.2.2.1 s.2.2.2.1 s.2.2.2.2.1 s.2.2.2.2.2) ?_ ?_
   ·refine A 5 ?_
    refine bD fun x_x13 hx_x13=>?_
    refine A 9 ?_
    refine bD fun r14 hr14=>?_
    refine A 8 ?_
    refine sC (E:=fun (_s : Unit) (g : Nat × Nat × Nat × Nat)=>[(2,.bool strict3),(3,.optr 3 g.1 0 0),(4,.optr 4 g.2.1 0 0),(9,.osl 9 g.2.2.1 0 out5.length),(10,.int .i64 k6),(11,.optr 11 g.2.2.2 0 0),(12,.int .i64 r14.1),(13,.bool r14.2)]) (O:=fun _ g=>[(3,some (g.1,⟨false,true,3,40,[.agg [.int .i64 f1.Params,.sl (f1.Slots.map Pn),.sl (f1.Code.map Pm)]]⟩)),(4,some (g.2.1,⟨false,true,1,29,[.agg [.sl (l2.Out.map (eL Pa))]]⟩)),(9,some (g.2.2.1,⟨false,false,1,30,out5.map (eL Pa)⟩)),(11,some (g.2.2.2,⟨false,true,5,50,[.agg [.int .i64 x_x13.Op,.int .i64 x_x13.A,.int .i64 x_x13.B,.int .i64 x_x13.C,.int .u64 x_x13.Imm]]⟩))]) (j:=fun _=>Uh l2 k6 r14 strict3 x_x13 out5) ?_ ?_
    ·exact B
    ·rintro ⟨⟩ ⟨v3x2,v4x2,v9x2,v11x2⟩ nn
     try dsimp only
     unfold Uh
     refine A 6 ?_
     refine lP (E:=fun (s : (List (List Int)) × Int) (g : Nat × Nat × Nat × Nat)=>[(2,.bool strict3),(3,.optr 3 g.1 0 0),(4,.optr 4 g.2.1 0 0),(9,.osl 9 g.2.2.1 0 s.1.length),(10,.int .i64 k6),(11,.optr 11 g.2.2.2 0 0),(12,.int .i64 r14.1),(13,.bool r14.2),(14,.int .i64 s.2)]) (O:=fun s g=>[(3,some (g.1,⟨false,true,3,40,[.agg [.int .i64 f1.Params,.sl (f1.Slots.map Pn),.sl (f1.Code.map Pm)]]⟩)),(4,some (g.2.1,⟨false,true,1,29,[.agg [.sl (l2.Out.map (eL Pa))]]⟩)),(9,some (g.2.2.1,⟨false,false,1,30,s.1.map (eL Pa)⟩)),(11,some (g.2.2.2,⟨false,true,5,50,[.agg [.int .i64 x_x13.Op,.int .i64 x_x13.A,.int .i64 x_x13.B,.int .i64 x_x13.C,.int .u64 x_x13.Imm]]⟩))]) (body:=fun s=>Wf l2 k6 r14 strict3 x_x13 s.1 s.2) (s:=(out5,0)) (_,_,_,_) ((hE ⟨rfl,r,r,r,r,r,r,r,r,trivial⟩ ⟨rfl,r,r,r,trivial⟩))<|?_
     rintro ⟨out15,i16⟩ ⟨v3x3,v4x3,v9x3,v11x3⟩ nn
     try dsimp only
     unfold Wf
     refine sC (E:=fun (_s : Unit) (g : Nat × Nat × Nat × Nat)=>[(2,.bool strict3),(3,.optr 3 g.1 0 0),(4,.optr 4 g.2.1 0 0),(9,.osl 9 g.2.2.1 0 out15.length),(10,.int .i64 k6),(11,.optr 11 g.2.2.2 0 0),(12,.int .i64 r14.1),(13,.bool r14.2),(14,.int .i64 i16),(62,.bool r14.2)]) (O:=fun _ g=>[(3,some (g.1,⟨false,true,3,40,[.agg [.int .i64 f1.Params,.sl (f1.Slots.map Pn),.sl (f1.Code.map Pm)]]⟩)),(4,some (g.2.1,⟨false,true,1,29,[.agg [.sl (l2.Out.map (eL Pa))]]⟩)),(9,some (g.2.2.1,⟨false,false,1,30,out15.map (eL Pa)⟩)),(11,some (g.2.2.2,⟨false,true,5,50,[.agg [.int .i64 x_x13.Op,.int .i64 x_x13.A,.int .i64 x_x13.B,.int .i64 x_x13.C,.int .u64 x_x13.Imm]]⟩))]) (j:=fun _=>YL l2 k6 i16 r14 out15 strict3 x_x13) ?_ ?_
     ·exact B
     ·rintro ⟨⟩ ⟨v3x4,v4x4,v9x4,v11x4⟩ nn
      try dsimp only
      unfold YL
      refine A 7 ?_
      refine bD fun x_x18 hx_x18=>?_
      refine A 3 ?_
      refine bD fun x_x19 hx_x19=>?_
      refine A 5 ?_
      refine sC (E:=fun (s : Bool × Bool × Bool × Bool) (g : Nat × Nat × Nat × Nat)=>[(2,.bool strict3),(3,.optr 3 g.1 0 0),(4,.optr 4 g.2.1 0 0),(9,.osl 9 g.2.2.1 0 out15.length),(10,.int .i64 k6),(11,.optr 11 g.2.2.2 0 0),(12,.int .i64 r14.1),(13,.bool r14.2),(14,.int .i64 i16),(15,.int .i64 x_x19),(62,.bool r14.2),(78,.bool strict3),(79,.bool (!strict3)),(80,.bool s.1),(84,.bool s.2.1),(85,.bool s.2.2.1),(90,.bool s.2.2.2)]) (O:=fun _ g=>[(3,some (g.1,⟨false,true,3,40,[.agg [.int .i64 f1.Params,.sl (f1.Slots.map Pn),.sl (f1.Code.map Pm)]]⟩)),(4,some (g.2.1,⟨false,true,1,29,[.agg [.sl (l2.Out.map (eL Pa))]]⟩)),(9,some (g.2.2.1,⟨false,false,1,30,out15.map (eL Pa)⟩)),(11,some (g.2.2.2,⟨false,true,5,50,[.agg [.int .i64 x_x13.Op,.int .i64 x_x13.A,.int .i64 x_x13.B,.int .i64 x_x13.C,.int .u64 x_x13.Imm]]⟩))]) (j:=fun s=>RT r14 out15 x_x19 i16 s.1 s.2.1 s.2.2.1 s.2.2.2) ?_ ?_
      ·exact B
      ·rintro ⟨x20,x21,x22,x23⟩ ⟨v3x5,v4x5,v9x5,v11x5⟩ nn
       try dsimp only
       unfold RT
       refine A 8 ?_
       refine bD fun out_e24 hout_e24=>?_
       refine A 2 ?_
       refine bD fun r25 hr25=>?_
       refine A 4 ?_
       refine bD fun out_e26 hout_e26=>?_
       refine A 2 ?_
       refine bD fun r27 hr27=>?_
       refine A 2 ?_
       refine bD fun out_o28 hout_o28=>sE (l:=out15) (en:=(eL Pa)) (q':=r25) r r r r r r r (by simp) hout_o28 r r r (by simp [PH,cells,setAt,eL]) r<|?_
       refine A 1 ?_
       refine bD fun out_o29 hout_o29=>sE (l:=out15.set r14.1.toNat r25) (en:=(eL Pa)) (q':=r27) r r r r r r r (by simp) hout_o29 r r r (by simp [PH,cells,setAt,eL]) r<|?_
       exact B
   ·rintro ⟨x7,x8,x9,x10,x11,out12⟩ ⟨v3x6,v4x6,v9x6⟩ nn
    try dsimp only
    unfold SQ
    exact B
  ·exact B

def Akx (b : (List (List Int)) × Int) : D:=.tup [.sl (b.1.map (eL Pa)),.int .i64 b.2]
noncomputable def Afa : Dw.Spec:=Pe [] .val Qk Qj (fun a=>Zv a.1 a.2) Akx noE
theorem Ajj : Pd Tryz.prog 77 Afa:=by
 refine fn2 2 (Pk (l:=[(44,AbQ)]) (by simp [Ael])) Tryz.func77<|?_
 intro a
 unfold Zv
 exact B

def Aky (b : (List PR)) : D:=.sl (b.map Tw)
noncomputable def Afb : Dw.Spec:=Pe [] (.row 2 135) Vn Vm (fun a=>Zw a) Aky noE
theorem Ajk : Pd Tryz.prog 96 Afb:=by
 refine fn2 1 (Pv) Tryz.func96<|?_
 intro f1
 unfold Zw
 refine A 18 ?_
 refine lP (E:=fun (s : (List PR) × Int) (g : Nat × Nat)=>[(1,.optr 1 g.1 0 0),(3,.osl 3 g.2 0 s.1.length),(4,.int .i64 s.2)]) (O:=fun s g=>[(1,some (g.1,⟨false,true,3,40,[.agg [.int .i64 f1.Params,.sl (f1.Slots.map Pn),.sl (f1.Code.map Pm)]]⟩)),(3,some (g.2,⟨false,false,2,135,s.1.map Tw⟩))]) (body:=fun s=>YI f1 s.1 s.2) (s:=(([] : List PR),0)) (_,_) ((hE ⟨rfl,r,r,trivial⟩ ⟨rfl,r,trivial⟩))<|?_
 rintro ⟨out2,k3⟩ ⟨v1x1,v3x1⟩ nn
 try dsimp only
 unfold YI
 refine A 10 ?_
 refine cD r ?_ ?_
 ·refine A 2 ?_
  refine bC (E:=fun (s : (List PR)) (g : Nat × Nat)=>[(1,.optr 1 g.1 0 0),(3,.osl 3 g.2 0 s.length),(4,.int .i64 k3)]) (O:=fun s g=>[(1,some (g.1,⟨false,true,3,40,[.agg [.int .i64 f1.Params,.sl (f1.Slots.map Pn),.sl (f1.Code.map Pm)]]⟩)),(3,some (g.2,⟨false,false,2,135,s.map Tw⟩))]) (j:=fun s=>We k3 s) ?_ ?_
  ·refine A 5 ?_
   refine bD fun x_x5 hx_x5=>?_
   refine A 17 ?_
   refine sC (E:=fun (s : Bool) (g : Nat × Nat × Nat)=>[(1,.optr 1 g.1 0 0),(3,.osl 3 g.2.1 0 out2.length),(4,.int .i64 k3),(6,.optr 6 g.2.2 0 0),(7,.bool s)]) (O:=fun _ g=>[(1,some (g.1,⟨false,true,3,40,[.agg [.int .i64 f1.Params,.sl (f1.Slots.map Pn),.sl (f1.Code.map Pm)]]⟩)),(3,some (g.2.1,⟨false,false,2,135,out2.map Tw⟩)),(6,some (g.2.2,⟨false,true,2,135,[.agg [.int .i64 x_x5.A,.int .i64 x_x5.B]]⟩))]) (j:=fun s=>Ug out2 x_x5 k3 s) ?_ ?_
   ·exact B
   ·rintro old6 ⟨v1x2,v3x2,v6x2⟩ nn
    try dsimp only
    unfold Ug
    refine A 7 ?_
    refine lP (E:=fun (s : Bool × Int) (g : Nat × Nat × Nat)=>[(1,.optr 1 g.1 0 0),(3,.osl 3 g.2.1 0 out2.length),(4,.int .i64 k3),(6,.optr 6 g.2.2 0 0),(7,.bool s.1),(8,.int .i64 s.2)]) (O:=fun _ g=>[(1,some (g.1,⟨false,true,3,40,[.agg [.int .i64 f1.Params,.sl (f1.Slots.map Pn),.sl (f1.Code.map Pm)]]⟩)),(3,some (g.2.1,⟨false,false,2,135,out2.map Tw⟩)),(6,some (g.2.2,⟨false,true,2,135,[.agg [.int .i64 x_x5.A,.int .i64 x_x5.B]]⟩))]) (body:=fun s=>YJ out2 x_x5 k3 s.1 s.2) (s:=(old6,0)) (_,_,_) ((hE ⟨rfl,r,r,r,r,r,trivial⟩ ⟨rfl,r,r,trivial⟩))<|?_
    rintro ⟨old7,i8⟩ ⟨v1x3,v3x3,v6x3⟩ nn
    try dsimp only
    unfold YJ
    refine A 9 ?_
    refine cD r ?_ ?_
    ·exact B
    ·refine A 11 ?_
     refine cD r ?_ ?_
     ·refine A 3 ?_
      refine bS ([(PR.mk x_x5.A x_x5.B)] : List PR) Tw r r r (by simp) r r r<|?_
      exact B
     ·exact B
  ·rintro out4 ⟨v1x4,v3x4⟩ nn
   try dsimp only
   unfold We
   exact B
 ·exact B

def Aio (b : (List Int)) : D:=.sl (b.map Pa)
noncomputable def AaM : Dw.Spec:=Pe [] (.row 1 3) Re Rc (fun a=>TJ a.1 a.2) Aio noE
theorem AcJ : Pd Tryz.prog 101 AaM:=by
 refine fn2 2 (Pv) Tryz.func101<|?_
 rintro ⟨to1,s2⟩
 unfold TJ
 refine A 17 ?_
 refine lP (E:=fun (s : (List Int) × Int) (g : Nat)=>[(0,.sl (to1.map Pa)),(1,.int .i64 s2),(5,.osl 5 g 0 s.1.length),(6,.int .i64 s.2)]) (O:=fun s g=>[(5,some (g,⟨false,false,1,3,s.1.map Pa⟩))]) (body:=fun s=>Wy to1 s2 s.1 s.2) (s:=(([] : List Int),0)) _ ((hE ⟨rfl,r,r,r,trivial⟩ ⟨rfl,trivial⟩))<|?_
 rintro ⟨out3,t4⟩ v5x1 nn
 try dsimp only
 unfold Wy
 exact B

def XA (a : (List (List Int)) × (List Int) × Int × Int) : List D:=[.sl (a.1.map (eL Pa)),.sl (a.2.1.map Pa),.int .i64 a.2.2.1,.int .i64 a.2.2.2]
def Xz (ds : List D) : (List (List Int)) × (List Int) × Int × Int:=((uL (uL uI)) (ds.getD 0 .top),(uL uI) (ds.getD 1 .top),uI (ds.getD 2 .top),uI (ds.getD 3 .top))
theorem Ajp (a : (List (List Int)) × (List Int) × Int × Int) : Xz (XA a) = a:=by simp [Xz,XA,uI,PV (u:=(uL uI)) (en:=(eL Pa)) (PV (u:=uI) (en:=Pa) (fun _=>rfl)),PV (u:=uI) (en:=Pa) (fun _=>rfl)]
instance : Px XA Xz:=⟨Ajp⟩
def AkB (b : Bool) : D:=.bool b
noncomputable def Afd : Dw.Spec:=Pe [] .ground XA Xz (fun a=>Zy a.1 a.2.1 a.2.2.1 a.2.2.2) AkB noE
theorem Ajq : Pd Tryz.prog 97 Afd:=by
 refine fn2 4 (Pk (l:=[(101,AaM),(15,Xe)]) (by simp [AcJ,XZ])) Tryz.func97<|?_
 rintro ⟨g1,to2,a3,b4⟩
 unfold Zy
 refine A 9 ?_
 refine bD fun r5 hr5=>?_
 refine A 3 ?_
 refine bD fun r6 hr6=>?_
 refine A 12 ?_
 refine lP (E:=fun (s : Int) (g : Nat × Nat)=>[(0,.sl (g1.map (eL Pa))),(9,.osl 9 g.1 0 r5.length),(10,.osl 10 g.2 0 r6.length),(11,.int .i64 s)]) (O:=fun _ g=>[(9,some (g.1,⟨false,false,1,3,r5.map Pa⟩)),(10,some (g.2,⟨false,false,1,3,r6.map Pa⟩))]) (body:=fun s=>YO r5 r6 g1 s) (s:=0) (_,_) ((hE ⟨rfl,r,r,r,trivial⟩ ⟨rfl,r,trivial⟩))<|?_
 rintro i7 ⟨v9x1,v10x1⟩ nn
 try dsimp only
 unfold YO
 refine A 9 ?_
 refine cD r ?_ ?_
 ·refine A 2 ?_
  refine bC (E:=fun (_s : Unit) (g : Nat × Nat)=>[(0,.sl (g1.map (eL Pa))),(9,.osl 9 g.1 0 r5.length),(10,.osl 10 g.2 0 r6.length),(11,.int .i64 i7)]) (O:=fun _ g=>[(9,some (g.1,⟨false,false,1,3,r5.map Pa⟩)),(10,some (g.2,⟨false,false,1,3,r6.map Pa⟩))]) (j:=fun _=>YQ i7) ?_ ?_
  ·refine A 6 ?_
   refine lP (E:=fun (s : Int) (g : Nat × Nat)=>[(0,.sl (g1.map (eL Pa))),(9,.osl 9 g.1 0 r5.length),(10,.osl 10 g.2 0 r6.length),(11,.int .i64 i7),(12,.int .i64 s)]) (O:=fun _ g=>[(9,some (g.1,⟨false,false,1,3,r5.map Pa⟩)),(10,some (g.2,⟨false,false,1,3,r6.map Pa⟩))]) (body:=fun s=>YP r6 i7 r5 g1 s) (s:=0) (_,_) ((hE ⟨rfl,r,r,r,r,trivial⟩ ⟨rfl,r,trivial⟩))<|?_
   rintro k8 ⟨v9x2,v10x2⟩ nn
   try dsimp only
   unfold YP
   exact B
  ·rintro ⟨⟩ ⟨v9x3,v10x3⟩ nn
   try dsimp only
   unfold YQ
   exact B
 ·exact B

def VI (a : OX × (List (List Int))) : List D:=[PN a.1,.sl (a.2.map (eL Pa))]
def VH (ds : List D) : OX × (List (List Int)):=(SI (ds.getD 0 .top),(uL (uL uI)) (ds.getD 1 .top))
theorem AhB (a : OX × (List (List Int))) : VH (VI a) = a:=by simp [VH,VI,PV (u:=(uL uI)) (en:=(eL Pa)) (PV (u:=uI) (en:=Pa) (fun _=>rfl))]
instance : Px VI VH:=⟨AhB⟩
def Ain (b : (List Int)) : D:=.sl (b.map Pa)
noncomputable def Adq : Dw.Spec:=Pe [] (.row 1 3) VI VH (fun a=>UN a.1 a.2) Ain noE
theorem AhC : Pd Tryz.prog 78 Adq:=by
 refine fn2 2 (Pk (l:=[(96,Afb),(97,Afd)]) (by simp [Ajk,Ajq])) Tryz.func78<|?_
 rintro ⟨f1,g2⟩
 unfold UN
 refine A 18 ?_
 refine lP (E:=fun (s : (List Int) × Int) (g : Nat × Nat)=>[(1,.sl (g2.map (eL Pa))),(2,.optr 2 g.1 0 0),(5,.osl 5 g.2 0 s.1.length),(6,.int .i64 s.2)]) (O:=fun s g=>[(2,some (g.1,⟨false,true,3,40,[.agg [.int .i64 f1.Params,.sl (f1.Slots.map Pn),.sl (f1.Code.map Pm)]]⟩)),(5,some (g.2,⟨false,false,1,3,s.1.map Pa⟩))]) (body:=fun s=>Wu f1 g2 s.1 s.2) (s:=(([] : List Int),0)) (_,_) ((hE ⟨rfl,r,r,r,trivial⟩ ⟨rfl,r,trivial⟩))<|?_
 rintro ⟨to3,s4⟩ ⟨v2x1,v5x1⟩ nn
 try dsimp only
 unfold Wu
 refine A 10 ?_
 refine cD r ?_ ?_
 ·exact B
 ·refine A 8 ?_
  refine bD fun r5 hr5=>?_
  refine A 11 ?_
  refine lP (E:=fun (s : (List Int) × Int) (g : Nat × Nat)=>[(1,.sl (g2.map (eL Pa))),(5,.osl 5 g.1 0 s.1.length),(7,.osl 7 g.2 0 r5.length),(8,.int .i64 s.2)]) (O:=fun s g=>[(5,some (g.1,⟨false,false,1,3,s.1.map Pa⟩)),(7,some (g.2,⟨false,false,2,135,r5.map Tw⟩))]) (body:=fun s=>Wv r5 g2 s.1 s.2) (s:=(to3,0)) (_,_) ((hE ⟨rfl,r,r,r,trivial⟩ ⟨rfl,r,trivial⟩))<|?_
  rintro ⟨to6,i7⟩ ⟨v5x2,v7x2⟩ nn
  try dsimp only
  unfold Wv
  refine A 9 ?_
  refine cD r ?_ ?_
  ·refine A 2 ?_
   refine bC (E:=fun (s : (List Int)) (g : Nat × Nat)=>[(1,.sl (g2.map (eL Pa))),(5,.osl 5 g.1 0 s.length),(7,.osl 7 g.2 0 r5.length),(8,.int .i64 i7)]) (O:=fun s g=>[(5,some (g.1,⟨false,false,1,3,s.map Pa⟩)),(7,some (g.2,⟨false,false,2,135,r5.map Tw⟩))]) (j:=fun s=>Rf i7 s) ?_ ?_
   ·refine A 6 ?_
    refine Uk r r r (by decide)<|bD fun moves_e9 hmoves_e9=>?_
    refine A 2 ?_
    refine bD fun to_e10 hto_e10=>?_
    refine A 5 ?_
    refine Uk r r r (by decide)<|bD fun moves_e11 hmoves_e11=>?_
    refine A 2 ?_
    refine bD fun to_e12 hto_e12=>?_
    refine A 5 ?_
    refine sC (E:=fun (s : Bool × Bool) (g : Nat × Nat)=>[(1,.sl (g2.map (eL Pa))),(5,.osl 5 g.1 0 to6.length),(7,.osl 7 g.2 0 r5.length),(8,.int .i64 i7),(9,.int .i64 to_e10),(10,.int .i64 to_e12),(51,.sl (g2.map (eL Pa))),(52,.osl 5 g.1 0 to6.length),(53,.int .i64 to_e10),(54,.int .i64 to_e12),(55,.bool s.1),(56,.bool s.2)]) (O:=fun _ g=>[(5,some (g.1,⟨false,false,1,3,to6.map Pa⟩)),(7,some (g.2,⟨false,false,2,135,r5.map Tw⟩))]) (j:=fun s=>Wx to_e10 to_e12 i7 to6 s.1 s.2) ?_ ?_
    ·exact B
    ·rintro ⟨x13,x14⟩ ⟨v5x3,v7x3⟩ nn
     try dsimp only
     unfold Wx
     refine A 6 ?_
     refine lP (E:=fun (s : (List Int) × Int) (g : Nat × Nat)=>[(1,.sl (g2.map (eL Pa))),(5,.osl 5 g.1 0 s.1.length),(7,.osl 7 g.2 0 r5.length),(8,.int .i64 i7),(9,.int .i64 to_e10),(10,.int .i64 to_e12),(11,.int .i64 s.2),(51,.sl (g2.map (eL Pa))),(52,.osl 5 g.1 0 s.1.length),(53,.int .i64 to_e10),(54,.int .i64 to_e12),(55,.bool x13),(56,.bool x14)]) (O:=fun s g=>[(5,some (g.1,⟨false,false,1,3,s.1.map Pa⟩)),(7,some (g.2,⟨false,false,2,135,r5.map Tw⟩))]) (body:=fun s=>Ww to_e10 to_e12 i7 s.1 s.2) (s:=(to6,0)) (_,_) ((hE ⟨rfl,r,r,r,r,r,r,r,r,r,r,r,r,trivial⟩ ⟨rfl,r,trivial⟩))<|?_
     rintro ⟨to16,s17⟩ ⟨v5x4,v7x4⟩ nn
     try dsimp only
     unfold Ww
     refine A 9 ?_
     refine cD r ?_ ?_
     ·refine A 4 ?_
      refine sC (E:=fun (s : Bool) (g : Nat × Nat)=>[(1,.sl (g2.map (eL Pa))),(5,.osl 5 g.1 0 to16.length),(7,.osl 7 g.2 0 r5.length),(8,.int .i64 i7),(9,.int .i64 to_e10),(10,.int .i64 to_e12),(11,.int .i64 s17),(51,.sl (g2.map (eL Pa))),(52,.osl 5 g.1 0 to16.length),(53,.int .i64 to_e10),(54,.int .i64 to_e12),(55,.bool x13),(56,.bool x14),(77,.bool s)]) (O:=fun _ g=>[(5,some (g.1,⟨false,false,1,3,to16.map Pa⟩)),(7,some (g.2,⟨false,false,2,135,r5.map Tw⟩))]) (j:=fun s=>SR s17 to16 to_e10 to_e12 s) ?_ ?_
      ·exact B
      ·rintro x18 ⟨v5x5,v7x5⟩ nn
       try dsimp only
       unfold SR
       exact B
     ·exact B
   ·rintro to8 ⟨v5x6,v7x6⟩ nn
    try dsimp only
    unfold Rf
    exact B
  ·exact B

def AlE (b : Bool) : D:=.bool b
noncomputable def AfZ : Dw.Spec:=Pe [] .ground TP TO (fun a=>AaN a.1 a.2.1 a.2.2) AlE noE
theorem AkE : Pd Tryz.prog 98 AfZ:=by
 refine fn2 3 (Pk (l:=[(14,Vl),(15,Xe)]) (by simp [Wt,XZ])) Tryz.func98<|?_
 intro a
 unfold AaN
 exact B

def YT (a : OX × Pg × (List Int)) : List D:=[PN a.1,Qv a.2.1,.sl (a.2.2.map Pa)]
def YS (ds : List D) : OX × Pg × (List Int):=(SI (ds.getD 0 .top),VN (ds.getD 1 .top),(uL uI) (ds.getD 2 .top))
theorem AkC (a : OX × Pg × (List Int)) : YS (YT a) = a:=by simp [YS,YT,PV (u:=uI) (en:=Pa) (fun _=>rfl)]
instance : Px YT YS:=⟨AkC⟩
def AlD (b : (List Bool)) : D:=.sl (b.map D.bool)
noncomputable def AfY : Dw.Spec:=Pe [] (.row 1 4) YT YS (fun a=>YR a.1 a.2.1 a.2.2) AlD noE
theorem AkD : Pd Tryz.prog 79 AfY:=by
 refine fn2 3 (Pk (l:=[(98,AfZ)]) (by simp [AkE])) Tryz.func79<|?_
 rintro ⟨f1,l2,to3⟩
 unfold YR
 refine A 19 ?_
 refine lP (E:=fun (s : (List Bool) × Int) (g : Nat × Nat × Nat)=>[(2,.sl (to3.map Pa)),(3,.optr 3 g.1 0 0),(4,.optr 4 g.2.1 0 0),(7,.osl 7 g.2.2 0 s.1.length),(8,.int .i64 s.2)]) (O:=fun s g=>[(3,some (g.1,⟨false,true,3,40,[.agg [.int .i64 f1.Params,.sl (f1.Slots.map Pn),.sl (f1.Code.map Pm)]]⟩)),(4,some (g.2.1,⟨false,true,1,29,[.agg [.sl (l2.Out.map (eL Pa))]]⟩)),(7,some (g.2.2,⟨false,false,1,4,s.1.map D.bool⟩))]) (body:=fun s=>ZM f1 l2 to3 s.1 s.2) (s:=(([] : List Bool),0)) (_,_,_) ((hE ⟨rfl,r,r,r,r,trivial⟩ ⟨rfl,r,r,trivial⟩))<|?_
 rintro ⟨out4,k5⟩ ⟨v3x1,v4x1,v7x1⟩ nn
 try dsimp only
 unfold ZM
 exact B

def Xy (a : OX × (List Int)) : List D:=[PN a.1,.sl (a.2.map Pa)]
def Xx (ds : List D) : OX × (List Int):=(SI (ds.getD 0 .top),(uL uI) (ds.getD 1 .top))
theorem Ajn (a : OX × (List Int)) : Xx (Xy a) = a:=by simp [Xx,Xy,PV (u:=uI) (en:=Pa) (fun _=>rfl)]
instance : Px Xy Xx:=⟨Ajn⟩
def AkA (b : Bool) : D:=.bool b
noncomputable def Afc : Dw.Spec:=Pe [] .ground Xy Xx (fun a=>Zx a.1 a.2) AkA noE
theorem Ajo : Pd Tryz.prog 121 Afc:=by
 refine fn2 2 (Pv) Tryz.func121<|?_
 rintro ⟨f1,to2⟩
 unfold Zx
 refine A 17 ?_
 refine cD r ?_ ?_
 ·exact B
 ·refine A 9 ?_
  refine lP (E:=fun (s : Int) (g : Nat)=>[(1,.sl (to2.map Pa)),(2,.optr 2 g 0 0),(5,.int .i64 s)]) (O:=fun _ g=>[(2,some (g,⟨false,true,3,40,[.agg [.int .i64 f1.Params,.sl (f1.Slots.map Pn),.sl (f1.Code.map Pm)]]⟩))]) (body:=fun s=>YM to2 f1 s) (s:=0) _ ((hE ⟨rfl,r,r,trivial⟩ ⟨rfl,trivial⟩))<|?_
  rintro s3 v2x1 nn
  try dsimp only
  unfold YM
  refine A 9 ?_
  refine cD r ?_ ?_
  ·exact B
  ·refine A 12 ?_
   refine lP (E:=fun (s : Int) (g : Nat)=>[(1,.sl (to2.map Pa)),(2,.optr 2 g 0 0),(6,.int .i64 s)]) (O:=fun _ g=>[(2,some (g,⟨false,true,3,40,[.agg [.int .i64 f1.Params,.sl (f1.Slots.map Pn),.sl (f1.Code.map Pm)]]⟩))]) (body:=fun s=>YN to2 f1 s) (s:=0) _ ((hE ⟨rfl,r,r,trivial⟩ ⟨rfl,trivial⟩))<|?_
   rintro s6 v2x2 nn
   try dsimp only
   unfold YN
   exact B

def TB (a : OX × Pw) : List D:=[PN a.1,Aea a.2]
def TA (ds : List D) : OX × Pw:=(SI (ds.getD 0 .top),Aeu (ds.getD 1 .top))
theorem Ajs (a : OX × Pw) : TA (TB a) = a:=by simp [TA,TB]
instance : Px TB TA:=⟨Ajs⟩
def AkF (b : Int) : D:=.int .i64 b
noncomputable def Afg : Dw.Spec:=Pe [] .ground TB TA (fun a=>Zz a.1 a.2) AkF noE
theorem Ajt : Pd Tryz.prog 99 Afg:=by
 refine fn2 2 (Pk (l:=[(121,Afc),(37,Zj)]) (by simp [Ajo,AbG])) Tryz.func99<|?_
 rintro ⟨f1,r2⟩
 unfold Zz
 refine A 7 ?_
 refine sC (E:=fun (_s : Unit) (g : Nat × Nat)=>[(2,.optr 2 g.1 0 0),(3,.optr 3 g.2 0 0)]) (O:=fun _ g=>[(2,some (g.1,⟨false,true,3,40,[.agg [.int .i64 f1.Params,.sl (f1.Slots.map Pn),.sl (f1.Code.map Pm)]]⟩)),(3,some (g.2,⟨false,true,2,104,[.agg [.sl (r2.To.map Pa),.sl (r2.Keep.map D.bool)]]⟩))]) (j:=fun _=>YX f1 r2) ?_ ?_
 ·exact B
 ·rintro ⟨⟩ ⟨v2x1,v3x1⟩ nn
  try dsimp only
  unfold YX
  refine A 7 ?_
  refine lP (E:=fun (s : Int) (g : Nat × Nat)=>[(2,.optr 2 g.1 0 0),(3,.optr 3 g.2 0 0),(5,.int .i64 s)]) (O:=fun _ g=>[(2,some (g.1,⟨false,true,3,40,[.agg [.int .i64 f1.Params,.sl (f1.Slots.map Pn),.sl (f1.Code.map Pm)]]⟩)),(3,some (g.2,⟨false,true,2,104,[.agg [.sl (r2.To.map Pa),.sl (r2.Keep.map D.bool)]]⟩))]) (body:=fun s=>YW f1 r2 s) (s:=0) (_,_) ((hE ⟨rfl,r,r,trivial⟩ ⟨rfl,r,trivial⟩))<|?_
  rintro k4 ⟨v2x2,v3x2⟩ nn
  try dsimp only
  unfold YW
  exact B

def VG (a : Int × (List Int)) : List D:=[.int .i64 a.1,.sl (a.2.map Pa)]
def VF (ds : List D) : Int × (List Int):=(uI (ds.getD 0 .top),(uL uI) (ds.getD 1 .top))
theorem Ahx (a : Int × (List Int)) : VF (VG a) = a:=by simp [VF,VG,uI,PV (u:=uI) (en:=Pa) (fun _=>rfl)]
instance : Px VG VF:=⟨Ahx⟩
def Aik (b : Int) : D:=.int .i64 b
noncomputable def Ado : Dw.Spec:=Pe [] .ground VG VF (fun a=>Su a.1 a.2) Aik noE
theorem Ahy : Pd Tryz.prog 122 Ado:=by
 refine fn2 2 (Pv) Tryz.func122<|?_
 intro a
 unfold Su
 exact B

def Aij (b : OZ) : D:=Pm b
noncomputable def AaI : Dw.Spec:=Pe [] .ground Wd Wc (fun a=>UK a.1 a.2) Aij noE
theorem AcH : Pd Tryz.prog 104 AaI:=by
 refine fn2 2 (Pk (l:=[(122,Ado)]) (by simp [Ahy])) Tryz.func104<|?_
 intro a
 unfold UK
 exact B

def AlF (b : (List Int)) : D:=.sl (b.map Pa)
noncomputable def Aga : Dw.Spec:=Pe [] (.row 1 3) TB TA (fun a=>AaO a.1 a.2) AlF noE
theorem AkG : Pd Tryz.prog 100 Aga:=by
 refine fn2 2 (Pk (l:=[(104,AaI),(88,AcI),(64,WS),(14,Vl),(32,Xc)]) (by simp [AcH,AeW,Yw,Wt,XY])) Tryz.func100<|?_
 rintro ⟨f1,r2⟩
 unfold AaO
 refine A 19 ?_
 refine lP (E:=fun (s : (List Int) × Int) (g : Nat × Nat × Nat)=>[(2,.optr 2 g.1 0 0),(3,.optr 3 g.2.1 0 0),(5,.osl 5 g.2.2 0 s.1.length),(6,.int .i64 s.2)]) (O:=fun s g=>[(2,some (g.1,⟨false,true,3,40,[.agg [.int .i64 f1.Params,.sl (f1.Slots.map Pn),.sl (f1.Code.map Pm)]]⟩)),(3,some (g.2.1,⟨false,true,2,104,[.agg [.sl (r2.To.map Pa),.sl (r2.Keep.map D.bool)]]⟩)),(5,some (g.2.2,⟨false,false,1,3,s.1.map Pa⟩))]) (body:=fun s=>ZO f1 r2 s.1 s.2) (s:=(([] : List Int),0)) (_,_,_) ((hE ⟨rfl,r,r,r,trivial⟩ ⟨rfl,r,r,trivial⟩))<|?_
 rintro ⟨out3,k4⟩ ⟨v2x1,v3x1,v5x1⟩ nn
 try dsimp only
 unfold ZO
 refine sC (E:=fun (_s : Unit) (g : Nat × Nat × Nat)=>[(2,.optr 2 g.1 0 0),(3,.optr 3 g.2.1 0 0),(5,.osl 5 g.2.2 0 out3.length),(6,.int .i64 k4),(16,.int .i64 k4),(17,.optr 3 g.2.1 0 1),(18,.sl (r2.Keep.map D.bool)),(19,.int .i64 (r2.Keep.length : Int)),(20,.bool (decide (k4 < (r2.Keep.length : Int))))]) (O:=fun _ g=>[(2,some (g.1,⟨false,true,3,40,[.agg [.int .i64 f1.Params,.sl (f1.Slots.map Pn),.sl (f1.Code.map Pm)]]⟩)),(3,some (g.2.1,⟨false,true,2,104,[.agg [.sl (r2.To.map Pa),.sl (r2.Keep.map D.bool)]]⟩)),(5,some (g.2.2,⟨false,false,1,3,out3.map Pa⟩))]) (j:=fun _=>ZP r2 k4 out3 f1) ?_ ?_
 ·exact B
 ·rintro ⟨⟩ ⟨v2x2,v3x2,v5x2⟩ nn
  try dsimp only
  unfold ZP
  exact B

def VK (a : Pw × (List Int)) : List D:=[Aea a.1,.sl (a.2.map Pa)]
def VJ (ds : List D) : Pw × (List Int):=(Aeu (ds.getD 0 .top),(uL uI) (ds.getD 1 .top))
theorem AhF (a : Pw × (List Int)) : VJ (VK a) = a:=by simp [VJ,VK,PV (u:=uI) (en:=Pa) (fun _=>rfl)]
instance : Px VK VJ:=⟨AhF⟩
def Air (b : (List Int)) : D:=.sl (b.map Pa)
noncomputable def Adt : Dw.Spec:=Pe [] (.row 1 3) VK VJ (fun a=>WV a.1 a.2) Air noE
theorem AhG : Pd Tryz.prog 102 Adt:=by
 refine fn2 2 (Pv) Tryz.func102<|?_
 rintro ⟨r1,used2⟩
 unfold WV
 refine A 18 ?_
 refine lP (E:=fun (s : (List Int) × Int) (g : Nat × Nat)=>[(1,.sl (used2.map Pa)),(2,.optr 2 g.1 0 0),(5,.osl 5 g.2 0 s.1.length),(6,.int .i64 s.2)]) (O:=fun s g=>[(2,some (g.1,⟨false,true,2,104,[.agg [.sl (r1.To.map Pa),.sl (r1.Keep.map D.bool)]]⟩)),(5,some (g.2,⟨false,false,1,3,s.1.map Pa⟩))]) (body:=fun s=>WB r1 used2 s.1 s.2) (s:=(([] : List Int),0)) (_,_) ((hE ⟨rfl,r,r,r,trivial⟩ ⟨rfl,r,trivial⟩))<|?_
 rintro ⟨out3,s4⟩ ⟨v2x1,v5x1⟩ nn
 try dsimp only
 unfold WB
 refine A 10 ?_
 refine cD r ?_ ?_
 ·refine A 2 ?_
  refine bC (E:=fun (s : (List Int)) (g : Nat × Nat)=>[(1,.sl (used2.map Pa)),(2,.optr 2 g.1 0 0),(5,.osl 5 g.2 0 s.length),(6,.int .i64 s4)]) (O:=fun s g=>[(2,some (g.1,⟨false,true,2,104,[.agg [.sl (r1.To.map Pa),.sl (r1.Keep.map D.bool)]]⟩)),(5,some (g.2,⟨false,false,1,3,s.map Pa⟩))]) (j:=fun s=>WD s4 s) ?_ ?_
  ·refine A 12 ?_
   refine lP (E:=fun (s : Int × Int) (g : Nat × Nat)=>[(1,.sl (used2.map Pa)),(2,.optr 2 g.1 0 0),(5,.osl 5 g.2 0 out3.length),(6,.int .i64 s4),(7,.int .i64 s.1),(8,.int .i64 s.2)]) (O:=fun _ g=>[(2,some (g.1,⟨false,true,2,104,[.agg [.sl (r1.To.map Pa),.sl (r1.Keep.map D.bool)]]⟩)),(5,some (g.2,⟨false,false,1,3,out3.map Pa⟩))]) (body:=fun s=>WC used2 r1 s4 out3 s.1 s.2) (s:=(0,0)) (_,_) ((hE ⟨rfl,r,r,r,r,r,trivial⟩ ⟨rfl,r,trivial⟩))<|?_
   rintro ⟨n6,i7⟩ ⟨v2x2,v5x2⟩ nn
   try dsimp only
   unfold WC
   exact B
  ·rintro out5 ⟨v2x3,v5x3⟩ nn
   try dsimp only
   unfold WD
   exact B
 ·exact B

def WA (a : Pw) : List D:=[Aea a]
def Wz (ds : List D) : Pw:=Aeu (ds.getD 0 .top)
theorem Aip (a : Pw) : Wz (WA a) = a:=by simp [Wz,WA]
instance : Px WA Wz:=⟨Aip⟩
def Aju (b : (List Int)) : D:=.sl (b.map Pa)
noncomputable def Aem : Dw.Spec:=Pe [] (.row 1 3) WA Wz (fun a=>Ya a) Aju noE
theorem Aiq : Pd Tryz.prog 103 Aem:=by
 refine fn2 1 (Pv) Tryz.func103<|?_
 intro r1
 unfold Ya
 refine A 23 ?_
 refine lP (E:=fun (s : (List Int) × Int × Int) (g : Nat × Nat)=>[(1,.optr 1 g.1 0 0),(3,.osl 3 g.2 0 s.1.length),(4,.int .i64 s.2.1),(5,.int .i64 s.2.2)]) (O:=fun s g=>[(1,some (g.1,⟨false,true,2,104,[.agg [.sl (r1.To.map Pa),.sl (r1.Keep.map D.bool)]]⟩)),(3,some (g.2,⟨false,false,1,3,s.1.map Pa⟩))]) (body:=fun s=>XB r1 s.1 s.2.1 s.2.2) (s:=(([] : List Int),0,0)) (_,_) ((hE ⟨rfl,r,r,r,trivial⟩ ⟨rfl,r,trivial⟩))<|?_
 rintro ⟨out2,n3,k4⟩ ⟨v1x1,v3x1⟩ nn
 try dsimp only
 unfold XB
 exact B

def Afe (b : OX × Int) : D:=.tup [PN b.1,.int .i64 b.2]
noncomputable def Aff : Dw.Spec:=Pe [] .val TB TA (fun a=>Vw a.1 a.2) Afe noE
theorem Ajr : Pd Tryz.prog 80 Aff:=by
 refine fn2 2 (Pk (l:=[(99,Afg),(100,Aga),(101,AaM),(102,Adt),(103,Aem),(104,AaI)]) (by simp [Ajt,AkG,AcJ,AhG,Aiq,AcH])) Tryz.func80<|?_
 rintro ⟨f1,r2⟩
 unfold Vw
 refine A 13 ?_
 refine bD fun r3 hr3=>?_
 refine A 10 ?_
 refine cD r ?_ ?_
 ·refine A 10 ?_
  refine Qw (b:=((OX.mk 0 ([]) ([])),r3)) r ?_ r r ?_ (by first | rfl | (simp only [OV]; rfl) | (simp only [OW]; rfl) | (simp only [OV,OW]; rfl) | simp [Afe,PN]) (by decide)
  all_goals first|(simp;done)|(simp;omega)|rfl|(simp [PG,PE];done)
 ·refine A 6 ?_
  refine bD fun r4 hr4=>?_
  refine A 20 ?_
  refine lP (E:=fun (s : (List Po) × Int) (g : Nat × Nat × Nat × Nat × Nat)=>[(2,.optr 2 g.1 0 0),(3,.optr 3 g.2.1 0 0),(4,.optr 4 g.2.2.1 0 0),(7,.osl 7 g.2.2.2.1 0 r4.length),(8,.optr 8 g.2.2.2.2 0 0),(9,.int .i64 s.2)]) (O:=fun s g=>[(2,some (g.1,⟨false,true,3,40,[.agg [.int .i64 f1.Params,.sl (f1.Slots.map Pn),.sl (f1.Code.map Pm)]]⟩)),(3,some (g.2.1,⟨false,true,2,104,[.agg [.sl (r2.To.map Pa),.sl (r2.Keep.map D.bool)]]⟩)),(4,some (g.2.2.1,⟨false,true,3,40,[.agg [.int .i64 0,.nils,.nils]]⟩)),(7,some (g.2.2.2.1,⟨false,false,1,3,r4.map Pa⟩)),(8,some (g.2.2.2.2,⟨false,true,3,40,[.agg [.int .i64 f1.Params,.sl (s.1.map Pn),.nils]]⟩))]) (body:=fun s=>YU r4 f1 r2 s.1 s.2) (s:=([],0)) (_,_,_,_,_) ((Abk [] trivial ⟨(PF r),(PF r),(PF r),(PF r),(PF r),(PF r),trivial⟩ ⟨(.inl r),(.inl r),(.inl r),(.inl r),(.inr ⟨_,_,_,_,r,r,r,r,ZS r ⟨(UT r),(XO Pn r),(UT r),trivial⟩⟩),trivial⟩))<|?_
  rintro ⟨out5,i6⟩ ⟨v2x1,v3x1,v4x1,v7x1,v8x1⟩ nn
  try dsimp only
  unfold YU
  refine A 9 ?_
  refine cD r ?_ ?_
  ·refine A 2 ?_
   refine bC (E:=fun (_s : (List Po)) (g : Nat × Nat × Nat × Nat × Nat × Nat)=>[(2,.optr 2 g.1 0 0),(3,.optr 3 g.2.1 0 0),(4,.optr 4 g.2.2.1 0 0),(7,.osl 7 g.2.2.2.1 0 r4.length),(8,.optr 8 g.2.2.2.2.1 0 0),(9,.int .i64 i6)]) (O:=fun s g=>[(2,some (g.1,⟨false,true,3,40,[.agg [.int .i64 f1.Params,.sl (f1.Slots.map Pn),.sl (f1.Code.map Pm)]]⟩)),(3,some (g.2.1,⟨false,true,2,104,[.agg [.sl (r2.To.map Pa),.sl (r2.Keep.map D.bool)]]⟩)),(4,some (g.2.2.1,⟨false,true,3,40,[.agg [.int .i64 0,.nils,.nils]]⟩)),(7,some (g.2.2.2.1,⟨false,false,1,3,r4.map Pa⟩)),(8,some (g.2.2.2.2.1,⟨false,true,3,40,[.agg [.int .i64 f1.Params,.osl 13 g.2.2.2.2.2 0 s.length,.nils]]⟩)),(13,some (g.2.2.2.2.2,⟨false,false,2,54,s.map Pn⟩))]) (j:=fun s=>YV i6 s) ?_ ?_
   ·refine A 7 ?_
    refine bD fun used_e8 hused_e8=>?_
    refine A 1 ?_
    refine bD fun x_x9 hx_x9=>?_
    refine A 13 ?_
    refine bD fun used_e10 hused_e10=>?_
    refine A 1 ?_
    refine bD fun r11 hr11=>?_
    refine A 11 ?_
    refine lP (E:=fun (s : Int × Int) (g : Nat × Nat × Nat × Nat × Nat × Nat × Nat)=>[(2,.optr 2 g.1 0 0),(3,.optr 3 g.2.1 0 0),(4,.optr 4 g.2.2.1 0 0),(7,.osl 7 g.2.2.2.1 0 r4.length),(8,.optr 8 g.2.2.2.2.1 0 0),(9,.int .i64 i6),(10,.optr 10 g.2.2.2.2.2.1 0 0),(11,.osl 11 g.2.2.2.2.2.2 0 r11.length),(12,.int .i64 s.2)]) (O:=fun s g=>[(2,some (g.1,⟨false,true,3,40,[.agg [.int .i64 f1.Params,.sl (f1.Slots.map Pn),.sl (f1.Code.map Pm)]]⟩)),(3,some (g.2.1,⟨false,true,2,104,[.agg [.sl (r2.To.map Pa),.sl (r2.Keep.map D.bool)]]⟩)),(4,some (g.2.2.1,⟨false,true,3,40,[.agg [.int .i64 0,.nils,.nils]]⟩)),(7,some (g.2.2.2.1,⟨false,false,1,3,r4.map Pa⟩)),(8,some (g.2.2.2.2.1,⟨false,true,3,40,[.agg [.int .i64 f1.Params,.sl (out5.map Pn),.nils]]⟩)),(10,some (g.2.2.2.2.2.1,⟨false,true,2,54,[.agg [.int .i64 x_x9.Size,.int .i64 s.1]]⟩)),(11,some (g.2.2.2.2.2.2,⟨false,false,1,3,r11.map Pa⟩))]) (body:=fun s=>Wg r11 f1 out5 x_x9 i6 s.1 s.2) (s:=(x_x9.Align,0)) (_,_,_,_,_,_,_) ((hE ⟨rfl,r,r,r,r,r,r,r,r,trivial⟩ ⟨rfl,r,r,r,r,r,r,trivial⟩))<|?_
    rintro ⟨s12,k13⟩ ⟨v2x2,v3x2,v4x2,v7x2,v8x2,v10x2,v11x2⟩ nn
    try dsimp only
    unfold Wg
    refine A 9 ?_
    refine cD r ?_ ?_
    ·exact B
    ·refine A 11 ?_
     refine bS ([(Po.mk x_x9.Size s12)] : List Po) Pn r r r (by simp) r r r<|?_
     exact B
   ·rintro slots7 ⟨v2x3,v3x3,v4x3,v7x3,v8x3,v13x3⟩ nn
    try dsimp only
    unfold YV
    refine A 5 ?_
    exact wf [13] fun _=>B
  ·refine A 9 ?_
   refine bD fun r16 hr16=>?_
   refine A 2 ?_
   refine bD fun r17 hr17=>?_
   refine A 12 ?_
   refine lP (E:=fun (s : (List OZ) × Int) (g : Nat × Nat × Nat × Nat × Nat × Nat)=>[(2,.optr 2 g.1 0 0),(3,.optr 3 g.2.1 0 0),(4,.optr 4 g.2.2.1 0 0),(8,.optr 8 g.2.2.2.1 0 0),(14,.osl 14 g.2.2.2.2.1 0 r16.length),(15,.osl 15 g.2.2.2.2.2 0 r17.length),(16,.int .i64 s.2)]) (O:=fun s g=>[(2,some (g.1,⟨false,true,3,40,[.agg [.int .i64 f1.Params,.sl (f1.Slots.map Pn),.sl (f1.Code.map Pm)]]⟩)),(3,some (g.2.1,⟨false,true,2,104,[.agg [.sl (r2.To.map Pa),.sl (r2.Keep.map D.bool)]]⟩)),(4,some (g.2.2.1,⟨false,true,3,40,[.agg [.int .i64 0,.nils,.nils]]⟩)),(8,some (g.2.2.2.1,⟨false,true,3,40,[.agg [.int .i64 f1.Params,.sl (out5.map Pn),.sl (s.1.map Pm)]]⟩)),(14,some (g.2.2.2.2.1,⟨false,false,1,3,r16.map Pa⟩)),(15,some (g.2.2.2.2.2,⟨false,false,1,3,r17.map Pa⟩))]) (body:=fun s=>Wh f1 r2 r16 r17 out5 s.1 s.2) (s:=([],0)) (_,_,_,_,_,_) ((Abk [] trivial ⟨(PF r),(PF r),(PF r),(PF r),(PF r),(PF r),(PF r),trivial⟩ ⟨(.inl r),(.inl r),(.inl r),(.inr ⟨_,_,_,_,r,r,r,r,ZS r ⟨(UT r),(UT r),(XO Pm r),trivial⟩⟩),(.inl r),(.inl r),trivial⟩))<|?_
   rintro ⟨out18,k19⟩ ⟨v2x4,v3x4,v4x4,v8x4,v14x4,v15x4⟩ nn
   try dsimp only
   unfold Wh
   refine A 10 ?_
   refine cD r ?_ ?_
   ·refine A 10 ?_
    refine bD fun x_x20 hx_x20=>?_
    refine A 5 ?_
    refine cD r ?_ ?_
    ·exact B
    ·refine A 7 ?_
     refine bD fun x_x21 hx_x21=>?_
     refine A 3 ?_
     refine bD fun r22 hr22=>?_
     refine A 5 ?_
     refine sC (E:=fun (_s : Int × Int) (g : Nat × Nat × Nat × Nat × Nat × Nat × Nat)=>[(2,.optr 2 g.1 0 0),(3,.optr 3 g.2.1 0 0),(4,.optr 4 g.2.2.1 0 0),(8,.optr 8 g.2.2.2.1 0 0),(14,.osl 14 g.2.2.2.2.1 0 r16.length),(15,.osl 15 g.2.2.2.2.2.1 0 r17.length),(16,.int .i64 k19),(17,.optr 17 g.2.2.2.2.2.2 0 0)]) (O:=fun s g=>[(2,some (g.1,⟨false,true,3,40,[.agg [.int .i64 f1.Params,.sl (f1.Slots.map Pn),.sl (f1.Code.map Pm)]]⟩)),(3,some (g.2.1,⟨false,true,2,104,[.agg [.sl (r2.To.map Pa),.sl (r2.Keep.map D.bool)]]⟩)),(4,some (g.2.2.1,⟨false,true,3,40,[.agg [.int .i64 0,.nils,.nils]]⟩)),(8,some (g.2.2.2.1,⟨false,true,3,40,[.agg [.int .i64 f1.Params,.sl (out5.map Pn),.sl (out18.map Pm)]]⟩)),(14,some (g.2.2.2.2.1,⟨false,false,1,3,r16.map Pa⟩)),(15,some (g.2.2.2.2.2.1,⟨false,false,1,3,r17.map Pa⟩)),(17,some (g.2.2.2.2.2.2,⟨false,true,5,50,[.agg [.int .i64 r22.Op,.int .i64 s.1,.int .i64 s.2,.int .i64 r22.C,.int .u64 r22.Imm]]⟩))]) (j:=fun s=>SS out18 r22 k19 s.1 s.2) ?_ ?_
     ·exact B
     ·rintro ⟨x23,x24⟩ ⟨v2x5,v3x5,v4x5,v8x5,v14x5,v15x5,v17x5⟩ nn
      try dsimp only
      unfold SS
      refine A 6 ?_
      refine bS ([(OZ.mk r22.Op x23 x24 r22.C r22.Imm)] : List OZ) Pm r r r (by simp) r r r<|?_
      refine A 16 ?_
      exact wf [18] fun _=>B
   ·exact B

def Ajl (b : (List (List Int)) × Int) : D:=.tup [.sl (b.1.map (eL Pa)),.int .i64 b.2]
noncomputable def Aek : Dw.Spec:=Pe [] .val Qk Qj (fun a=>AaL a.1 a.2) Ajl noE
theorem Aim : Pd Tryz.prog 22 Aek:=by
 refine fn2 2 (Pk (l:=[(44,AbQ)]) (by simp [Ael])) Tryz.func22<|?_
 intro a
 unfold AaL
 exact B

def Xu (a : (List (List Int)) × Int) : List D:=[.sl (a.1.map (eL Pa)),.int .i64 a.2]
def Xt (ds : List D) : (List (List Int)) × Int:=((uL (uL uI)) (ds.getD 0 .top),uI (ds.getD 1 .top))
theorem Ajh (a : (List (List Int)) × Int) : Xt (Xu a) = a:=by simp [Xt,Xu,uI,PV (u:=(uL uI)) (en:=(eL Pa)) (PV (u:=uI) (en:=Pa) (fun _=>rfl))]
instance : Px Xu Xt:=⟨Ajh⟩
def Akw (b : Bool) : D:=.bool b
noncomputable def AeZ : Dw.Spec:=Pe [] .ground Xu Xt (fun a=>Zu a.1 a.2) Akw noE
theorem Aji : Pd Tryz.prog 46 AeZ:=by
 refine fn2 2 (Pk (l:=[(71,AbN),(15,Xe)]) (by simp [Aeh,XZ])) Tryz.func46<|?_
 rintro ⟨g1,n2⟩
 unfold Zu
 refine A 14 ?_
 refine cD r ?_ ?_
 ·exact B
 ·refine A 9 ?_
  refine lP (E:=fun (s : Int) (_g : Unit)=>[(0,.sl (g1.map (eL Pa))),(1,.int .i64 n2),(5,.int .i64 s)]) (O:=fun _ _=>[]) (body:=fun s=>YE n2 g1 s) (s:=0) () ((hE ⟨rfl,r,r,trivial⟩ trivial))<|?_
  rintro x3 ⟨⟩ nn
  try dsimp only
  unfold YE
  refine A 8 ?_
  refine cD r ?_ ?_
  ·refine A 2 ?_
   refine bC (E:=fun (s : (List Int) × (List Int) × Bool) (_g : Unit)=>[(0,.sl (g1.map (eL Pa))),(1,.int .i64 n2),(5,.int .i64 x3),(24,.sl (g1.map (eL Pa))),(25,.int .i64 x3),(26,.fptr (.sl (s.1.map Pa)) 0),(27,.sl (s.2.1.map Pa)),(28,.int .i64 x3),(29,.bool s.2.2)]) (O:=fun _ _=>[]) (j:=fun s=>YG x3 s.1 s.2.1 s.2.2) ?_ ?_
   ·refine sC (E:=fun (s : (List Int) × (List Int) × Bool) (_g : Unit)=>[(0,.sl (g1.map (eL Pa))),(1,.int .i64 n2),(5,.int .i64 x3),(24,.sl (g1.map (eL Pa))),(25,.int .i64 x3),(26,.fptr (.sl (s.1.map Pa)) 0),(27,.sl (s.2.1.map Pa)),(28,.int .i64 x3),(29,.bool s.2.2)]) (O:=fun _ _=>[]) (j:=fun s=>YH g1 x3 n2 s.1 s.2.1 s.2.2) ?_ ?_
    ·exact B
    ·rintro ⟨x7,x8,x9⟩ ⟨⟩ nn
     try dsimp only
     unfold YH
     refine A 6 ?_
     refine lP (E:=fun (s : Int) (_g : Unit)=>[(0,.sl (g1.map (eL Pa))),(1,.int .i64 n2),(5,.int .i64 x3),(6,.int .i64 s),(24,.sl (g1.map (eL Pa))),(25,.int .i64 x3),(26,.fptr (.sl (x7.map Pa)) 0),(27,.sl (x8.map Pa)),(28,.int .i64 x3),(29,.bool x9)]) (O:=fun _ _=>[]) (body:=fun s=>YF g1 x3 n2 x7 x8 x9 s) (s:=0) () ((hE ⟨rfl,r,r,r,r,r,r,r,r,r,trivial⟩ trivial))<|?_
     rintro i14 ⟨⟩ nn
     try dsimp only
     unfold YF
     exact B
   ·rintro ⟨x4,x5,x6⟩ ⟨⟩ nn
    try dsimp only
    unfold YG
    exact B
  ·exact B

def WI (a : Po × Po) : List D:=[Pn a.1,Pn a.2]
def WH (ds : List D) : Po × Po:=(XI (ds.getD 0 .top),XI (ds.getD 1 .top))
theorem Aiu (a : Po × Po) : WH (WI a) = a:=by simp [WH,WI]
instance : Px WI WH:=⟨Aiu⟩
def Ajx (b : Bool) : D:=.bool b
noncomputable def Aeo : Dw.Spec:=Pe [] .ground WI WH (fun a=>Yc a.1 a.2) Ajx noE
theorem Aiv : Pd Tryz.prog 72 Aeo:=by
 refine fn2 2 (Pv) Tryz.func72<|?_
 intro a
 unfold Yc
 exact B

end Go.Proofs.YtnldnldmgceooaaGreatDoor
