/-
  Programs on typed data, and the proofs that the code does what they say; written by a program (dx.py).
-/
import Derived.Test.YtnldnldmgceooaaGreatDoorProg
import Derived.Test.YtnldnldmgceooaaGreatDoorDd
import Derived.KernelRfl
import Derived.Test.YtnldnldmgceooaaGreatDoorDxP
import Derived.Test.YtnldnldmgceooaaGreatDoorDxF2
namespace Go.Proofs.YtnldnldmgceooaaGreatDoor
open Go Go.Dw Go.Proofs
set_option maxRecDepth 100000
set_option maxHeartbeats 4000000
open Go.Dw renaming QW → bD,PO → cK,Ads → bS,Uo → sE,AcT → cD,AaE → hE,AeY → lP,Abu → sC,Wz → bC,rf → r
def AkU (b : Int × Int × Bool) : D:=.tup [.int .i64 b.1,.int .i64 b.2.1,.bool b.2.2]
noncomputable def AfD : Dw.Spec:=Pf [] .ground Qm Ql (fun a=>ZO a.1 a.2) AkU noE
theorem AjG : Pd Tryz.prog 61 AfD:=by
 refine fn2 2 (Pk (l:=[(62,Acv),(87,AdQ)]) (by simp [AeO,Aid])) Tryz.func61<|?_
 rintro ⟨f1,l2⟩
 unfold ZO
 refine A 14 ?_
 refine bD fun r3 hr3=>?_
 refine A 4 ?_
 refine cD r ?_ ?_
 ·exact B
 ·refine A 9 ?_
  refine lP (E:=fun (s : Int) (g : Nat × Nat)=>[(2,.optr 2 g.1 0 0),(3,.optr 3 g.2 0 0),(7,.int .i64 s)]) (O:=fun _ g=>[(2,some (g.1,⟨false,true,3,40,[.agg [.int .i64 f1.Params,.sl (f1.Slots.map Pn),.sl (f1.Code.map Pm)]]⟩)),(3,some (g.2,⟨false,true,1,29,[.agg [.sl (l2.Out.map (eL Pa))]]⟩))]) (body:=fun s=>YU f1 l2 s) (s:=0) (_,_) ((hE ⟨rfl,r,r,trivial⟩ ⟨rfl,r,trivial⟩))<|?_
  rintro k4 ⟨v2x1,v3x1⟩ nn
  try dsimp only
  unfold YU
  exact B

def AkT (b : Int) : D:=.int .i64 b
noncomputable def Aaj : Dw.Spec:=Pf [] .ground Qm Ql (fun a=>VJ a.1 a.2) AkT noE
theorem AbW : Pd Tryz.prog 36 Aaj:=by
 refine fn2 2 (Pk (l:=[(61,AfD),(62,Acv)]) (by simp [AjG,AeO])) Tryz.func36<|?_
 intro a
 unfold VJ
 exact B

def XJ (a : OX × Pg × Bool) : List D:=[PL a.1,Qv a.2.1,.bool a.2.2]
def XI (ds : List D) : OX × Pg × Bool:=(Sy (ds.getD 0 .top),VA (ds.getD 1 .top),uBo (ds.getD 2 .top))
theorem AjM (a : OX × Pg × Bool) : XI (XJ a) = a:=by simp [XI,XJ,uBo]
instance : Px XJ XI:=⟨AjM⟩
def AkZ (b : (List (List Int)) × Int) : D:=.tup [.sl (b.1.map (eL Pa)),.int .i64 b.2]
noncomputable def Acw : Dw.Spec:=Pf [] .val XJ XI (fun a=>Xr a.1 a.2.1 a.2.2) AkZ noE
theorem AeQ : Pd Tryz.prog 44 Acw:=by
 refine fn2 3 (Pk (l:=[(36,Aaj),(14,Sv),(32,Xo)]) (by simp [AbW,Tb,Yq])) Tryz.func44<|?_
 rintro ⟨f1,l2,strict3⟩
 unfold Xr
 refine A 13 ?_
 refine bD fun r4 hr4=>?_
 refine A 10 ?_
 refine cD r ?_ ?_
 ·exact B
 ·refine A 7 ?_
  refine cK fun hq=>Aep (α:=Int) r r r hq r<|?_
  refine A 2 ?_
  refine VL (E:=[(2,.bool strict3),(3,.optr 3 _ 0 0),(4,.optr 4 _ 0 0),(9,.osl 9 _ 0 ((List.replicate (f1.Slots.length : Int).toNat ([] : (List Int))).length))]) (O:=[(3,some (_,⟨false,true,3,40,[.agg [.int .i64 f1.Params,.sl (f1.Slots.map Pn),.sl (f1.Code.map Pm)]]⟩)),(4,some (_,⟨false,true,1,29,[.agg [.sl (l2.Out.map (eL Pa))]]⟩)),(9,some (_,⟨false,false,1,30,(List.replicate (f1.Slots.length : Int).toNat ([] : (List Int))).map (eL Pa)⟩))]) ((Agl (g:=9) r (AhS (l:=List.replicate (f1.Slots.length : Int).toNat ([] : (List Int))) Pa (fun _ h=>List.eq_of_mem_replicate h)) (hE ⟨rfl,r,r,r,trivial⟩ ⟨rfl,r,r,trivial⟩))) fun nn=>?_
  refine A 7 ?_
  refine lP (E:=fun (s : (List (List Int)) × Int) (g : Nat × Nat × Nat)=>[(2,.bool strict3),(3,.optr 3 g.1 0 0),(4,.optr 4 g.2.1 0 0),(9,.osl 9 g.2.2 0 s.1.length),(10,.int .i64 s.2)]) (O:=fun s g=>[(3,some (g.1,⟨false,true,3,40,[.agg [.int .i64 f1.Params,.sl (f1.Slots.map Pn),.sl (f1.Code.map Pm)]]⟩)),(4,some (g.2.1,⟨false,true,1,29,[.agg [.sl (l2.Out.map (eL Pa))]]⟩)),(9,some (g.2.2,⟨false,false,1,30,s.1.map (eL Pa)⟩))]) (body:=fun s=>Zc f1 l2 strict3 s.1 s.2) (s:=(List.replicate (f1.Slots.length : Int).toNat ([] : (List Int)),0)) (_,_,_) ((hE ⟨rfl,r,r,r,r,trivial⟩ ⟨rfl,r,r,trivial⟩))<|?_
  rintro ⟨out5,k6⟩ ⟨v3x1,v4x1,v9x1⟩ nn
  try dsimp only
  unfold Zc
  refine A 10 ?_
  refine cD r ?_ ?_
  ·refine A 2 ?_
   refine bC (E:=fun (s : Int × Int × Int × Int × Int × (List (List Int))) (g : Nat × Nat × Nat)=>[(2,.bool strict3),(3,.optr 3 g.1 0 0),(4,.optr 4 g.2.1 0 0),(9,.osl 9 g.2.2 0 s.2.2.2.2.2.length),(10,.int .i64 k6)]) (O:=fun s g=>[(3,some (g.1,⟨false,true,3,40,[.agg [.int .i64 f1.Params,.sl (f1.Slots.map Pn),.sl (f1.Code.map Pm)]]⟩)),(4,some (g.2.1,⟨false,true,1,29,[.agg [.sl (l2.Out.map (eL Pa))]]⟩)),(9,some (g.2.2,⟨false,false,1,30,s.2.2.2.2.2.map (eL Pa)⟩))]) (j:=fun s=>Td k6 s.1 s.2.1 s.2.2.1 s.2.2.2.1 s.2.2.2.2.1 s.2.2.2.2.2) ?_ ?_
   ·refine A 5 ?_
    refine bD fun x_x13 hx_x13=>?_
    refine A 9 ?_
    refine bD fun r14 hr14=>?_
    refine A 8 ?_
    refine sC (E:=fun (_s : Unit) (g : Nat × Nat × Nat × Nat)=>[(2,.bool strict3),(3,.optr 3 g.1 0 0),(4,.optr 4 g.2.1 0 0),(9,.osl 9 g.2.2.1 0 out5.length),(10,.int .i64 k6),(11,.optr 11 g.2.2.2 0 0),(12,.int .i64 r14.1),(13,.bool r14.2)]) (O:=fun _ g=>[(3,some (g.1,⟨false,true,3,40,[.agg [.int .i64 f1.Params,.sl (f1.Slots.map Pn),.sl (f1.Code.map Pm)]]⟩)),(4,some (g.2.1,⟨false,true,1,29,[.agg [.sl (l2.Out.map (eL Pa))]]⟩)),(9,some (g.2.2.1,⟨false,false,1,30,out5.map (eL Pa)⟩)),(11,some (g.2.2.2,⟨false,true,5,50,[.agg [.int .i64 x_x13.Op,.int .i64 x_x13.A,.int .i64 x_x13.B,.int .i64 x_x13.C,.int .u64 x_x13.Imm]]⟩))]) (j:=fun _=>Uu l2 k6 r14 strict3 x_x13 out5) ?_ ?_
    ·exact B
    ·rintro ⟨⟩ ⟨v3x2,v4x2,v9x2,v11x2⟩ nn
     try dsimp only
     unfold Uu
     refine A 6 ?_
     refine lP (E:=fun (s : (List (List Int)) × Int) (g : Nat × Nat × Nat × Nat)=>[(2,.bool strict3),(3,.optr 3 g.1 0 0),(4,.optr 4 g.2.1 0 0),(9,.osl 9 g.2.2.1 0 s.1.length),(10,.int .i64 k6),(11,.optr 11 g.2.2.2 0 0),(12,.int .i64 r14.1),(13,.bool r14.2),(14,.int .i64 s.2)]) (O:=fun s g=>[(3,some (g.1,⟨false,true,3,40,[.agg [.int .i64 f1.Params,.sl (f1.Slots.map Pn),.sl (f1.Code.map Pm)]]⟩)),(4,some (g.2.1,⟨false,true,1,29,[.agg [.sl (l2.Out.map (eL Pa))]]⟩)),(9,some (g.2.2.1,⟨false,false,1,30,s.1.map (eL Pa)⟩)),(11,some (g.2.2.2,⟨false,true,5,50,[.agg [.int .i64 x_x13.Op,.int .i64 x_x13.A,.int .i64 x_x13.B,.int .i64 x_x13.C,.int .u64 x_x13.Imm]]⟩))]) (body:=fun s=>Wv l2 k6 r14 strict3 x_x13 s.1 s.2) (s:=(out5,0)) (_,_,_,_) ((hE ⟨rfl,r,r,r,r,r,r,r,r,trivial⟩ ⟨rfl,r,r,r,trivial⟩))<|?_
     rintro ⟨out15,i16⟩ ⟨v3x3,v4x3,v9x3,v11x3⟩ nn
     try dsimp only
     unfold Wv
     refine sC (E:=fun (_s : Unit) (g : Nat × Nat × Nat × Nat)=>[(2,.bool strict3),(3,.optr 3 g.1 0 0),(4,.optr 4 g.2.1 0 0),(9,.osl 9 g.2.2.1 0 out15.length),(10,.int .i64 k6),(11,.optr 11 g.2.2.2 0 0),(12,.int .i64 r14.1),(13,.bool r14.2),(14,.int .i64 i16),(62,.bool r14.2)]) (O:=fun _ g=>[(3,some (g.1,⟨false,true,3,40,[.agg [.int .i64 f1.Params,.sl (f1.Slots.map Pn),.sl (f1.Code.map Pm)]]⟩)),(4,some (g.2.1,⟨false,true,1,29,[.agg [.sl (l2.Out.map (eL Pa))]]⟩)),(9,some (g.2.2.1,⟨false,false,1,30,out15.map (eL Pa)⟩)),(11,some (g.2.2.2,⟨false,true,5,50,[.agg [.int .i64 x_x13.Op,.int .i64 x_x13.A,.int .i64 x_x13.B,.int .i64 x_x13.C,.int .u64 x_x13.Imm]]⟩))]) (j:=fun _=>Zd l2 k6 i16 r14 out15 strict3 x_x13) ?_ ?_
     ·exact B
     ·rintro ⟨⟩ ⟨v3x4,v4x4,v9x4,v11x4⟩ nn
      try dsimp only
      unfold Zd
      refine A 7 ?_
      refine bD fun x_x18 hx_x18=>?_
      refine A 3 ?_
      refine bD fun x_x19 hx_x19=>?_
      refine A 5 ?_
      refine sC (E:=fun (s : Bool × Bool × Bool × Bool) (g : Nat × Nat × Nat × Nat)=>[(2,.bool strict3),(3,.optr 3 g.1 0 0),(4,.optr 4 g.2.1 0 0),(9,.osl 9 g.2.2.1 0 out15.length),(10,.int .i64 k6),(11,.optr 11 g.2.2.2 0 0),(12,.int .i64 r14.1),(13,.bool r14.2),(14,.int .i64 i16),(15,.int .i64 x_x19),(62,.bool r14.2),(78,.bool strict3),(79,.bool (!strict3)),(80,.bool s.1),(84,.bool s.2.1),(85,.bool s.2.2.1),(90,.bool s.2.2.2)]) (O:=fun _ g=>[(3,some (g.1,⟨false,true,3,40,[.agg [.int .i64 f1.Params,.sl (f1.Slots.map Pn),.sl (f1.Code.map Pm)]]⟩)),(4,some (g.2.1,⟨false,true,1,29,[.agg [.sl (l2.Out.map (eL Pa))]]⟩)),(9,some (g.2.2.1,⟨false,false,1,30,out15.map (eL Pa)⟩)),(11,some (g.2.2.2,⟨false,true,5,50,[.agg [.int .i64 x_x13.Op,.int .i64 x_x13.A,.int .i64 x_x13.B,.int .i64 x_x13.C,.int .u64 x_x13.Imm]]⟩))]) (j:=fun s=>Sa r14 out15 x_x19 i16 s.1 s.2.1 s.2.2.1 s.2.2.2) ?_ ?_
      ·exact B
      ·rintro ⟨x20,x21,x22,x23⟩ ⟨v3x5,v4x5,v9x5,v11x5⟩ nn
       try dsimp only
       unfold Sa
       refine A 8 ?_
       refine bD fun out_e24 hout_e24=>?_
       refine A 2 ?_
       refine bD fun r25 hr25=>?_
       refine A 4 ?_
       refine bD fun out_e26 hout_e26=>?_
       refine A 2 ?_
       refine bD fun r27 hr27=>?_
       refine A 2 ?_
       refine bD fun out_o28 hout_o28=>sE (l:=out15) (en:=(eL Pa)) (q':=r25) r r r r r r r (by simp) hout_o28 r r r (by simp [PI,cells,setAt,eL]) r<|?_
       refine A 1 ?_
       refine bD fun out_o29 hout_o29=>sE (l:=out15.set r14.1.toNat r25) (en:=(eL Pa)) (q':=r27) r r r r r r r (by simp) hout_o29 r r r (by simp [PI,cells,setAt,eL]) r<|?_
       exact B
   ·rintro ⟨x7,x8,x9,x10,x11,out12⟩ ⟨v3x6,v4x6,v9x6⟩ nn
    try dsimp only
    unfold Td
    exact B
  ·exact B

def AkX (b : (List (List Int)) × Int) : D:=.tup [.sl (b.1.map (eL Pa)),.int .i64 b.2]
noncomputable def AfF : Dw.Spec:=Pf [] .val Qm Ql (fun a=>ZQ a.1 a.2) AkX noE
theorem AjJ : Pd Tryz.prog 77 AfF:=by
 refine fn2 2 (Pk (l:=[(44,Acw)]) (by simp [AeQ])) Tryz.func77<|?_
 intro a
 unfold ZQ
 exact B

def AkY (b : (List PT)) : D:=.sl (b.map TI)
noncomputable def AfG : Dw.Spec:=Pf [] (.row 2 135) Vz Vy (fun a=>ZR a) AkY noE
theorem AjK : Pd Tryz.prog 96 AfG:=by
 refine fn2 1 (Pv) Tryz.func96<|?_
 intro f1
 unfold ZR
 refine A 18 ?_
 refine lP (E:=fun (s : (List PT) × Int) (g : Nat × Nat)=>[(1,.optr 1 g.1 0 0),(3,.osl 3 g.2 0 s.1.length),(4,.int .i64 s.2)]) (O:=fun s g=>[(1,some (g.1,⟨false,true,3,40,[.agg [.int .i64 f1.Params,.sl (f1.Slots.map Pn),.sl (f1.Code.map Pm)]]⟩)),(3,some (g.2,⟨false,false,2,135,s.1.map TI⟩))]) (body:=fun s=>Za f1 s.1 s.2) (s:=(([] : List PT),0)) (_,_) ((hE ⟨rfl,r,r,trivial⟩ ⟨rfl,r,trivial⟩))<|?_
 rintro ⟨out2,k3⟩ ⟨v1x1,v3x1⟩ nn
 try dsimp only
 unfold Za
 refine A 10 ?_
 refine cD r ?_ ?_
 ·refine A 2 ?_
  refine bC (E:=fun (s : (List PT)) (g : Nat × Nat)=>[(1,.optr 1 g.1 0 0),(3,.osl 3 g.2 0 s.length),(4,.int .i64 k3)]) (O:=fun s g=>[(1,some (g.1,⟨false,true,3,40,[.agg [.int .i64 f1.Params,.sl (f1.Slots.map Pn),.sl (f1.Code.map Pm)]]⟩)),(3,some (g.2,⟨false,false,2,135,s.map TI⟩))]) (j:=fun s=>Wu k3 s) ?_ ?_
  ·refine A 5 ?_
   refine bD fun x_x5 hx_x5=>?_
   refine A 17 ?_
   refine sC (E:=fun (s : Bool) (g : Nat × Nat × Nat)=>[(1,.optr 1 g.1 0 0),(3,.osl 3 g.2.1 0 out2.length),(4,.int .i64 k3),(6,.optr 6 g.2.2 0 0),(7,.bool s)]) (O:=fun _ g=>[(1,some (g.1,⟨false,true,3,40,[.agg [.int .i64 f1.Params,.sl (f1.Slots.map Pn),.sl (f1.Code.map Pm)]]⟩)),(3,some (g.2.1,⟨false,false,2,135,out2.map TI⟩)),(6,some (g.2.2,⟨false,true,2,135,[.agg [.int .i64 x_x5.A,.int .i64 x_x5.B]]⟩))]) (j:=fun s=>Ut out2 x_x5 k3 s) ?_ ?_
   ·exact B
   ·rintro old6 ⟨v1x2,v3x2,v6x2⟩ nn
    try dsimp only
    unfold Ut
    refine A 7 ?_
    refine lP (E:=fun (s : Bool × Int) (g : Nat × Nat × Nat)=>[(1,.optr 1 g.1 0 0),(3,.osl 3 g.2.1 0 out2.length),(4,.int .i64 k3),(6,.optr 6 g.2.2 0 0),(7,.bool s.1),(8,.int .i64 s.2)]) (O:=fun _ g=>[(1,some (g.1,⟨false,true,3,40,[.agg [.int .i64 f1.Params,.sl (f1.Slots.map Pn),.sl (f1.Code.map Pm)]]⟩)),(3,some (g.2.1,⟨false,false,2,135,out2.map TI⟩)),(6,some (g.2.2,⟨false,true,2,135,[.agg [.int .i64 x_x5.A,.int .i64 x_x5.B]]⟩))]) (body:=fun s=>Zb out2 x_x5 k3 s.1 s.2) (s:=(old6,0)) (_,_,_) ((hE ⟨rfl,r,r,r,r,r,trivial⟩ ⟨rfl,r,r,trivial⟩))<|?_
    rintro ⟨old7,i8⟩ ⟨v1x3,v3x3,v6x3⟩ nn
    try dsimp only
    unfold Zb
    refine A 9 ?_
    refine cD r ?_ ?_
    ·exact B
    ·refine A 11 ?_
     refine cD r ?_ ?_
     ·refine A 3 ?_
      refine bS ([(PT.mk x_x5.A x_x5.B)] : List PT) TI r r r (by simp) r r r<|?_
      exact B
     ·exact B
  ·rintro out4 ⟨v1x4,v3x4⟩ nn
   try dsimp only
   unfold Wu
   exact B
 ·exact B

def AiQ (b : (List Int)) : D:=.sl (b.map Pa)
noncomputable def Abm : Dw.Spec:=Pf [] (.row 1 3) Rk Rj (fun a=>TV a.1 a.2) AiQ noE
theorem Ado : Pd Tryz.prog 101 Abm:=by
 refine fn2 2 (Pv) Tryz.func101<|?_
 rintro ⟨to1,s2⟩
 unfold TV
 refine A 17 ?_
 refine lP (E:=fun (s : (List Int) × Int) (g : Nat)=>[(0,.sl (to1.map Pa)),(1,.int .i64 s2),(5,.osl 5 g 0 s.1.length),(6,.int .i64 s.2)]) (O:=fun s g=>[(5,some (g,⟨false,false,1,3,s.1.map Pa⟩))]) (body:=fun s=>WL to1 s2 s.1 s.2) (s:=(([] : List Int),0)) _ ((hE ⟨rfl,r,r,r,trivial⟩ ⟨rfl,trivial⟩))<|?_
 rintro ⟨out3,t4⟩ v5x1 nn
 try dsimp only
 unfold WL
 exact B

def XN (a : (List (List Int)) × (List Int) × Int × Int) : List D:=[.sl (a.1.map (eL Pa)),.sl (a.2.1.map Pa),.int .i64 a.2.2.1,.int .i64 a.2.2.2]
def XM (ds : List D) : (List (List Int)) × (List Int) × Int × Int:=((uL (uL uI)) (ds.getD 0 .top),(uL uI) (ds.getD 1 .top),uI (ds.getD 2 .top),uI (ds.getD 3 .top))
theorem AjP (a : (List (List Int)) × (List Int) × Int × Int) : XM (XN a) = a:=by simp [XM,XN,uI,PX (u:=(uL uI)) (en:=(eL Pa)) (PX (u:=uI) (en:=Pa) (fun _=>rfl)),PX (u:=uI) (en:=Pa) (fun _=>rfl)]
instance : Px XN XM:=⟨AjP⟩
def Alb (b : Bool) : D:=.bool b
noncomputable def AfI : Dw.Spec:=Pf [] .ground XN XM (fun a=>ZT a.1 a.2.1 a.2.2.1 a.2.2.2) Alb noE
theorem AjQ : Pd Tryz.prog 97 AfI:=by
 refine fn2 4 (Pk (l:=[(101,Abm),(15,VI)]) (by simp [Ado,Wm])) Tryz.func97<|?_
 rintro ⟨g1,to2,a3,b4⟩
 unfold ZT
 refine A 9 ?_
 refine bD fun r5 hr5=>?_
 refine A 3 ?_
 refine bD fun r6 hr6=>?_
 refine A 12 ?_
 refine lP (E:=fun (s : Int) (g : Nat × Nat)=>[(0,.sl (g1.map (eL Pa))),(9,.osl 9 g.1 0 r5.length),(10,.osl 10 g.2 0 r6.length),(11,.int .i64 s)]) (O:=fun _ g=>[(9,some (g.1,⟨false,false,1,3,r5.map Pa⟩)),(10,some (g.2,⟨false,false,1,3,r6.map Pa⟩))]) (body:=fun s=>Zg r5 r6 g1 s) (s:=0) (_,_) ((hE ⟨rfl,r,r,r,trivial⟩ ⟨rfl,r,trivial⟩))<|?_
 rintro i7 ⟨v9x1,v10x1⟩ nn
 try dsimp only
 unfold Zg
 refine A 9 ?_
 refine cD r ?_ ?_
 ·refine A 2 ?_
  refine bC (E:=fun (_s : Unit) (g : Nat × Nat)=>[(0,.sl (g1.map (eL Pa))),(9,.osl 9 g.1 0 r5.length),(10,.osl 10 g.2 0 r6.length),(11,.int .i64 i7)]) (O:=fun _ g=>[(9,some (g.1,⟨false,false,1,3,r5.map Pa⟩)),(10,some (g.2,⟨false,false,1,3,r6.map Pa⟩))]) (j:=fun _=>Zi i7) ?_ ?_
  ·refine A 6 ?_
   refine lP (E:=fun (s : Int) (g : Nat × Nat)=>[(0,.sl (g1.map (eL Pa))),(9,.osl 9 g.1 0 r5.length),(10,.osl 10 g.2 0 r6.length),(11,.int .i64 i7),(12,.int .i64 s)]) (O:=fun _ g=>[(9,some (g.1,⟨false,false,1,3,r5.map Pa⟩)),(10,some (g.2,⟨false,false,1,3,r6.map Pa⟩))]) (body:=fun s=>Zh r6 i7 r5 g1 s) (s:=0) (_,_) ((hE ⟨rfl,r,r,r,r,trivial⟩ ⟨rfl,r,trivial⟩))<|?_
   rintro k8 ⟨v9x2,v10x2⟩ nn
   try dsimp only
   unfold Zh
   exact B
  ·rintro ⟨⟩ ⟨v9x3,v10x3⟩ nn
   try dsimp only
   unfold Zi
   exact B
 ·exact B

def VU (a : OX × (List (List Int))) : List D:=[PL a.1,.sl (a.2.map (eL Pa))]
def VT (ds : List D) : OX × (List (List Int)):=(Sy (ds.getD 0 .top),(uL (uL uI)) (ds.getD 1 .top))
theorem Aie (a : OX × (List (List Int))) : VT (VU a) = a:=by simp [VT,VU,PX (u:=(uL uI)) (en:=(eL Pa)) (PX (u:=uI) (en:=Pa) (fun _=>rfl))]
instance : Px VU VT:=⟨Aie⟩
def AiP (b : (List Int)) : D:=.sl (b.map Pa)
noncomputable def AdR : Dw.Spec:=Pf [] (.row 1 3) VU VT (fun a=>Vc a.1 a.2) AiP noE
theorem Aif : Pd Tryz.prog 78 AdR:=by
 refine fn2 2 (Pk (l:=[(96,AfG),(97,AfI)]) (by simp [AjK,AjQ])) Tryz.func78<|?_
 rintro ⟨f1,g2⟩
 unfold Vc
 refine A 18 ?_
 refine lP (E:=fun (s : (List Int) × Int) (g : Nat × Nat)=>[(1,.sl (g2.map (eL Pa))),(2,.optr 2 g.1 0 0),(5,.osl 5 g.2 0 s.1.length),(6,.int .i64 s.2)]) (O:=fun s g=>[(2,some (g.1,⟨false,true,3,40,[.agg [.int .i64 f1.Params,.sl (f1.Slots.map Pn),.sl (f1.Code.map Pm)]]⟩)),(5,some (g.2,⟨false,false,1,3,s.1.map Pa⟩))]) (body:=fun s=>WH f1 g2 s.1 s.2) (s:=(([] : List Int),0)) (_,_) ((hE ⟨rfl,r,r,r,trivial⟩ ⟨rfl,r,trivial⟩))<|?_
 rintro ⟨to3,s4⟩ ⟨v2x1,v5x1⟩ nn
 try dsimp only
 unfold WH
 refine A 10 ?_
 refine cD r ?_ ?_
 ·exact B
 ·refine A 8 ?_
  refine bD fun r5 hr5=>?_
  refine A 11 ?_
  refine lP (E:=fun (s : (List Int) × Int) (g : Nat × Nat)=>[(1,.sl (g2.map (eL Pa))),(5,.osl 5 g.1 0 s.1.length),(7,.osl 7 g.2 0 r5.length),(8,.int .i64 s.2)]) (O:=fun s g=>[(5,some (g.1,⟨false,false,1,3,s.1.map Pa⟩)),(7,some (g.2,⟨false,false,2,135,r5.map TI⟩))]) (body:=fun s=>WI r5 g2 s.1 s.2) (s:=(to3,0)) (_,_) ((hE ⟨rfl,r,r,r,trivial⟩ ⟨rfl,r,trivial⟩))<|?_
  rintro ⟨to6,i7⟩ ⟨v5x2,v7x2⟩ nn
  try dsimp only
  unfold WI
  refine A 9 ?_
  refine cD r ?_ ?_
  ·refine A 2 ?_
   refine bC (E:=fun (s : (List Int)) (g : Nat × Nat)=>[(1,.sl (g2.map (eL Pa))),(5,.osl 5 g.1 0 s.length),(7,.osl 7 g.2 0 r5.length),(8,.int .i64 i7)]) (O:=fun s g=>[(5,some (g.1,⟨false,false,1,3,s.map Pa⟩)),(7,some (g.2,⟨false,false,2,135,r5.map TI⟩))]) (j:=fun s=>Rl i7 s) ?_ ?_
   ·refine A 6 ?_
    refine Uy r r r (by decide)<|bD fun moves_e9 hmoves_e9=>?_
    refine A 2 ?_
    refine bD fun to_e10 hto_e10=>?_
    refine A 5 ?_
    refine Uy r r r (by decide)<|bD fun moves_e11 hmoves_e11=>?_
    refine A 2 ?_
    refine bD fun to_e12 hto_e12=>?_
    refine A 5 ?_
    refine sC (E:=fun (s : Bool × Bool) (g : Nat × Nat)=>[(1,.sl (g2.map (eL Pa))),(5,.osl 5 g.1 0 to6.length),(7,.osl 7 g.2 0 r5.length),(8,.int .i64 i7),(9,.int .i64 to_e10),(10,.int .i64 to_e12),(51,.sl (g2.map (eL Pa))),(52,.osl 5 g.1 0 to6.length),(53,.int .i64 to_e10),(54,.int .i64 to_e12),(55,.bool s.1),(56,.bool s.2)]) (O:=fun _ g=>[(5,some (g.1,⟨false,false,1,3,to6.map Pa⟩)),(7,some (g.2,⟨false,false,2,135,r5.map TI⟩))]) (j:=fun s=>WK to_e10 to_e12 i7 to6 s.1 s.2) ?_ ?_
    ·exact B
    ·rintro ⟨x13,x14⟩ ⟨v5x3,v7x3⟩ nn
     try dsimp only
     unfold WK
     refine A 6 ?_
     refine lP (E:=fun (s : (List Int) × Int) (g : Nat × Nat)=>[(1,.sl (g2.map (eL Pa))),(5,.osl 5 g.1 0 s.1.length),(7,.osl 7 g.2 0 r5.length),(8,.int .i64 i7),(9,.int .i64 to_e10),(10,.int .i64 to_e12),(11,.int .i64 s.2),(51,.sl (g2.map (eL Pa))),(52,.osl 5 g.1 0 s.1.length),(53,.int .i64 to_e10),(54,.int .i64 to_e12),(55,.bool x13),(56,.bool x14)]) (O:=fun s g=>[(5,some (g.1,⟨false,false,1,3,s.1.map Pa⟩)),(7,some (g.2,⟨false,false,2,135,r5.map TI⟩))]) (body:=fun s=>WJ to_e10 to_e12 i7 s.1 s.2) (s:=(to6,0)) (_,_) ((hE ⟨rfl,r,r,r,r,r,r,r,r,r,r,r,r,trivial⟩ ⟨rfl,r,trivial⟩))<|?_
     rintro ⟨to16,s17⟩ ⟨v5x4,v7x4⟩ nn
     try dsimp only
     unfold WJ
     refine A 9 ?_
     refine cD r ?_ ?_
     ·refine A 4 ?_
      refine sC (E:=fun (s : Bool) (g : Nat × Nat)=>[(1,.sl (g2.map (eL Pa))),(5,.osl 5 g.1 0 to16.length),(7,.osl 7 g.2 0 r5.length),(8,.int .i64 i7),(9,.int .i64 to_e10),(10,.int .i64 to_e12),(11,.int .i64 s17),(51,.sl (g2.map (eL Pa))),(52,.osl 5 g.1 0 to16.length),(53,.int .i64 to_e10),(54,.int .i64 to_e12),(55,.bool x13),(56,.bool x14),(77,.bool s)]) (O:=fun _ g=>[(5,some (g.1,⟨false,false,1,3,to16.map Pa⟩)),(7,some (g.2,⟨false,false,2,135,r5.map TI⟩))]) (j:=fun s=>Te s17 to16 to_e10 to_e12 s) ?_ ?_
      ·exact B
      ·rintro x18 ⟨v5x5,v7x5⟩ nn
       try dsimp only
       unfold Te
       exact B
     ·exact B
   ·rintro to8 ⟨v5x6,v7x6⟩ nn
    try dsimp only
    unfold Rl
    exact B
  ·exact B

def Aml (b : Bool) : D:=.bool b
noncomputable def AgF : Dw.Spec:=Pf [] .ground Ud Uc (fun a=>Abn a.1 a.2.1 a.2.2) Aml noE
theorem Ale : Pd Tryz.prog 98 AgF:=by
 refine fn2 3 (Pk (l:=[(14,Sv),(15,VI)]) (by simp [Tb,Wm])) Tryz.func98<|?_
 intro a
 unfold Abn
 exact B

def Zl (a : OX × Pg × (List Int)) : List D:=[PL a.1,Qv a.2.1,.sl (a.2.2.map Pa)]
def Zk (ds : List D) : OX × Pg × (List Int):=(Sy (ds.getD 0 .top),VA (ds.getD 1 .top),(uL uI) (ds.getD 2 .top))
theorem Alc (a : OX × Pg × (List Int)) : Zk (Zl a) = a:=by simp [Zk,Zl,PX (u:=uI) (en:=Pa) (fun _=>rfl)]
instance : Px Zl Zk:=⟨Alc⟩
def Amk (b : (List Bool)) : D:=.sl (b.map D.bool)
noncomputable def AgE : Dw.Spec:=Pf [] (.row 1 4) Zl Zk (fun a=>Zj a.1 a.2.1 a.2.2) Amk noE
theorem Ald : Pd Tryz.prog 79 AgE:=by
 refine fn2 3 (Pk (l:=[(98,AgF)]) (by simp [Ale])) Tryz.func79<|?_
 rintro ⟨f1,l2,to3⟩
 unfold Zj
 refine A 19 ?_
 refine lP (E:=fun (s : (List Bool) × Int) (g : Nat × Nat × Nat)=>[(2,.sl (to3.map Pa)),(3,.optr 3 g.1 0 0),(4,.optr 4 g.2.1 0 0),(7,.osl 7 g.2.2 0 s.1.length),(8,.int .i64 s.2)]) (O:=fun s g=>[(3,some (g.1,⟨false,true,3,40,[.agg [.int .i64 f1.Params,.sl (f1.Slots.map Pn),.sl (f1.Code.map Pm)]]⟩)),(4,some (g.2.1,⟨false,true,1,29,[.agg [.sl (l2.Out.map (eL Pa))]]⟩)),(7,some (g.2.2,⟨false,false,1,4,s.1.map D.bool⟩))]) (body:=fun s=>Aak f1 l2 to3 s.1 s.2) (s:=(([] : List Bool),0)) (_,_,_) ((hE ⟨rfl,r,r,r,r,trivial⟩ ⟨rfl,r,r,trivial⟩))<|?_
 rintro ⟨out4,k5⟩ ⟨v3x1,v4x1,v7x1⟩ nn
 try dsimp only
 unfold Aak
 exact B

def XL (a : OX × (List Int)) : List D:=[PL a.1,.sl (a.2.map Pa)]
def XK (ds : List D) : OX × (List Int):=(Sy (ds.getD 0 .top),(uL uI) (ds.getD 1 .top))
theorem AjN (a : OX × (List Int)) : XK (XL a) = a:=by simp [XK,XL,PX (u:=uI) (en:=Pa) (fun _=>rfl)]
instance : Px XL XK:=⟨AjN⟩
def Ala (b : Bool) : D:=.bool b
noncomputable def AfH : Dw.Spec:=Pf [] .ground XL XK (fun a=>ZS a.1 a.2) Ala noE
theorem AjO : Pd Tryz.prog 121 AfH:=by
 refine fn2 2 (Pv) Tryz.func121<|?_
 rintro ⟨f1,to2⟩
 unfold ZS
 refine A 17 ?_
 refine cD r ?_ ?_
 ·exact B
 ·refine A 9 ?_
  refine lP (E:=fun (s : Int) (g : Nat)=>[(1,.sl (to2.map Pa)),(2,.optr 2 g 0 0),(5,.int .i64 s)]) (O:=fun _ g=>[(2,some (g,⟨false,true,3,40,[.agg [.int .i64 f1.Params,.sl (f1.Slots.map Pn),.sl (f1.Code.map Pm)]]⟩))]) (body:=fun s=>Ze to2 f1 s) (s:=0) _ ((hE ⟨rfl,r,r,trivial⟩ ⟨rfl,trivial⟩))<|?_
  rintro s3 v2x1 nn
  try dsimp only
  unfold Ze
  refine A 9 ?_
  refine cD r ?_ ?_
  ·exact B
  ·refine A 12 ?_
   refine lP (E:=fun (s : Int) (g : Nat)=>[(1,.sl (to2.map Pa)),(2,.optr 2 g 0 0),(6,.int .i64 s)]) (O:=fun _ g=>[(2,some (g,⟨false,true,3,40,[.agg [.int .i64 f1.Params,.sl (f1.Slots.map Pn),.sl (f1.Code.map Pm)]]⟩))]) (body:=fun s=>Zf to2 f1 s) (s:=0) _ ((hE ⟨rfl,r,r,trivial⟩ ⟨rfl,trivial⟩))<|?_
   rintro s6 v2x2 nn
   try dsimp only
   unfold Zf
   exact B

def TN (a : OX × Pw) : List D:=[PL a.1,AeD a.2]
def TM (ds : List D) : OX × Pw:=(Sy (ds.getD 0 .top),AeZ (ds.getD 1 .top))
theorem AjS (a : OX × Pw) : TM (TN a) = a:=by simp [TM,TN]
instance : Px TN TM:=⟨AjS⟩
def Alf (b : Int) : D:=.int .i64 b
noncomputable def AfL : Dw.Spec:=Pf [] .ground TN TM (fun a=>ZU a.1 a.2) Alf noE
theorem AjT : Pd Tryz.prog 99 AfL:=by
 refine fn2 2 (Pk (l:=[(121,AfH),(37,ZE)]) (by simp [AjO,Acm])) Tryz.func99<|?_
 rintro ⟨f1,r2⟩
 unfold ZU
 refine A 7 ?_
 refine sC (E:=fun (_s : Unit) (g : Nat × Nat)=>[(2,.optr 2 g.1 0 0),(3,.optr 3 g.2 0 0)]) (O:=fun _ g=>[(2,some (g.1,⟨false,true,3,40,[.agg [.int .i64 f1.Params,.sl (f1.Slots.map Pn),.sl (f1.Code.map Pm)]]⟩)),(3,some (g.2,⟨false,true,2,104,[.agg [.sl (r2.To.map Pa),.sl (r2.Keep.map D.bool)]]⟩))]) (j:=fun _=>Zp f1 r2) ?_ ?_
 ·exact B
 ·rintro ⟨⟩ ⟨v2x1,v3x1⟩ nn
  try dsimp only
  unfold Zp
  refine A 7 ?_
  refine lP (E:=fun (s : Int) (g : Nat × Nat)=>[(2,.optr 2 g.1 0 0),(3,.optr 3 g.2 0 0),(5,.int .i64 s)]) (O:=fun _ g=>[(2,some (g.1,⟨false,true,3,40,[.agg [.int .i64 f1.Params,.sl (f1.Slots.map Pn),.sl (f1.Code.map Pm)]]⟩)),(3,some (g.2,⟨false,true,2,104,[.agg [.sl (r2.To.map Pa),.sl (r2.Keep.map D.bool)]]⟩))]) (body:=fun s=>Zo f1 r2 s) (s:=0) (_,_) ((hE ⟨rfl,r,r,trivial⟩ ⟨rfl,r,trivial⟩))<|?_
  rintro k4 ⟨v2x2,v3x2⟩ nn
  try dsimp only
  unfold Zo
  exact B

def VS (a : Int × (List Int)) : List D:=[.int .i64 a.1,.sl (a.2.map Pa)]
def VR (ds : List D) : Int × (List Int):=(uI (ds.getD 0 .top),(uL uI) (ds.getD 1 .top))
theorem Aia (a : Int × (List Int)) : VR (VS a) = a:=by simp [VR,VS,uI,PX (u:=uI) (en:=Pa) (fun _=>rfl)]
instance : Px VS VR:=⟨Aia⟩
def AiM (b : Int) : D:=.int .i64 b
noncomputable def AdP : Dw.Spec:=Pf [] .ground VS VR (fun a=>SD a.1 a.2) AiM noE
theorem Aib : Pd Tryz.prog 122 AdP:=by
 refine fn2 2 (Pv) Tryz.func122<|?_
 intro a
 unfold SD
 exact B

def AiL (b : OZ) : D:=Pm b
noncomputable def Abi : Dw.Spec:=Pf [] .ground Wt Ws (fun a=>UZ a.1 a.2) AiL noE
theorem Adm : Pd Tryz.prog 104 Abi:=by
 refine fn2 2 (Pk (l:=[(122,AdP)]) (by simp [Aib])) Tryz.func104<|?_
 intro a
 unfold UZ
 exact B

def Amm (b : (List Int)) : D:=.sl (b.map Pa)
noncomputable def AgG : Dw.Spec:=Pf [] (.row 1 3) TN TM (fun a=>Abo a.1 a.2) Amm noE
theorem Alg : Pd Tryz.prog 100 AgG:=by
 refine fn2 2 (Pk (l:=[(104,Abi),(88,Adn),(64,Xg),(14,Sv),(32,Xo)]) (by simp [Adm,AfC,YP,Tb,Yq])) Tryz.func100<|?_
 rintro ⟨f1,r2⟩
 unfold Abo
 refine A 19 ?_
 refine lP (E:=fun (s : (List Int) × Int) (g : Nat × Nat × Nat)=>[(2,.optr 2 g.1 0 0),(3,.optr 3 g.2.1 0 0),(5,.osl 5 g.2.2 0 s.1.length),(6,.int .i64 s.2)]) (O:=fun s g=>[(2,some (g.1,⟨false,true,3,40,[.agg [.int .i64 f1.Params,.sl (f1.Slots.map Pn),.sl (f1.Code.map Pm)]]⟩)),(3,some (g.2.1,⟨false,true,2,104,[.agg [.sl (r2.To.map Pa),.sl (r2.Keep.map D.bool)]]⟩)),(5,some (g.2.2,⟨false,false,1,3,s.1.map Pa⟩))]) (body:=fun s=>Aam f1 r2 s.1 s.2) (s:=(([] : List Int),0)) (_,_,_) ((hE ⟨rfl,r,r,r,trivial⟩ ⟨rfl,r,r,trivial⟩))<|?_
 rintro ⟨out3,k4⟩ ⟨v2x1,v3x1,v5x1⟩ nn
 try dsimp only
 unfold Aam
 refine sC (E:=fun (_s : Unit) (g : Nat × Nat × Nat)=>[(2,.optr 2 g.1 0 0),(3,.optr 3 g.2.1 0 0),(5,.osl 5 g.2.2 0 out3.length),(6,.int .i64 k4),(16,.int .i64 k4),(17,.optr 3 g.2.1 0 1),(18,.sl (r2.Keep.map D.bool)),(19,.int .i64 (r2.Keep.length : Int)),(20,.bool (decide (k4 < (r2.Keep.length : Int))))]) (O:=fun _ g=>[(2,some (g.1,⟨false,true,3,40,[.agg [.int .i64 f1.Params,.sl (f1.Slots.map Pn),.sl (f1.Code.map Pm)]]⟩)),(3,some (g.2.1,⟨false,true,2,104,[.agg [.sl (r2.To.map Pa),.sl (r2.Keep.map D.bool)]]⟩)),(5,some (g.2.2,⟨false,false,1,3,out3.map Pa⟩))]) (j:=fun _=>Aan r2 k4 out3 f1) ?_ ?_
 ·exact B
 ·rintro ⟨⟩ ⟨v2x2,v3x2,v5x2⟩ nn
  try dsimp only
  unfold Aan
  exact B

def VW (a : Pw × (List Int)) : List D:=[AeD a.1,.sl (a.2.map Pa)]
def VV (ds : List D) : Pw × (List Int):=(AeZ (ds.getD 0 .top),(uL uI) (ds.getD 1 .top))
theorem Aii (a : Pw × (List Int)) : VV (VW a) = a:=by simp [VV,VW,PX (u:=uI) (en:=Pa) (fun _=>rfl)]
instance : Px VW VV:=⟨Aii⟩
def AiT (b : (List Int)) : D:=.sl (b.map Pa)
noncomputable def AdU : Dw.Spec:=Pf [] (.row 1 3) VW VV (fun a=>Xi a.1 a.2) AiT noE
theorem Aij : Pd Tryz.prog 102 AdU:=by
 refine fn2 2 (Pv) Tryz.func102<|?_
 rintro ⟨r1,used2⟩
 unfold Xi
 refine A 18 ?_
 refine lP (E:=fun (s : (List Int) × Int) (g : Nat × Nat)=>[(1,.sl (used2.map Pa)),(2,.optr 2 g.1 0 0),(5,.osl 5 g.2 0 s.1.length),(6,.int .i64 s.2)]) (O:=fun s g=>[(2,some (g.1,⟨false,true,2,104,[.agg [.sl (r1.To.map Pa),.sl (r1.Keep.map D.bool)]]⟩)),(5,some (g.2,⟨false,false,1,3,s.1.map Pa⟩))]) (body:=fun s=>WO r1 used2 s.1 s.2) (s:=(([] : List Int),0)) (_,_) ((hE ⟨rfl,r,r,r,trivial⟩ ⟨rfl,r,trivial⟩))<|?_
 rintro ⟨out3,s4⟩ ⟨v2x1,v5x1⟩ nn
 try dsimp only
 unfold WO
 refine A 10 ?_
 refine cD r ?_ ?_
 ·refine A 2 ?_
  refine bC (E:=fun (s : (List Int)) (g : Nat × Nat)=>[(1,.sl (used2.map Pa)),(2,.optr 2 g.1 0 0),(5,.osl 5 g.2 0 s.length),(6,.int .i64 s4)]) (O:=fun s g=>[(2,some (g.1,⟨false,true,2,104,[.agg [.sl (r1.To.map Pa),.sl (r1.Keep.map D.bool)]]⟩)),(5,some (g.2,⟨false,false,1,3,s.map Pa⟩))]) (j:=fun s=>WR s4 s) ?_ ?_
  ·refine A 12 ?_
   refine lP (E:=fun (s : Int × Int) (g : Nat × Nat)=>[(1,.sl (used2.map Pa)),(2,.optr 2 g.1 0 0),(5,.osl 5 g.2 0 out3.length),(6,.int .i64 s4),(7,.int .i64 s.1),(8,.int .i64 s.2)]) (O:=fun _ g=>[(2,some (g.1,⟨false,true,2,104,[.agg [.sl (r1.To.map Pa),.sl (r1.Keep.map D.bool)]]⟩)),(5,some (g.2,⟨false,false,1,3,out3.map Pa⟩))]) (body:=fun s=>WQ used2 r1 s4 out3 s.1 s.2) (s:=(0,0)) (_,_) ((hE ⟨rfl,r,r,r,r,r,trivial⟩ ⟨rfl,r,trivial⟩))<|?_
   rintro ⟨n6,i7⟩ ⟨v2x2,v5x2⟩ nn
   try dsimp only
   unfold WQ
   exact B
  ·rintro out5 ⟨v2x3,v5x3⟩ nn
   try dsimp only
   unfold WR
   exact B
 ·exact B

def WN (a : Pw) : List D:=[AeD a]
def WM (ds : List D) : Pw:=AeZ (ds.getD 0 .top)
theorem AiR (a : Pw) : WM (WN a) = a:=by simp [WM,WN]
instance : Px WN WM:=⟨AiR⟩
def AjU (b : (List Int)) : D:=.sl (b.map Pa)
noncomputable def AeR : Dw.Spec:=Pf [] (.row 1 3) WN WM (fun a=>Yr a) AjU noE
theorem AiS : Pd Tryz.prog 103 AeR:=by
 refine fn2 1 (Pv) Tryz.func103<|?_
 intro r1
 unfold Yr
 refine A 23 ?_
 refine lP (E:=fun (s : (List Int) × Int × Int) (g : Nat × Nat)=>[(1,.optr 1 g.1 0 0),(3,.osl 3 g.2 0 s.1.length),(4,.int .i64 s.2.1),(5,.int .i64 s.2.2)]) (O:=fun s g=>[(1,some (g.1,⟨false,true,2,104,[.agg [.sl (r1.To.map Pa),.sl (r1.Keep.map D.bool)]]⟩)),(3,some (g.2,⟨false,false,1,3,s.1.map Pa⟩))]) (body:=fun s=>XO r1 s.1 s.2.1 s.2.2) (s:=(([] : List Int),0,0)) (_,_) ((hE ⟨rfl,r,r,r,trivial⟩ ⟨rfl,r,trivial⟩))<|?_
 rintro ⟨out2,n3,k4⟩ ⟨v1x1,v3x1⟩ nn
 try dsimp only
 unfold XO
 exact B

def AfJ (b : OX × Int) : D:=.tup [PL b.1,.int .i64 b.2]
noncomputable def AfK : Dw.Spec:=Pf [] .val TN TM (fun a=>VK a.1 a.2) AfJ noE
theorem AjR : Pd Tryz.prog 80 AfK:=by
 refine fn2 2 (Pk (l:=[(99,AfL),(100,AgG),(101,Abm),(102,AdU),(103,AeR),(104,Abi)]) (by simp [AjT,Alg,Ado,Aij,AiS,Adm])) Tryz.func80<|?_
 rintro ⟨f1,r2⟩
 unfold VK
 refine A 13 ?_
 refine bD fun r3 hr3=>?_
 refine A 10 ?_
 refine cD r ?_ ?_
 ·refine A 10 ?_
  refine Qx (b:=((OX.mk 0 ([]) ([])),r3)) r ?_ r r ?_ (by first | rfl | (simp only [OV]; rfl) | (simp only [OW]; rfl) | (simp only [OV,OW]; rfl) | simp [AfJ,PL]) (by decide)
  all_goals first|(simp;done)|(simp;omega)|rfl|(simp [PH,PE];done)
 ·refine A 6 ?_
  refine bD fun r4 hr4=>?_
  refine A 20 ?_
  refine lP (E:=fun (s : (List Po) × Int) (g : Nat × Nat × Nat × Nat × Nat)=>[(2,.optr 2 g.1 0 0),(3,.optr 3 g.2.1 0 0),(4,.optr 4 g.2.2.1 0 0),(7,.osl 7 g.2.2.2.1 0 r4.length),(8,.optr 8 g.2.2.2.2 0 0),(9,.int .i64 s.2)]) (O:=fun s g=>[(2,some (g.1,⟨false,true,3,40,[.agg [.int .i64 f1.Params,.sl (f1.Slots.map Pn),.sl (f1.Code.map Pm)]]⟩)),(3,some (g.2.1,⟨false,true,2,104,[.agg [.sl (r2.To.map Pa),.sl (r2.Keep.map D.bool)]]⟩)),(4,some (g.2.2.1,⟨false,true,3,40,[.agg [.int .i64 0,.nils,.nils]]⟩)),(7,some (g.2.2.2.1,⟨false,false,1,3,r4.map Pa⟩)),(8,some (g.2.2.2.2,⟨false,true,3,40,[.agg [.int .i64 f1.Params,.sl (s.1.map Pn),.nils]]⟩))]) (body:=fun s=>Zm r4 f1 r2 s.1 s.2) (s:=([],0)) (_,_,_,_,_) ((AbL [] trivial ⟨(PG r),(PG r),(PG r),(PG r),(PG r),(PG r),trivial⟩ ⟨(.inl r),(.inl r),(.inl r),(.inl r),(.inr ⟨_,_,_,_,r,r,r,r,Aar r ⟨(Vh r),(Yf Pn r),(Vh r),trivial⟩⟩),trivial⟩))<|?_
  rintro ⟨out5,i6⟩ ⟨v2x1,v3x1,v4x1,v7x1,v8x1⟩ nn
  try dsimp only
  unfold Zm
  refine A 9 ?_
  refine cD r ?_ ?_
  ·refine A 2 ?_
   refine bC (E:=fun (_s : (List Po)) (g : Nat × Nat × Nat × Nat × Nat × Nat)=>[(2,.optr 2 g.1 0 0),(3,.optr 3 g.2.1 0 0),(4,.optr 4 g.2.2.1 0 0),(7,.osl 7 g.2.2.2.1 0 r4.length),(8,.optr 8 g.2.2.2.2.1 0 0),(9,.int .i64 i6)]) (O:=fun s g=>[(2,some (g.1,⟨false,true,3,40,[.agg [.int .i64 f1.Params,.sl (f1.Slots.map Pn),.sl (f1.Code.map Pm)]]⟩)),(3,some (g.2.1,⟨false,true,2,104,[.agg [.sl (r2.To.map Pa),.sl (r2.Keep.map D.bool)]]⟩)),(4,some (g.2.2.1,⟨false,true,3,40,[.agg [.int .i64 0,.nils,.nils]]⟩)),(7,some (g.2.2.2.1,⟨false,false,1,3,r4.map Pa⟩)),(8,some (g.2.2.2.2.1,⟨false,true,3,40,[.agg [.int .i64 f1.Params,.osl 13 g.2.2.2.2.2 0 s.length,.nils]]⟩)),(13,some (g.2.2.2.2.2,⟨false,false,2,54,s.map Pn⟩))]) (j:=fun s=>Zn i6 s) ?_ ?_
   ·refine A 7 ?_
    refine bD fun used_e8 hused_e8=>?_
    refine A 1 ?_
    refine bD fun x_x9 hx_x9=>?_
    refine A 13 ?_
    refine bD fun used_e10 hused_e10=>?_
    refine A 1 ?_
    refine bD fun r11 hr11=>?_
    refine A 11 ?_
    refine lP (E:=fun (s : Int × Int) (g : Nat × Nat × Nat × Nat × Nat × Nat × Nat)=>[(2,.optr 2 g.1 0 0),(3,.optr 3 g.2.1 0 0),(4,.optr 4 g.2.2.1 0 0),(7,.osl 7 g.2.2.2.1 0 r4.length),(8,.optr 8 g.2.2.2.2.1 0 0),(9,.int .i64 i6),(10,.optr 10 g.2.2.2.2.2.1 0 0),(11,.osl 11 g.2.2.2.2.2.2 0 r11.length),(12,.int .i64 s.2)]) (O:=fun s g=>[(2,some (g.1,⟨false,true,3,40,[.agg [.int .i64 f1.Params,.sl (f1.Slots.map Pn),.sl (f1.Code.map Pm)]]⟩)),(3,some (g.2.1,⟨false,true,2,104,[.agg [.sl (r2.To.map Pa),.sl (r2.Keep.map D.bool)]]⟩)),(4,some (g.2.2.1,⟨false,true,3,40,[.agg [.int .i64 0,.nils,.nils]]⟩)),(7,some (g.2.2.2.1,⟨false,false,1,3,r4.map Pa⟩)),(8,some (g.2.2.2.2.1,⟨false,true,3,40,[.agg [.int .i64 f1.Params,.sl (out5.map Pn),.nils]]⟩)),(10,some (g.2.2.2.2.2.1,⟨false,true,2,54,[.agg [.int .i64 x_x9.Size,.int .i64 s.1]]⟩)),(11,some (g.2.2.2.2.2.2,⟨false,false,1,3,r11.map Pa⟩))]) (body:=fun s=>Ww r11 f1 out5 x_x9 i6 s.1 s.2) (s:=(x_x9.Align,0)) (_,_,_,_,_,_,_) ((hE ⟨rfl,r,r,r,r,r,r,r,r,trivial⟩ ⟨rfl,r,r,r,r,r,r,trivial⟩))<|?_
    rintro ⟨s12,k13⟩ ⟨v2x2,v3x2,v4x2,v7x2,v8x2,v10x2,v11x2⟩ nn
    try dsimp only
    unfold Ww
    refine A 9 ?_
    refine cD r ?_ ?_
    ·exact B
    ·refine A 11 ?_
     refine bS ([(Po.mk x_x9.Size s12)] : List Po) Pn r r r (by simp) r r r<|?_
     exact B
   ·rintro slots7 ⟨v2x3,v3x3,v4x3,v7x3,v8x3,v13x3⟩ nn
    try dsimp only
    unfold Zn
    refine A 5 ?_
    exact wf [13] fun _=>B
  ·refine A 9 ?_
   refine bD fun r16 hr16=>?_
   refine A 2 ?_
   refine bD fun r17 hr17=>?_
   refine A 12 ?_
   refine lP (E:=fun (s : (List OZ) × Int) (g : Nat × Nat × Nat × Nat × Nat × Nat)=>[(2,.optr 2 g.1 0 0),(3,.optr 3 g.2.1 0 0),(4,.optr 4 g.2.2.1 0 0),(8,.optr 8 g.2.2.2.1 0 0),(14,.osl 14 g.2.2.2.2.1 0 r16.length),(15,.osl 15 g.2.2.2.2.2 0 r17.length),(16,.int .i64 s.2)]) (O:=fun s g=>[(2,some (g.1,⟨false,true,3,40,[.agg [.int .i64 f1.Params,.sl (f1.Slots.map Pn),.sl (f1.Code.map Pm)]]⟩)),(3,some (g.2.1,⟨false,true,2,104,[.agg [.sl (r2.To.map Pa),.sl (r2.Keep.map D.bool)]]⟩)),(4,some (g.2.2.1,⟨false,true,3,40,[.agg [.int .i64 0,.nils,.nils]]⟩)),(8,some (g.2.2.2.1,⟨false,true,3,40,[.agg [.int .i64 f1.Params,.sl (out5.map Pn),.sl (s.1.map Pm)]]⟩)),(14,some (g.2.2.2.2.1,⟨false,false,1,3,r16.map Pa⟩)),(15,some (g.2.2.2.2.2,⟨false,false,1,3,r17.map Pa⟩))]) (body:=fun s=>Wx f1 r2 r16 r17 out5 s.1 s.2) (s:=([],0)) (_,_,_,_,_,_) ((AbL [] trivial ⟨(PG r),(PG r),(PG r),(PG r),(PG r),(PG r),(PG r),trivial⟩ ⟨(.inl r),(.inl r),(.inl r),(.inr ⟨_,_,_,_,r,r,r,r,Aar r ⟨(Vh r),(Vh r),(Yf Pm r),trivial⟩⟩),(.inl r),(.inl r),trivial⟩))<|?_
   rintro ⟨out18,k19⟩ ⟨v2x4,v3x4,v4x4,v8x4,v14x4,v15x4⟩ nn
   try dsimp only
   unfold Wx
   refine A 10 ?_
   refine cD r ?_ ?_
   ·refine A 10 ?_
    refine bD fun x_x20 hx_x20=>?_
    refine A 5 ?_
    refine cD r ?_ ?_
    ·exact B
    ·refine A 7 ?_
     refine bD fun x_x21 hx_x21=>?_
     refine A 3 ?_
     refine bD fun r22 hr22=>?_
     refine A 5 ?_
     refine sC (E:=fun (_s : Int × Int) (g : Nat × Nat × Nat × Nat × Nat × Nat × Nat)=>[(2,.optr 2 g.1 0 0),(3,.optr 3 g.2.1 0 0),(4,.optr 4 g.2.2.1 0 0),(8,.optr 8 g.2.2.2.1 0 0),(14,.osl 14 g.2.2.2.2.1 0 r16.length),(15,.osl 15 g.2.2.2.2.2.1 0 r17.length),(16,.int .i64 k19),(17,.optr 17 g.2.2.2.2.2.2 0 0)]) (O:=fun s g=>[(2,some (g.1,⟨false,true,3,40,[.agg [.int .i64 f1.Params,.sl (f1.Slots.map Pn),.sl (f1.Code.map Pm)]]⟩)),(3,some (g.2.1,⟨false,true,2,104,[.agg [.sl (r2.To.map Pa),.sl (r2.Keep.map D.bool)]]⟩)),(4,some (g.2.2.1,⟨false,true,3,40,[.agg [.int .i64 0,.nils,.nils]]⟩)),(8,some (g.2.2.2.1,⟨false,true,3,40,[.agg [.int .i64 f1.Params,.sl (out5.map Pn),.sl (out18.map Pm)]]⟩)),(14,some (g.2.2.2.2.1,⟨false,false,1,3,r16.map Pa⟩)),(15,some (g.2.2.2.2.2.1,⟨false,false,1,3,r17.map Pa⟩)),(17,some (g.2.2.2.2.2.2,⟨false,true,5,50,[.agg [.int .i64 r22.Op,.int .i64 s.1,.int .i64 s.2,.int .i64 r22.C,.int .u64 r22.Imm]]⟩))]) (j:=fun s=>Tf out18 r22 k19 s.1 s.2) ?_ ?_
     ·exact B
     ·rintro ⟨x23,x24⟩ ⟨v2x5,v3x5,v4x5,v8x5,v14x5,v15x5,v17x5⟩ nn
      try dsimp only
      unfold Tf
      refine A 6 ?_
      refine bS ([(OZ.mk r22.Op x23 x24 r22.C r22.Imm)] : List OZ) Pm r r r (by simp) r r r<|?_
      refine A 16 ?_
      exact wf [18] fun _=>B
   ·exact B

def AjL (b : (List (List Int)) × Int) : D:=.tup [.sl (b.1.map (eL Pa)),.int .i64 b.2]
noncomputable def AeP : Dw.Spec:=Pf [] .val Qm Ql (fun a=>Abl a.1 a.2) AjL noE
theorem AiO : Pd Tryz.prog 22 AeP:=by
 refine fn2 2 (Pk (l:=[(44,Acw)]) (by simp [AeQ])) Tryz.func22<|?_
 intro a
 unfold Abl
 exact B

def XH (a : (List (List Int)) × Int) : List D:=[.sl (a.1.map (eL Pa)),.int .i64 a.2]
def XG (ds : List D) : (List (List Int)) × Int:=((uL (uL uI)) (ds.getD 0 .top),uI (ds.getD 1 .top))
theorem AjH (a : (List (List Int)) × Int) : XG (XH a) = a:=by simp [XG,XH,uI,PX (u:=(uL uI)) (en:=(eL Pa)) (PX (u:=uI) (en:=Pa) (fun _=>rfl))]
instance : Px XH XG:=⟨AjH⟩
def AkW (b : Bool) : D:=.bool b
noncomputable def AfE : Dw.Spec:=Pf [] .ground XH XG (fun a=>ZP a.1 a.2) AkW noE
theorem AjI : Pd Tryz.prog 46 AfE:=by
 refine fn2 2 (Pk (l:=[(71,Acs),(15,VI)]) (by simp [AeM,Wm])) Tryz.func46<|?_
 rintro ⟨g1,n2⟩
 unfold ZP
 refine A 14 ?_
 refine cD r ?_ ?_
 ·exact B
 ·refine A 9 ?_
  refine lP (E:=fun (s : Int) (_g : Unit)=>[(0,.sl (g1.map (eL Pa))),(1,.int .i64 n2),(5,.int .i64 s)]) (O:=fun _ _=>[]) (body:=fun s=>YW n2 g1 s) (s:=0) () ((hE ⟨rfl,r,r,trivial⟩ trivial))<|?_
  rintro x3 ⟨⟩ nn
  try dsimp only
  unfold YW
  refine A 8 ?_
  refine cD r ?_ ?_
  ·refine A 2 ?_
   refine bC (E:=fun (s : (List Int) × (List Int) × Bool) (_g : Unit)=>[(0,.sl (g1.map (eL Pa))),(1,.int .i64 n2),(5,.int .i64 x3),(24,.sl (g1.map (eL Pa))),(25,.int .i64 x3),(26,.fptr (.sl (s.1.map Pa)) 0),(27,.sl (s.2.1.map Pa)),(28,.int .i64 x3),(29,.bool s.2.2)]) (O:=fun _ _=>[]) (j:=fun s=>YY x3 s.1 s.2.1 s.2.2) ?_ ?_
   ·refine sC (E:=fun (s : (List Int) × (List Int) × Bool) (_g : Unit)=>[(0,.sl (g1.map (eL Pa))),(1,.int .i64 n2),(5,.int .i64 x3),(24,.sl (g1.map (eL Pa))),(25,.int .i64 x3),(26,.fptr (.sl (s.1.map Pa)) 0),(27,.sl (s.2.1.map Pa)),(28,.int .i64 x3),(29,.bool s.2.2)]) (O:=fun _ _=>[]) (j:=fun s=>YZ g1 x3 n2 s.1 s.2.1 s.2.2) ?_ ?_
    ·exact B
    ·rintro ⟨x7,x8,x9⟩ ⟨⟩ nn
     try dsimp only
     unfold YZ
     refine A 6 ?_
     refine lP (E:=fun (s : Int) (_g : Unit)=>[(0,.sl (g1.map (eL Pa))),(1,.int .i64 n2),(5,.int .i64 x3),(6,.int .i64 s),(24,.sl (g1.map (eL Pa))),(25,.int .i64 x3),(26,.fptr (.sl (x7.map Pa)) 0),(27,.sl (x8.map Pa)),(28,.int .i64 x3),(29,.bool x9)]) (O:=fun _ _=>[]) (body:=fun s=>YX g1 x3 n2 x7 x8 x9 s) (s:=0) () ((hE ⟨rfl,r,r,r,r,r,r,r,r,r,trivial⟩ trivial))<|?_
     rintro i14 ⟨⟩ nn
     try dsimp only
     unfold YX
     exact B
   ·rintro ⟨x4,x5,x6⟩ ⟨⟩ nn
    try dsimp only
    unfold YY
    exact B
  ·exact B

def WV (a : Po × Po) : List D:=[Pn a.1,Pn a.2]
def WU (ds : List D) : Po × Po:=(XX (ds.getD 0 .top),XX (ds.getD 1 .top))
theorem AiW (a : Po × Po) : WU (WV a) = a:=by simp [WU,WV]
instance : Px WV WU:=⟨AiW⟩
def AjX (b : Bool) : D:=.bool b
noncomputable def AeT : Dw.Spec:=Pf [] .ground WV WU (fun a=>Yt a.1 a.2) AjX noE
theorem AiX : Pd Tryz.prog 72 AeT:=by
 refine fn2 2 (Pv) Tryz.func72<|?_
 intro a
 unfold Yt
 exact B

end Go.Proofs.YtnldnldmgceooaaGreatDoor
