/-
  Programs on typed data, and the proofs that the code does what they say; written by a program (dx.py).
-/
import Derived.Test.YtnldnldmgceooaaGreatDoorProg
import Derived.Test.YtnldnldmgceooaaGreatDoorDd
import Derived.KernelRfl
import Derived.Test.YtnldnldmgceooaaGreatDoorSh
import Derived.Test.YtnldnldmgceooaaGreatDoorDxP
import Derived.Test.YtnldnldmgceooaaGreatDoorDxF1
import Derived.Test.YtnldnldmgceooaaGreatDoorDxF2
import Derived.Test.YtnldnldmgceooaaGreatDoorDxF3
namespace Go.Proofs.YtnldnldmgceooaaGreatDoor
open Go Go.Dw Go.Proofs
set_option maxRecDepth 100000
set_option maxHeartbeats 4000000
open Go.Dw renaming QU → bD,PN → cK,AcW → bS,AaX → cG,Aey → aP,Ue → sE,AbD → iO,Acy → cD,AeS → xL,Aah → hE,Aez → lP,AaZ → sC,Zg → bC,AmM → mF,rf → r
def AkN (b : (List Int)) : D:=.sl (b.map Pa)
noncomputable def Afo : Dw.Spec:=Pf [] (.row 1 3) TD TC (fun a=>ZA a) AkN noE
theorem AjA : Pd Tryz.prog 48 Afo:=by
 refine fn2 1 (Pk (l:=[(72,Aev)]) (by simp [Aiy])) Tryz.func48<|?_
 intro s1
 unfold ZA
 refine A 17 ?_
 refine lP (E:=fun (s : (List Int) × Int) (g : Nat)=>[(0,.sl (s1.map Pn)),(3,.osl 3 g 0 s.1.length),(4,.int .i64 s.2)]) (O:=fun s g=>[(3,some (g,⟨false,false,1,3,s.1.map Pa⟩))]) (body:=fun s=>Za s1 s.1 s.2) (s:=(([] : List Int),0)) _ ((hE ⟨rfl,r,r,trivial⟩ ⟨rfl,trivial⟩))<|?_
 rintro ⟨out2,i3⟩ v3x1 nn
 try dsimp only
 unfold Za
 refine A 9 ?_
 refine cD r ?_ ?_
 ·refine A 2 ?_
  refine bC (E:=fun (s : (List Int)) (g : Nat)=>[(0,.sl (s1.map Pn)),(3,.osl 3 g 0 s.length),(4,.int .i64 i3)]) (O:=fun s g=>[(3,some (g,⟨false,false,1,3,s.map Pa⟩))]) (j:=fun s=>Zc i3 s) ?_ ?_
  ·refine A 7 ?_
   refine bC (E:=fun (s : Int) (g : Nat)=>[(0,.sl (s1.map Pn)),(3,.osl 3 g 0 out2.length),(4,.int .i64 i3),(5,.int .i64 s)]) (O:=fun _ g=>[(3,some (g,⟨false,false,1,3,out2.map Pa⟩))]) (j:=fun s=>Um out2 i3 s) ?_ ?_
   ·refine lP (E:=fun (s : Int) (g : Nat)=>[(0,.sl (s1.map Pn)),(3,.osl 3 g 0 out2.length),(4,.int .i64 i3),(5,.int .i64 s)]) (O:=fun _ g=>[(3,some (g,⟨false,false,1,3,out2.map Pa⟩))]) (body:=fun s=>Zb s1 i3 out2 s) (s:=(out2.length : Int)) _ ((hE ⟨rfl,r,r,r,trivial⟩ ⟨rfl,trivial⟩))<|?_
    rintro k6 v3x2 nn
    try dsimp only
    unfold Zb
    exact B
   ·rintro k5 v3x3 nn
    try dsimp only
    unfold Um
    refine A 4 ?_
    refine cK fun hq=>AbB (l:=out2) r r r r r r hq<|cK fun hq=>aP (([] : List Int)) (out2.take k5.toNat) Pa r r r r r r r (by first | (simp; done) | (simp; omega)) (by simp [List.map_take]) r r (by simp) r (fun _=>r) r hq<|?_
    refine A 7 ?_
    refine cK fun hq=>aP (([] : List Int) ++ (out2.take k5.toNat)) (([i3] : List Int)) Pa r r r r r r r (by simp) (TH _ _ r) r r (by simp) (Sz _ _ r) (fun _=>r) r hq<|?_
    refine A 2 ?_
    refine cK fun hq=>Zf (l:=out2) r r r r r r hq<|cK fun hq=>aP ((([] : List Int) ++ (out2.take k5.toNat)) ++ ([i3] : List Int)) (out2.drop k5.toNat) Pa r r r r r r r (by first | (simp; done) | (simp; omega)) (AcV _ _ _) r r (by simp) (Sz _ _ r) (fun _=>r) r hq<|?_
    exact B
  ·rintro out4 v3x4 nn
   try dsimp only
   unfold Zc
   exact B
 ·exact B

def Akk (b : Bool) : D:=.bool b
noncomputable def ZI : Dw.Spec:=Pf [] .ground Uu Ut (fun a=>QO a) Akk noE
theorem Abx : Pd Tryz.prog 38 ZI:=by
 refine fn2 1 (Pk (l:=[(47,WU)]) (by simp [Yv])) Tryz.func38<|?_
 intro a
 unfold QO
 exact B

def Sv (a : Pj × Pj) : List D:=[Qd a.1,Qd a.2]
def Su (ds : List D) : Pj × Pj:=(Tt (ds.getD 0 .top),Tt (ds.getD 1 .top))
theorem Ahx (a : Pj × Pj) : Su (Sv a) = a:=by simp [Su,Sv]
instance : Px Sv Su:=⟨Ahx⟩
def Aii (b : Bool) : D:=.bool b
noncomputable def Ads : Dw.Spec:=Pf [] .ground Sv Su (fun a=>UM a.1 a.2) Aii noE
theorem Ahy : Pd Tryz.prog 16 Ads:=by
 refine fn2 2 (Pk (l:=[(38,ZI)]) (by simp [Abx])) Tryz.func16<|?_
 intro a
 unfold UM
 exact B

def Yy (a : (List Pj) × Pj) : List D:=[.sl (a.1.map Qd),Qd a.2]
def Yx (ds : List D) : (List Pj) × Pj:=((uL Tt) (ds.getD 0 .top),Tt (ds.getD 1 .top))
theorem Akm (a : (List Pj) × Pj) : Yx (Yy a) = a:=by simp [Yx,Yy,PV (u:=Tt) (en:=Qd) AgZ]
instance : Px Yy Yx:=⟨Akm⟩
def AlF (b : Bool) : D:=.bool b
noncomputable def AfY : Dw.Spec:=Pf [] .ground Yy Yx (fun a=>AaK a.1 a.2) AlF noE
theorem Akn : Pd Tryz.prog 73 AfY:=by
 refine fn2 2 (Pk (l:=[(16,Ads)]) (by simp [Ahy])) Tryz.func73<|?_
 rintro ⟨used1,x2⟩
 unfold AaK
 refine A 13 ?_
 refine lP (E:=fun (s : Int) (g : Nat)=>[(0,.sl (used1.map Qd)),(3,.optr 3 g 0 0),(5,.int .i64 s)]) (O:=fun _ g=>[(3,some (g,⟨false,true,2,56,[.agg [.int .i64 x2.Off,.int .i64 x2.Size]]⟩))]) (body:=fun s=>ZJ used1 x2 s) (s:=0) _ ((hE ⟨rfl,r,r,trivial⟩ ⟨rfl,trivial⟩))<|?_
 rintro i3 v3x1 nn
 try dsimp only
 unfold ZJ
 exact B

def ZG (a : (List Pj) × Int × Int × Int) : List D:=[.sl (a.1.map Qd),.int .i64 a.2.1,.int .i64 a.2.2.1,.int .i64 a.2.2.2]
def ZF (ds : List D) : (List Pj) × Int × Int × Int:=((uL Tt) (ds.getD 0 .top),uI (ds.getD 1 .top),uI (ds.getD 2 .top),uI (ds.getD 3 .top))
theorem AlD (a : (List Pj) × Int × Int × Int) : ZF (ZG a) = a:=by simp [ZF,ZG,uI,PV (u:=Tt) (en:=Qd) AgZ]
instance : Px ZG ZF:=⟨AlD⟩
def Amu (b : Int × Int) : D:=.tup [.int .i64 b.1,.int .i64 b.2]
noncomputable def AgV : Dw.Spec:=Pf [] .ground ZG ZF (fun a=>AbM a.1 a.2.1 a.2.2.1 a.2.2.2) Amu noE
theorem AlE : Pd Tryz.prog 49 AgV:=by
 refine fn2 4 (Pk (l:=[(47,WU),(58,ZH),(38,ZI),(33,Acp),(73,AfY)]) (by simp [Yv,Abw,Abx,AdS,Akn])) Tryz.func49<|?_
 rintro ⟨used1,from2,size3,align4⟩
 unfold AbM
 refine A 6 ?_
 refine sC (E:=fun (_s : Unit) (_g : Unit)=>[(0,.sl (used1.map Qd)),(1,.int .i64 from2),(2,.int .i64 size3),(3,.int .i64 align4)]) (O:=fun _ _=>[]) (j:=fun _=>AaI used1 align4 size3 from2) ?_ ?_
 ·exact B
 ·rintro ⟨⟩ ⟨⟩ nn
  try dsimp only
  unfold AaI
  refine A 7 ?_
  refine lP (E:=fun (s : Int) (_g : Unit)=>[(0,.sl (used1.map Qd)),(1,.int .i64 from2),(2,.int .i64 size3),(3,.int .i64 align4),(10,.int .i64 s)]) (O:=fun _ _=>[]) (body:=fun s=>AaG used1 align4 size3 from2 s) (s:=0) () ((hE ⟨rfl,r,r,r,r,trivial⟩ trivial))<|?_
  rintro i8 ⟨⟩ nn
  try dsimp only
  unfold AaG
  refine A 9 ?_
  refine cD r ?_ ?_
  ·exact B
  ·refine A 18 ?_
   refine lP (E:=fun (s : Int × Bool × Int) (_g : Unit)=>[(0,.sl (used1.map Qd)),(1,.int .i64 from2),(2,.int .i64 size3),(3,.int .i64 align4),(11,.int .i64 s.1),(12,.bool s.2.1),(13,.int .i64 s.2.2)]) (O:=fun _ _=>[]) (body:=fun s=>AaH used1 align4 size3 from2 s.1 s.2.1 s.2.2) (s:=(0,false,(-1))) () ((hE ⟨rfl,r,r,r,r,r,r,trivial⟩ trivial))<|?_
   rintro ⟨best11,found12,i13⟩ ⟨⟩ nn
   try dsimp only
   unfold AaH
   refine A 9 ?_
   refine cD r ?_ ?_
   ·refine A 10 ?_
    refine sC (E:=fun (s : Int) (_g : Unit)=>[(0,.sl (used1.map Qd)),(1,.int .i64 from2),(2,.int .i64 size3),(3,.int .i64 align4),(11,.int .i64 best11),(12,.bool found12),(13,.int .i64 i13),(14,.int .i64 s)]) (O:=fun _ _=>[]) (j:=fun s=>VY align4 size3 used1 found12 i13 best11 s) ?_ ?_
    ·exact B
    ·rintro at14 ⟨⟩ nn
     try dsimp only
     unfold VY
     exact B
   ·exact B

def WK (a : (List Po) × (List (List Int)) × Int) : List D:=[.sl (a.1.map Pn),.sl (a.2.1.map (eL Pa)),.int .i64 a.2.2]
def WJ (ds : List D) : (List Po) × (List (List Int)) × Int:=((uL XL) (ds.getD 0 .top),(uL (uL uI)) (ds.getD 1 .top),uI (ds.getD 2 .top))
theorem Aiv (a : (List Po) × (List (List Int)) × Int) : WJ (WK a) = a:=by simp [WJ,WK,uI,PV (u:=XL) (en:=Pn) AeC,PV (u:=(uL uI)) (en:=(eL Pa)) (PV (u:=uI) (en:=Pa) (fun _=>rfl))]
instance : Px WK WJ:=⟨Aiv⟩
def Ajz (b : (List Int) × Int) : D:=.tup [.sl (b.1.map Pa),.int .i64 b.2]
noncomputable def Aeu : Dw.Spec:=Pf [] .val WK WJ (fun a=>Yg a.1 a.2.1 a.2.2) Ajz noE
theorem Aiw : Pd Tryz.prog 23 Aeu:=by
 refine fn2 3 (Pk (l:=[(45,AbS),(46,Afg),(47,WU),(48,Afo),(15,Xh),(49,AgV)]) (by simp [Aen,Ajm,Yv,AjA,Ye,AlE])) Tryz.func23<|?_
 rintro ⟨s1,g2,from3⟩
 unfold Yg
 refine A 10 ?_
 refine bD fun r4 hr4=>?_
 refine A 10 ?_
 refine cD r ?_ ?_
 ·exact B
 ·refine A 2 ?_
  refine sC (E:=fun (_s : Unit) (_g : Unit)=>[(0,.sl (s1.map Pn)),(1,.sl (g2.map (eL Pa))),(2,.int .i64 from3)]) (O:=fun _ _=>[]) (j:=fun _=>XH s1 g2 from3) ?_ ?_
  ·exact B
  ·rintro ⟨⟩ ⟨⟩ nn
   try dsimp only
   unfold XH
   refine A 15 ?_
   refine bD fun r7 hr7=>?_
   refine A 11 ?_
   refine lP (E:=fun (s : (List Bool) × (List Int) × Int) (g : Nat × Nat × Nat)=>[(0,.sl (s1.map Pn)),(1,.sl (g2.map (eL Pa))),(2,.int .i64 from3),(9,.osl 9 g.1 0 s.2.1.length),(10,.osl 10 g.2.1 0 s.1.length),(11,.osl 11 g.2.2 0 r7.length),(12,.int .i64 s.2.2)]) (O:=fun s g=>[(9,some (g.1,⟨false,false,1,3,s.2.1.map Pa⟩)),(10,some (g.2.1,⟨false,false,1,4,s.1.map D.bool⟩)),(11,some (g.2.2,⟨false,false,1,3,r7.map Pa⟩))]) (body:=fun s=>XF r7 s1 g2 from3 s.1 s.2.1 s.2.2) (s:=(List.replicate (s1.length : Int).toNat false,List.replicate (s1.length : Int).toNat (0 : Int),0)) (_,_,_) ((hE ⟨rfl,r,r,r,r,r,r,trivial⟩ ⟨rfl,r,r,trivial⟩))<|?_
   rintro ⟨done8,off9,i10⟩ ⟨v9x2,v10x2,v11x2⟩ nn
   try dsimp only
   unfold XF
   refine A 9 ?_
   refine cD r ?_ ?_
   ·refine A 2 ?_
    refine bC (E:=fun (s : (List Bool) × (List Int)) (g : Nat × Nat × Nat)=>[(0,.sl (s1.map Pn)),(1,.sl (g2.map (eL Pa))),(2,.int .i64 from3),(9,.osl 9 g.1 0 s.2.length),(10,.osl 10 g.2.1 0 s.1.length),(11,.osl 11 g.2.2 0 r7.length),(12,.int .i64 i10)]) (O:=fun s g=>[(9,some (g.1,⟨false,false,1,3,s.2.map Pa⟩)),(10,some (g.2.1,⟨false,false,1,4,s.1.map D.bool⟩)),(11,some (g.2.2,⟨false,false,1,3,r7.map Pa⟩))]) (j:=fun s=>XI i10 s.1 s.2) ?_ ?_
    ·refine A 5 ?_
     refine bD fun order_e13 horder_e13=>?_
     refine A 16 ?_
     refine lP (E:=fun (s : (List Pj) × Int) (g : Nat × Nat × Nat × Nat)=>[(0,.sl (s1.map Pn)),(1,.sl (g2.map (eL Pa))),(2,.int .i64 from3),(9,.osl 9 g.1 0 off9.length),(10,.osl 10 g.2.1 0 done8.length),(11,.osl 11 g.2.2.1 0 r7.length),(12,.int .i64 i10),(13,.int .i64 order_e13),(14,.osl 14 g.2.2.2 0 s.1.length),(15,.int .i64 s.2)]) (O:=fun s g=>[(9,some (g.1,⟨false,false,1,3,off9.map Pa⟩)),(10,some (g.2.1,⟨false,false,1,4,done8.map D.bool⟩)),(11,some (g.2.2.1,⟨false,false,1,3,r7.map Pa⟩)),(14,some (g.2.2.2,⟨false,false,2,56,s.1.map Qd⟩))]) (body:=fun s=>XG s1 done8 g2 order_e13 off9 from3 i10 s.1 s.2) (s:=(([] : List Pj),0)) (_,_,_,_) ((hE ⟨rfl,r,r,r,r,r,r,r,r,r,trivial⟩ ⟨rfl,r,r,r,trivial⟩))<|?_
     rintro ⟨used14,y15⟩ ⟨v9x3,v10x3,v11x3,v14x3⟩ nn
     try dsimp only
     unfold XG
     refine A 9 ?_
     refine cD r ?_ ?_
     ·refine A 4 ?_
      refine sC (E:=fun (s : Bool) (g : Nat × Nat × Nat × Nat)=>[(0,.sl (s1.map Pn)),(1,.sl (g2.map (eL Pa))),(2,.int .i64 from3),(9,.osl 9 g.1 0 off9.length),(10,.osl 10 g.2.1 0 done8.length),(11,.osl 11 g.2.2.1 0 r7.length),(12,.int .i64 i10),(13,.int .i64 order_e13),(14,.osl 14 g.2.2.2 0 used14.length),(15,.int .i64 y15),(68,.bool s)]) (O:=fun _ g=>[(9,some (g.1,⟨false,false,1,3,off9.map Pa⟩)),(10,some (g.2.1,⟨false,false,1,4,done8.map D.bool⟩)),(11,some (g.2.2.1,⟨false,false,1,3,r7.map Pa⟩)),(14,some (g.2.2.2,⟨false,false,2,56,used14.map Qd⟩))]) (j:=fun s=>TG y15 off9 s1 used14 s) ?_ ?_
      ·exact B
      ·rintro x16 ⟨v9x4,v10x4,v11x4,v14x4⟩ nn
       try dsimp only
       unfold TG
       refine cD r ?_ ?_
       ·refine A 5 ?_
        refine bD fun off_e20 hoff_e20=>?_
        refine A 3 ?_
        refine bD fun x_x21 hx_x21=>?_
        refine A 4 ?_
        refine bS ([(Pj.mk off_e20 x_x21.Size)] : List Pj) Qd r r r (by simp) r r r<|?_
        exact B
       ·exact B
     ·exact B
    ·rintro ⟨done11,off12⟩ ⟨v9x5,v10x5,v11x5⟩ nn
     try dsimp only
     unfold XI
     exact B
   ·exact B

def TU (a : Ph × Int × OX) : List D:=[RA a.1,.int .i64 a.2.1,PL a.2.2]
def TT (ds : List D) : Ph × Int × OX:=(VD (ds.getD 0 .top),uI (ds.getD 1 .top),SM (ds.getD 2 .top))
theorem AhH (a : Ph × Int × OX) : TT (TU a) = a:=by simp [TT,TU,uI]
instance : Px TU TT:=⟨AhH⟩
def Ady (b : Ph) : D:=RA b
noncomputable def Adz : Dw.Spec:=Pf [] .val TU TT (fun a=>ZO a.1 a.2.1 a.2.2) Ady noE
theorem AhI : Pd Tryz.prog 105 Adz:=by
 refine fn2 3 (Pv) Tryz.func105<|?_
 rintro ⟨p1,i2,f3⟩
 unfold ZO
 refine A 11 ?_
 refine cK fun hq=>aP (([] : List OX)) (p1.Funcs) PL r r r r r r r (by simp) r r r (by simp) r (fun _=>r) r hq<|?_
 refine A 8 ?_
 refine cK fun hq=>iO (l:=([] : List OX) ++ p1.Funcs) (en:=PL) r r r r r hq<|bD fun l_o4 hl_o4=>sE (l:=([] : List OX) ++ p1.Funcs) (en:=PL) (q':=f3) r r r r r r r (by simp) hl_o4 r r r r r<|?_
 refine A 10 ?_
 refine UR (b:=(Ph.mk ((([] : List OX) ++ p1.Funcs).set i2.toNat f3))) r ?_ r r ?_ (by first | rfl | (simp only; rfl) | (simp only; rfl) | (simp only; rfl) | simp [Ady,RA])
 all_goals first|(simp;done)|(simp;omega)|rfl|(simp [PG,PE];done)

def AlR (b : Ph) : D:=RA b
noncomputable def Agh : Dw.Spec:=Pf [] .val TU TT (fun a=>Acq a.1 a.2.1 a.2.2) AlR noE
theorem AkO : Pd Tryz.prog 81 Agh:=by
 refine fn2 3 (Pk (l:=[(105,Adz)]) (by simp [AhI])) Tryz.func81<|?_
 intro a
 unfold Acq
 exact B

def ZS (a : (List Po) × (List Int)) : List D:=[.sl (a.1.map Pn),.sl (a.2.map Pa)]
def ZR (ds : List D) : (List Po) × (List Int):=((uL XL) (ds.getD 0 .top),(uL uI) (ds.getD 1 .top))
theorem AlO (a : (List Po) × (List Int)) : ZR (ZS a) = a:=by simp [ZR,ZS,PV (u:=XL) (en:=Pn) AeC,PV (u:=uI) (en:=Pa) (fun _=>rfl)]
instance : Px ZS ZR:=⟨AlO⟩
def Amy (b : Int) : D:=.int .i64 b
noncomputable def AgX : Dw.Spec:=Pf [] .ground ZS ZR (fun a=>AbO a.1 a.2) Amy noE
theorem AlP : Pd Tryz.prog 50 AgX:=by
 refine fn2 2 (Pv) Tryz.func50<|?_
 rintro ⟨s1,off2⟩
 unfold AbO
 refine A 17 ?_
 refine lP (E:=fun (s : Int × Int) (_g : Unit)=>[(0,.sl (s1.map Pn)),(1,.sl (off2.map Pa)),(5,.int .i64 s.1),(6,.int .i64 s.2)]) (O:=fun _ _=>[]) (body:=fun s=>AaT s1 off2 s.1 s.2) (s:=(0,0)) () ((hE ⟨rfl,r,r,r,trivial⟩ trivial))<|?_
 rintro ⟨n3,i4⟩ ⟨⟩ nn
 try dsimp only
 unfold AaT
 refine sC (E:=fun (_s : Unit) (_g : Unit)=>[(0,.sl (s1.map Pn)),(1,.sl (off2.map Pa)),(5,.int .i64 n3),(6,.int .i64 i4),(12,.int .i64 i4),(13,.sl (off2.map Pa)),(14,.int .i64 (off2.length : Int)),(15,.bool (decide (i4 < (off2.length : Int))))]) (O:=fun _ _=>[]) (j:=fun _=>AaU off2 i4 s1 n3) ?_ ?_
 ·exact B
 ·rintro ⟨⟩ ⟨⟩ nn
  try dsimp only
  unfold AaU
  exact B

def WO (a : Ph × Int × Int × (List Int)) : List D:=[RA a.1,.int .i64 a.2.1,.int .i64 a.2.2.1,.sl (a.2.2.2.map Pa)]
def WN (ds : List D) : Ph × Int × Int × (List Int):=(VD (ds.getD 0 .top),uI (ds.getD 1 .top),uI (ds.getD 2 .top),(uL uI) (ds.getD 3 .top))
theorem Aiz (a : Ph × Int × Int × (List Int)) : WN (WO a) = a:=by simp [WN,WO,uI,PV (u:=uI) (en:=Pa) (fun _=>rfl)]
instance : Px WO WN:=⟨Aiz⟩
def Un (b : Pe × Int) : D:=.tup [Qi b.1,.int .i64 b.2]
noncomputable def Aew : Dw.Spec:=Pf [] .val WO WN (fun a=>Yi a.1 a.2.1 a.2.2.1 a.2.2.2) Un noE
theorem AiA : Pd Tryz.prog 25 Aew:=by
 refine fn2 4 (Pk (l:=[(38,ZI),(24,AaV),(50,AgX),(33,Acp)]) (by simp [Abx,AbX,AlP,AdS])) Tryz.func25<|?_
 rintro ⟨p1,i2,align3,off4⟩
 unfold Yi
 refine A 12 ?_
 refine bD fun x_x5 hx_x5=>?_
 refine A 16 ?_
 refine cD r ?_ ?_
 ·refine A 9 ?_
  refine Qu (b:=((Pe.mk 0 0 ([])),13)) r ?_ r r ?_ (by first | rfl | (simp only [OV]; rfl) | (simp only [OW]; rfl) | (simp only [OV,OW]; rfl) | simp [Un,Qi]) (by decide)
  all_goals first|(simp;done)|(simp;omega)|rfl|(simp [PG,PE];done)
 ·refine A 9 ?_
  refine lP (E:=fun (s : Int) (g : Nat × Nat)=>[(1,.int .i64 i2),(2,.int .i64 align3),(3,.sl (off4.map Pa)),(4,.optr 4 g.1 0 0),(8,.optr 8 g.2 0 0),(10,.sl (x_x5.Slots.map Pn)),(11,.int .i64 s)]) (O:=fun _ g=>[(4,some (g.1,⟨false,true,1,26,[.agg [.sl (p1.Funcs.map PL)]]⟩)),(8,some (g.2,⟨false,true,3,32,[.agg [.int .i64 0,.int .i64 0,.nils]]⟩))]) (body:=fun s=>XJ x_x5 off4 p1 i2 align3 s) (s:=0) (_,_) ((hE ⟨rfl,r,r,r,r,r,r,trivial⟩ ⟨rfl,r,trivial⟩))<|?_
  rintro k6 ⟨v4x1,v8x1⟩ nn
  try dsimp only
  unfold XJ
  refine A 9 ?_
  refine cD r ?_ ?_
  ·refine A 8 ?_
   refine bD fun x_x7 hx_x7=>?_
   refine A 4 ?_
   refine bD fun x_x8 hx_x8=>?_
   refine A 4 ?_
   refine bD fun r9 hr9=>?_
   refine A 4 ?_
   refine cD r ?_ ?_
   ·refine A 13 ?_
    refine Qu (b:=((Pe.mk 0 0 ([])),13)) r ?_ r r ?_ (by first | rfl | (simp only [OV]; rfl) | (simp only [OW]; rfl) | (simp only [OV,OW]; rfl) | simp [Un,Qi]) (by decide)
    all_goals first|(simp;done)|(simp;omega)|rfl|(simp [PG,PE];done)
   ·exact B
  ·refine A 9 ?_
   refine bD fun r10 hr10=>?_
   refine A 9 ?_
   refine bD fun r11 hr11=>?_
   refine A 3 ?_
   refine bD fun r12 hr12=>?_
   refine A 14 ?_
   refine Abk r ?_ ?_
   ·refine A 15 ?_
    refine Qu (b:=((Pe.mk 0 0 ([])),9)) r ?_ r r ?_ (by first | rfl | (simp only [OV]; rfl) | (simp only [OW]; rfl) | (simp only [OV,OW]; rfl) | simp [Un,Qi]) (by decide)
    all_goals first|(simp;done)|(simp;omega)|rfl|(simp [PG,PE];done)
   ·refine A 5 ?_
    refine cD r ?_ ?_
    ·refine A 9 ?_
     refine Qu (b:=((Pe.mk 0 0 ([])),9)) r ?_ r r ?_ (by first | rfl | (simp only [OV]; rfl) | (simp only [OW]; rfl) | (simp only [OV,OW]; rfl) | simp [Un,Qi]) (by decide)
     all_goals first|(simp;done)|(simp;omega)|rfl|(simp [PG,PE];done)
    ·refine A 7 ?_
     refine cK fun hq=>aP (([] : List Int)) (off4) Pa r r r r r r r (by simp) r r r (by simp) r (fun _=>r) r hq<|?_
     refine A 6 ?_
     refine Qu (b:=((Pe.mk r10 r12.1 (([] : List Int) ++ off4)),0)) r ?_ r r ?_ (by first | rfl | (simp only [OV]; rfl) | (simp only [OW]; rfl) | (simp only [OV,OW]; rfl) | simp [Un,Qi]) (by decide)
     all_goals first|(simp;done)|(simp;omega)|rfl|(simp [PG,PE];done)

def AaW (b : Ua) : D:=AbH b
noncomputable def AdB : Dw.Spec:=Pf [] .val UK UJ (fun a=>Xb a.1 a.2) AaW noE
theorem AhL : Pd Tryz.prog 56 AdB:=by
 refine fn2 2 (Pk (l:=[(17,ZL),(77,Afh),(78,Adx),(79,Age),(80,Afm),(22,Aer),(24,AaV),(23,Aeu),(81,Agh),(29,AbU),(25,Aew)]) (by simp [AbA,Ajn,AhG,AkJ,Ajv,Aip,AbX,Aiw,AkO,Aep,AiA])) Tryz.func56<|?_
 rintro ⟨p1,i2⟩
 unfold Xb
 refine A 11 ?_
 refine bD fun x_x3 hx_x3=>?_
 refine A 9 ?_
 refine bD fun r4 hr4=>?_
 refine A 11 ?_
 refine bD fun r5 hr5=>?_
 refine A 12 ?_
 refine bD fun r6 hr6=>?_
 refine A 14 ?_
 refine bD fun r7 hr7=>?_
 refine A 11 ?_
 refine bD fun r8 hr8=>?_
 refine A 12 ?_
 refine bD fun r9 hr9=>?_
 refine A 10 ?_
 refine bD fun r10 hr10=>?_
 refine A 15 ?_
 refine bD fun r11 hr11=>?_
 refine A 1 ?_
 refine bD fun r12 hr12=>?_
 refine A 15 ?_
 refine cD r ?_ ?_
 ·refine A 8 ?_
  refine UR (b:=(Ua.mk r4 (Pw.mk r6 r7) r9 (Pe.mk 0 0 ([])))) r ?_ r r ?_ (by first | rfl | (simp only [OV]; rfl) | (simp only [OW]; rfl) | (simp only [OV,OW]; rfl) | simp [AaW,AbH])
  all_goals first|(simp;done)|(simp;omega)|rfl|(simp [PG,PE];done)
 ·refine A 7 ?_
  refine bD fun r13 hr13=>?_
  refine A 3 ?_
  refine bD fun r14 hr14=>?_
  refine A 2 ?_
  refine bD fun r15 hr15=>?_
  refine A 15 ?_
  refine UR (b:=(Ua.mk r4 (Pw.mk r6 r7) r9 r15.1)) r ?_ r r ?_ (by first | rfl | (simp only [OV]; rfl) | (simp only [OW]; rfl) | (simp only [OV,OW]; rfl) | simp [AaW,AbH])
  all_goals first|(simp;done)|(simp;omega)|rfl|(simp [PG,PE];done)

def Tw (a : Mk × Ph × Int × Int) : List D:=[Pz a.1,RA a.2.1,.int .i64 a.2.2.1,.int .i64 a.2.2.2]
def Tv (ds : List D) : Mk × Ph × Int × Int:=(Se (ds.getD 0 .top),VD (ds.getD 1 .top),uI (ds.getD 2 .top),uI (ds.getD 3 .top))
theorem AeJ (a : Mk × Ph × Int × Int) : Tv (Tw a) = a:=by simp [Tv,Tw,uI]
instance : Px Tw Tv:=⟨AeJ⟩
def Abg (b : Pe × Mk) : D:=Qi b.1
def Afq (b : Pe × Mk) : List D:=[Pz b.2]
noncomputable def Abh : Dw.Spec:=Pf [(0,(2,99))] .val Tw Tv (fun a=>TO a.1 a.2.1 a.2.2.1 a.2.2.2) Abg Afq
theorem AeK : Pd Tryz.prog 31 Abh:=by
 refine fn2 4 (Pk (l:=[(11,ZZ),(28,PM),(56,AdB),(55,ZU)]) (by simp [Acj,PO,AhL,AbY])) Tryz.func31<|?_
 rintro ⟨c1,p2,i3,align4⟩
 unfold TO
 refine A 11 ?_
 refine bD fun r5 hr5=>?_
 refine A 9 ?_
 refine sC (E:=fun (_s : (List Int) × Int × Int × Int × (List Int)) (g : Nat × Nat)=>[(0,.optr 8192 0 0 0),(8,.optr 8 g.1 0 0),(9,.optr 9 g.2 0 0)]) (O:=fun s g=>[(8,some (g.1,⟨false,true,3,32,[.agg [.int .i64 0,.int .i64 0,.nils]]⟩)),(9,some (g.2,⟨false,true,3,32,[.agg [.int .i64 s.2.2.1,.int .i64 s.2.2.2.1,.sl (s.2.2.2.2.map Pa)]]⟩)),(8192,some (0,⟨false,true,2,99,[.agg [.sl (s.1.map eU8),.int .i64 s.2.1]]⟩))]) (j:=fun s=>QC s.1 s.2.1 s.2.2.1 s.2.2.2.1 s.2.2.2.2) ?_ ?_
 ·exact B
 ·rintro ⟨c6,c7,y8,y9,y10⟩ ⟨v8x1,v9x1⟩ nn
  try dsimp only
  unfold QC
  refine A 4 ?_
  refine cK fun hq=>aP (([] : List Int)) (y10) Pa r r r r r r r (by simp) r r r (by simp) r (fun _=>r) r hq<|?_
  refine A 8 ?_
  refine bD fun r13 hr13=>?_
  refine A 5 ?_
  refine lP (E:=fun (s : (List Int) × Int × (List Int) × Int × Int × Int) (g : Nat × Nat × Nat)=>[(0,.optr 8192 0 0 0),(8,.optr 8 g.1 0 0),(9,.optr 9 g.2.1 0 0),(12,.int .i64 s.2.2.2.2.2)]) (O:=fun s g=>[(8,some (g.1,⟨false,true,3,32,[.agg [.int .i64 0,.int .i64 0,.nils]]⟩)),(9,some (g.2.1,⟨false,true,3,32,[.agg [.int .i64 s.2.2.2.1,.int .i64 s.2.2.2.2.1,.osl 39 g.2.2 0 s.2.2.1.length]]⟩)),(39,some (g.2.2,⟨false,false,1,3,s.2.2.1.map Pa⟩)),(8192,some (0,⟨false,true,2,99,[.agg [.sl (s.1.map eU8),.int .i64 s.2.1]]⟩))]) (body:=fun s=>TW s.1 s.2.1 s.2.2.1 s.2.2.2.1 s.2.2.2.2.1 s.2.2.2.2.2) (s:=(r13.2.list,r13.2.at_,([] : List Int) ++ y10,y8,y9,r13.1)) (_,_,_) ((hE ⟨rfl,r,r,r,trivial⟩ ⟨rfl,r,r,r,trivial⟩))<|?_
  rintro ⟨c14,c15,x16,y17,y18,n19⟩ ⟨v8x2,v9x2,v39x2⟩ nn
  try dsimp only
  unfold TW
  refine A 7 ?_
  refine cD r ?_ ?_
  ·refine A 11 ?_
   refine bD fun r20 hr20=>?_
   refine A 7 ?_
   refine bD fun r21 hr21=>?_
   refine A 4 ?_
   refine sC (E:=fun (s : Bool) (g : Nat × Nat × Nat)=>[(0,.optr 8192 0 0 0),(8,.optr 8 g.1 0 0),(9,.optr 9 g.2.1 0 0),(12,.int .i64 n19),(13,.int .i64 r20.1),(54,.int .i64 r21.1),(55,.bool s)]) (O:=fun _ g=>[(8,some (g.1,⟨false,true,3,32,[.agg [.int .i64 0,.int .i64 0,.nils]]⟩)),(9,some (g.2.1,⟨false,true,3,32,[.agg [.int .i64 y17,.int .i64 y18,.osl 39 g.2.2 0 x16.length]]⟩)),(39,some (g.2.2,⟨false,false,1,3,x16.map Pa⟩)),(8192,some (0,⟨false,true,2,99,[.agg [.sl (r21.2.list.map eU8),.int .i64 r21.2.at_]]⟩))]) (j:=fun s=>QD r20 x16 r21 y17 y18 n19 s) ?_ ?_
   ·exact B
   ·rintro x22 ⟨v8x3,v9x3,v39x3⟩ nn
    try dsimp only
    unfold QD
    refine cD r ?_ ?_
    ·refine A 9 ?_
     refine cD r ?_ ?_
     ·refine A 7 ?_
      refine bD fun r23 hr23=>?_
      refine A 4 ?_
      refine bD fun x_o24 hx_o24=>?_
      refine A 10 ?_
      exact xL (s:=(r23.2.list,r23.2.at_,x16.set r20.1.toNat (IntKind.i64.wrap (y17 + (IntKind.i64.wrap (8 * r23.1)))),y17,y18,IntKind.i64.wrap (n19 - 1))) (_,_,_) ((hE ⟨rfl,r,r,r,trivial⟩ ⟨rfl,(Eq.trans (b:=some (_,⟨false,true,3,32,[.agg [.int .i64 y17,.int .i64 y18,.osl 39 _ 0 x16.length]]⟩)) r (by simp)),r,r,trivial⟩))
     ·exact B
    ·refine sC (E:=fun (s : Bool) (g : Nat × Nat × Nat)=>[(0,.optr 8192 0 0 0),(8,.optr 8 g.1 0 0),(9,.optr 9 g.2.1 0 0),(12,.int .i64 n19),(13,.int .i64 r20.1),(54,.int .i64 r21.1),(74,.bool s)]) (O:=fun _ g=>[(8,some (g.1,⟨false,true,3,32,[.agg [.int .i64 0,.int .i64 0,.nils]]⟩)),(9,some (g.2.1,⟨false,true,3,32,[.agg [.int .i64 y17,.int .i64 y18,.osl 39 g.2.2 0 x16.length]]⟩)),(39,some (g.2.2,⟨false,false,1,3,x16.map Pa⟩)),(8192,some (0,⟨false,true,2,99,[.agg [.sl (r21.2.list.map eU8),.int .i64 r21.2.at_]]⟩))]) (j:=fun s=>Rr r20 x16 r21 y17 y18 n19 s) ?_ ?_
     ·exact B
     ·rintro x25 ⟨v8x4,v9x4,v39x4⟩ nn
      try dsimp only
      unfold Rr
      refine cD r ?_ ?_
      ·refine A 9 ?_
       refine cD r ?_ ?_
       ·refine A 10 ?_
        refine bD fun r26 hr26=>?_
        refine A 2 ?_
        refine bD fun x_e27 hx_e27=>?_
        refine A 2 ?_
        refine bD fun x_o28 hx_o28=>?_
        refine A 10 ?_
        exact xL (s:=(r26.2.list,r26.2.at_,x16.set r20.1.toNat x_e27,y17,y18,IntKind.i64.wrap (n19 - 1))) (_,_,_) ((hE ⟨rfl,r,r,r,trivial⟩ ⟨rfl,(Eq.trans (b:=some (_,⟨false,true,3,32,[.agg [.int .i64 y17,.int .i64 y18,.osl 39 _ 0 x16.length]]⟩)) r (by simp)),r,r,trivial⟩))
       ·exact B
      ·refine A 6 ?_
       refine cD r ?_ ?_
       ·exact B
       ·refine A 6 ?_
        refine cD r ?_ ?_
        ·refine sC (E:=fun (s : (List Int) × Int × Bool) (g : Nat × Nat × Nat)=>[(0,.optr 8192 0 0 0),(8,.optr 8 g.1 0 0),(9,.optr 9 g.2.1 0 0),(12,.int .i64 n19),(13,.int .i64 r20.1),(116,.bool s.2.2)]) (O:=fun s g=>[(8,some (g.1,⟨false,true,3,32,[.agg [.int .i64 0,.int .i64 0,.nils]]⟩)),(9,some (g.2.1,⟨false,true,3,32,[.agg [.int .i64 y17,.int .i64 y18,.osl 39 g.2.2 0 x16.length]]⟩)),(39,some (g.2.2,⟨false,false,1,3,x16.map Pa⟩)),(8192,some (0,⟨false,true,2,99,[.agg [.sl (s.1.map eU8),.int .i64 s.2.1]]⟩))]) (j:=fun s=>Rs r20 x16 y17 y18 n19 s.1 s.2.1 s.2.2) ?_ ?_
         ·exact B
         ·rintro ⟨c30,c31,x32⟩ ⟨v8x5,v9x5,v39x5⟩ nn
          try dsimp only
          unfold Rs
          refine cD r ?_ ?_
          ·refine A 5 ?_
           refine bD fun r34 hr34=>?_
           refine A 2 ?_
           refine bD fun x_o35 hx_o35=>?_
           refine A 10 ?_
           exact xL (s:=(r34.2.list,r34.2.at_,x16.set r20.1.toNat r34.1,y17,y18,IntKind.i64.wrap (n19 - 1))) (_,_,_) ((hE ⟨rfl,r,r,r,trivial⟩ ⟨rfl,(Eq.trans (b:=some (_,⟨false,true,3,32,[.agg [.int .i64 y17,.int .i64 y18,.osl 39 _ 0 x16.length]]⟩)) r (by simp)),r,r,trivial⟩))
          ·exact B
        ·refine A 6 ?_
         refine cD r ?_ ?_
         ·refine A 3 ?_
          refine bD fun r36 hr36=>?_
          refine A 10 ?_
          refine cD r ?_ ?_
          ·exact B
          ·refine A 6 ?_
           refine cD r ?_ ?_
           ·exact B
           ·refine A 6 ?_
            refine cD r ?_ ?_
            ·refine A 4 ?_
             refine bD fun r39 hr39=>?_
             refine A 15 ?_
             exact xL (s:=(r39.2.list,r39.2.at_,x16 ++ ([r39.1] : List Int),y17,y18,IntKind.i64.wrap (n19 - 1))) (_,_,_) ((Ahq (E1:=[(0,.optr 8192 0 0 0),(8,.optr 8 _ 0 0),(9,.optr 9 _ 0 0),(12,.int .i64 (IntKind.i64.wrap (n19 - 1)))]) (O1:=[(8,some (_,⟨false,true,3,32,[.agg [.int .i64 0,.int .i64 0,.nils]]⟩)),(9,some (_,⟨false,true,3,32,[.agg [.int .i64 y17,.int .i64 y18,.osl 144 _ 0 ((x16 ++ ([r39.1] : List Int)).length)]]⟩)),(144,some (_,⟨false,false,1,3,(x16 ++ ([r39.1] : List Int)).map Pa⟩)),(8192,some (0,⟨false,true,2,99,[.agg [.sl (r39.2.list.map eU8),.int .i64 r39.2.at_]]⟩))]) (hE ⟨rfl,r,r,r,trivial⟩ ⟨rfl,r,r,r,trivial⟩) (fun _=>Ahp (fun g=>bif Nat.beq g 144 then 39 else g) (by rfl) (hE ⟨rfl,r,r,r,trivial⟩ ⟨rfl,r,r,r,trivial⟩))))
            ·exact B
         ·exact B
  ·refine A 12 ?_
   refine UR (b:=((Pe.mk y17 y18 x16),(Mk.mk c14 c15))) r ?_ r r ?_ (by first | rfl | (simp only [OV]; rfl) | (simp only [OW]; rfl) | (simp only [OV,OW]; rfl) | simp [Abg,Qi])
   all_goals first|(simp;done)|(simp;omega)|rfl|(simp [PG,PE];done)

def Xt (a : (List Int)) : List D:=[.sl (a.map eU8)]
def Xs (ds : List D) : (List Int):=(uL uI) (ds.getD 0 .top)
theorem Aej (a : (List Int)) : Xs (Xt a) = a:=by simp [Xs,Xt,PV (u:=uI) (en:=eU8) (fun _=>rfl)]
instance : Px Xt Xs:=⟨Aej⟩
def Akc (b : Ph × Int × Int × Pg × Pe × Mk) : D:=.tup [RA b.1,.int .i64 b.2.1,.int .i64 b.2.2.1,Qt b.2.2.2.1,Qi b.2.2.2.2.1,Pz b.2.2.2.2.2]
noncomputable def AeY : Dw.Spec:=Pf [] (.tupPtr 5 2 99) Xt Xs (fun a=>Zn a) Akc noE
theorem AiU : Pd Tryz.prog 9 AeY:=by
 refine fn2 1 (Pk (l:=[(26,AhX),(27,Aat),(28,PM),(29,AbU),(10,XV),(30,Aca),(31,Abh)]) (by simp [Amj,Aef,PO,Aep,Abi,Afx,AeK])) Tryz.func9<|?_
 intro codes1
 unfold Zn
 refine A 13 ?_
 refine bD fun r2 hr2=>?_
 refine A 7 ?_
 refine bD fun r3 hr3=>?_
 refine A 11 ?_
 refine bD fun r4 hr4=>?_
 refine A 7 ?_
 refine bD fun r5 hr5=>?_
 refine A 10 ?_
 refine bD fun x_x6 hx_x6=>?_
 refine A 2 ?_
 refine bD fun r7 hr7=>?_
 refine A 5 ?_
 refine sC (E:=fun (_s : (List (List Int)) × (List Int) × Int) (g : Nat × Nat × Nat × Nat × Nat × Nat)=>[(2,.optr 2 g.1 0 0),(5,.optr 5 g.2.1 0 0),(6,.optr 6 g.2.2.1 0 0),(8,.optr 14 g.2.2.2.2.2 0 0),(9,.optr 9 g.2.2.2.1 0 0),(10,.int .i64 r4.1),(11,.int .i64 r5),(12,.optr 12 g.2.2.2.2.1 0 0)]) (O:=fun s g=>[(2,some (g.1,⟨false,true,1,26,[.agg [.nils]]⟩)),(5,some (g.2.1,⟨false,true,1,29,[.agg [.nils]]⟩)),(6,some (g.2.2.1,⟨false,true,3,32,[.agg [.int .i64 0,.int .i64 0,.nils]]⟩)),(9,some (g.2.2.2.1,⟨false,true,1,26,[.agg [.sl (r3.1.Funcs.map PL)]]⟩)),(12,some (g.2.2.2.2.1,⟨false,true,1,29,[.agg [.sl (s.1.map (eL Pa))]]⟩)),(14,some (g.2.2.2.2.2,⟨false,true,2,99,[.agg [.sl (s.2.1.map eU8),.int .i64 s.2.2]]⟩))]) (j:=fun s=>Ui r3 r4 r5 s.1 s.2.1 s.2.2) ?_ ?_
 ·exact B
 ·rintro ⟨l8,x9,x10⟩ ⟨v2x1,v5x1,v6x1,v9x1,v12x1,v14x1⟩ nn
  try dsimp only
  unfold Ui
  exact B

def Afp (b : Bool) : D:=.bool b
noncomputable def Xm : Dw.Spec:=Pf [] .ground PY PX (fun a=>QP a) Afp noE
theorem Aas : Pd Tryz.prog 123 Xm:=by
 refine fn2 1 (Pv) Tryz.func123<|?_
 intro a
 unfold QP
 exact B

def AiH (b : Bool) : D:=.bool b
noncomputable def AdY : Dw.Spec:=Pf [] .ground Sp So (fun a=>XP a) AiH noE
theorem AhT : Pd Tryz.prog 107 AdY:=by
 refine fn2 1 (Pk (l:=[(123,Xm)]) (by simp [Aas])) Tryz.func107<|?_
 intro s1
 unfold XP
 refine A 14 ?_
 refine lP (E:=fun (s : Int) (_g : Unit)=>[(0,.sl (s1.map Pa)),(5,.sl (s1.map Pa)),(6,.int .i64 (s1.length : Int)),(7,.int .i64 s)]) (O:=fun _ _=>[]) (body:=fun s=>RB s1 s) (s:=0) () ((hE ⟨rfl,r,r,r,trivial⟩ trivial))<|?_
 rintro x2 ⟨⟩ nn
 try dsimp only
 unfold RB
 exact B

def Sa (a : (List Int) × OX) : List D:=[.sl (a.1.map Pa),.fptr (PL a.2) 0]
def RZ (ds : List D) : (List Int) × OX:=((uL uI) (ds.getD 0 .top),SM (fpD (ds.getD 1 .top)))
theorem AcJ (a : (List Int) × OX) : RZ (Sa a) = a:=by simp [RZ,Sa,fpD,PV (u:=uI) (en:=Pa) (fun _=>rfl)]
instance : Px Sa RZ:=⟨AcJ⟩
def Adh (b : Bool) : D:=.bool b
noncomputable def Zj : Dw.Spec:=Pf [] .ground Sa RZ (fun a=>RU a.1 a.2) Adh noE
theorem AcK : Pd Tryz.prog 106 Zj:=by
 refine fn2 2 (Pk (l:=[(107,AdY)]) (by simp [AhT])) Tryz.func106<|?_
 intro a
 unfold RU
 exact B

def PU (a : (List (List Int)) × OX) : List D:=[.sl (a.1.map (eL Pa)),.clo 106 [.fptr (PL a.2) 0]]
def PT (ds : List D) : (List (List Int)) × OX:=((uL (uL uI)) (ds.getD 0 .top),SM (fpD (Ahg (ds.getD 1 .top) 0)))
theorem Rj (a : (List (List Int)) × OX) : PT (PU a) = a:=by simp [PT,PU,fpD,Ahg,PV (u:=(uL uI)) (en:=(eL Pa)) (PV (u:=uI) (en:=Pa) (fun _=>rfl))]
instance : Px PU PT:=⟨Rj⟩
def Ze (b : Int) : D:=.int .i64 b
noncomputable def Ry : Dw.Spec:=Pf [] .ground PU PT (fun a=>Qf a.1 a.2) Ze noE
theorem Yk : Pd Tryz.prog 124 Ry:=by
 refine fn2 2 (Pk (l:=[(106,Zj)]) (by simp [AcK])) Tryz.func124<|?_
 rintro ⟨s1,f2⟩
 unfold Qf
 refine A 14 ?_
 refine lP (E:=fun (s : Int) (_g : Unit)=>[(0,.sl (s1.map (eL Pa))),(1,.clo 106 [.fptr (.agg [.int .i64 f2.Params,.sl (f2.Slots.map Pn),.sl (f2.Code.map Pm)]) 0]),(7,.int .i64 (s1.length : Int)),(8,.int .i64 s)]) (O:=fun _ _=>[]) (body:=fun s=>Qp s1 f2 s) (s:=0) () ((hE ⟨rfl,r,r,r,trivial⟩ trivial))<|?_
 rintro x3 ⟨⟩ nn
 try dsimp only
 unfold Qp
 exact B

def Xo (b : Bool) : D:=.bool b
noncomputable def QT : Dw.Spec:=Pf [] .ground PU PT (fun a=>Qo a.1 a.2) Xo noE
theorem Xc : Pd Tryz.prog 108 QT:=by
 refine fn2 2 (Pk (l:=[(438396,Ry)]) (by simp [Yk])) Tryz.func108<|?_
 rintro ⟨s1,f2⟩
 unfold Qo
 refine A 9 ?_
 refine bD fun r3 hr3=>cG (s1,f2) rfl rfl (show _ = some Ry from by kernel_rfl) Rj rfl rfl (by simp) r hr3 r<|?_
 exact B

def AfQ (b : Bool) : D:=.bool b
noncomputable def Ya : Dw.Spec:=Pf [] .ground Ql Qk (fun a=>SS a.1 a.2) AfQ noE
theorem Abj : Pd Tryz.prog 82 Ya:=by
 refine fn2 2 (Pk (l:=[(438380,QT)]) (by simp [Xc])) Tryz.func82<|?_
 rintro ⟨f1,l2⟩
 unfold SS
 refine A 6 ?_
 refine VC (E:=[(2,.fptr (.agg [.int .i64 f1.Params,.sl (f1.Slots.map Pn),.sl (f1.Code.map Pm)]) 0),(3,.optr 3 _ 0 0)]) (O:=[(3,some (_,⟨false,true,1,29,[.agg [.sl (l2.Out.map (eL Pa))]]⟩))]) ((AeN (g:=2) r (by first | rfl | (simp [cells,frp,PA,PG]; done)) (hE ⟨(by first | rfl | (simp [Ps,frp]; done) | (simp [Ps,frp,PA]; done) | (simp [Ps,frp,PA,nbq]; done) | (simp [Ps,lkO,frp,PA,frO]; done) | (simp [Ps,lkO,frp,PA,frO]; rfl) | (simp [Ps,lkO,frp,PA,frO,nbq]; done)),(by first | rfl | (simp [Ps,frp]; done) | (simp [Ps,frp,PA]; done) | (simp [Ps,frp,PA,nbq]; done) | (simp [Ps,lkO,frp,PA,frO]; done) | (simp [Ps,lkO,frp,PA,frO]; rfl) | (simp [Ps,lkO,frp,PA,frO,nbq]; done)),trivial⟩ ⟨(by first | rfl | (simp [Ps,frp]; done) | (simp [Ps,frp,PA]; done) | (simp [Ps,frp,PA,nbq]; done) | (simp [Ps,lkO,frp,PA,frO]; done) | (simp [Ps,lkO,frp,PA,frO]; rfl) | (simp [Ps,lkO,frp,PA,frO,nbq]; done)),trivial⟩))) fun nn=>?_
 refine A 2 ?_
 refine mF (caps:=[.fptr (.agg [.int .i64 f1.Params,.sl (f1.Slots.map Pn),.sl (f1.Code.map Pm)]) 0]) r r (by simp [Acx])<|?_
 refine A 13 ?_
 refine Abk r ?_ ?_
 ·refine A 3 ?_
  refine bD fun r3 hr3=>cG (l2.Out,f1) rfl rfl (show _ = some QT from by kernel_rfl) Rj rfl rfl (by simp) r hr3 r<|?_
  exact B
 ·exact B

def Vo (a : Pg) : List D:=[Qt a]
def Vn (ds : List D) : Pg:=VR (ds.getD 0 .top)
theorem AgI (a : Pg) : Vn (Vo a) = a:=by simp [Vn,Vo]
instance : Px Vo Vn:=⟨AgI⟩
def Ahr (b : Pg) : D:=.clo 127 [.fptr (Qt b) 0]
noncomputable def AcL : Dw.Spec:=Pf [] .val Vo Vn (fun a=>Ys a) Ahr noE
theorem AgJ : Pd Tryz.prog 110 AcL:=by
 refine fn2 1 (Pv) Tryz.func110<|?_
 intro l1
 unfold Ys
 refine A 5 ?_
 refine VC (E:=[(1,.fptr (.agg [.sl (l1.Out.map (eL Pa))]) 0)]) (O:=[]) ((AeN (g:=1) r (by first | rfl | (simp [cells,frp,PA,PG]; done)) (hE ⟨(by first | rfl | (simp [Ps,frp]; done) | (simp [Ps,frp,PA]; done) | (simp [Ps,frp,PA,nbq]; done) | (simp [Ps,lkO,frp,PA,frO]; done) | (simp [Ps,lkO,frp,PA,frO]; rfl) | (simp [Ps,lkO,frp,PA,frO,nbq]; done)),trivial⟩ trivial))) fun nn=>?_
 refine A 2 ?_
 refine mF (caps:=[.fptr (.agg [.sl (l1.Out.map (eL Pa))]) 0]) r r (by simp [Acx])<|?_
 exact B

def AhN (b : Bool) : D:=.bool b
noncomputable def AcU : Dw.Spec:=Pf [] .ground PY PX (fun a=>Zd a) AhN noE
theorem AgL : Pd Tryz.prog 133 AcU:=by
 refine fn2 1 (Pv) Tryz.func133<|?_
 intro a
 unfold Zd
 exact B

def Amo (b : (List Int)) : D:=.sl (b.map Pa)
noncomputable def AgR : Dw.Spec:=Pf [] (.row 1 3) We Wd (fun a=>AbJ a.1 a.2) Amo noE
theorem Alm : Pd Tryz.prog 125 AgR:=by
 refine fn2 2 (Pk (l:=[(133,AcU),(134,Aak),(135,Yj)]) (by simp [AgL,AdT,Acs])) Tryz.func125<|?_
 rintro ⟨f1,k2⟩
 unfold AbJ
 refine A 6 ?_
 refine sC (E:=fun (_s : Unit) (g : Nat)=>[(1,.int .i64 k2),(2,.optr 2 g 0 0)]) (O:=fun _ g=>[(2,some (g,⟨false,true,3,40,[.agg [.int .i64 f1.Params,.sl (f1.Slots.map Pn),.sl (f1.Code.map Pm)]]⟩))]) (j:=fun _=>Aay f1 k2) ?_ ?_
 ·exact B
 ·rintro ⟨⟩ v2x1 nn
  try dsimp only
  unfold Aay
  refine A 10 ?_
  refine bD fun x_x3 hx_x3=>?_
  refine A 6 ?_
  refine sC (E:=fun (s : (List Int)) (g : Nat × Nat)=>[(5,.osl 5 g.1 0 s.length),(6,.optr 6 g.2 0 0)]) (O:=fun s g=>[(5,some (g.1,⟨false,false,1,3,s.map Pa⟩)),(6,some (g.2,⟨false,true,5,50,[.agg [.int .i64 x_x3.Op,.int .i64 x_x3.A,.int .i64 x_x3.B,.int .i64 x_x3.C,.int .u64 x_x3.Imm]]⟩))]) (j:=fun s=>XY x_x3 s) ?_ ?_
  ·exact B
  ·rintro l4 ⟨v5x2,v6x2⟩ nn
   try dsimp only
   unfold XY
   exact B

def SL (a : Int × Pg) : List D:=[.int .i64 a.1,.fptr (Qt a.2) 0]
def SK (ds : List D) : Int × Pg:=(uI (ds.getD 0 .top),VR (fpD (ds.getD 1 .top)))
theorem AdP (a : Int × Pg) : SK (SL a) = a:=by simp [SK,SL,uI,fpD]
instance : Px SL SK:=⟨AdP⟩
def Aem (b : (List Int)) : D:=.sl (b.map Pa)
noncomputable def Aaj : Dw.Spec:=Pf [] .val SL SK (fun a=>UG a.1 a.2) Aem noE
theorem AdQ : Pd Tryz.prog 127 Aaj:=by
 refine fn2 2 (Pv) Tryz.func127<|?_
 intro a
 unfold UG
 exact B

def Ahk (b : Int × Bool) : D:=.tup [.int .i64 b.1,.bool b.2]
noncomputable def ZW : Dw.Spec:=Pf [] .ground Qs Qr (fun a=>Ug a) Ahk noE
theorem Acf : Pd Tryz.prog 84 ZW:=by
 refine fn2 1 (Pv) Tryz.func84<|?_
 intro a
 unfold Ug
 exact B

def Te (a : OY × Int × Bool) : List D:=[PD a.1,.int .i64 a.2.1,.bool a.2.2]
def Td (ds : List D) : OY × Int × Bool:=(Rk (ds.getD 0 .top),uI (ds.getD 1 .top),uBo (ds.getD 2 .top))
theorem Aec (a : OY × Int × Bool) : Td (Te a) = a:=by simp [Td,Te,uI,uBo]
instance : Px Te Td:=⟨Aec⟩
def AeI (_b : OY) : D:=.tup []
def AeH (b : OY) : List D:=[PD b]
noncomputable def Wp : Dw.Spec:=Pf [(0,(8,160))] .val Te Td (fun a=>RL a.1 a.2.1 a.2.2) AeI AeH
theorem Aab : Pd Tryz.prog 139 Wp:=by
 refine fn2 3 (Pk (l:=[(123,Xm)]) (by simp [Aas])) Tryz.func139<|?_
 rintro ⟨s1,n2,in3⟩
 unfold RL
 refine A 13 ?_
 refine bD fun r4 hr4=>?_
 refine A 5 ?_
 refine cD r ?_ ?_
 ·exact B
 ·refine A 6 ?_
  refine cD r ?_ ?_
  ·refine A 5 ?_
   refine cK fun hq=>Uo r r r hq<|bD fun s_e5 hs_e5=>WQ (q:=s_e5) (l:=s1.toList) (en:=ZV) (j:=(IntKind.i64.wrap (n2.tdiv 64)).toNat) (by simp) r r r hs_e5 r (fun _=>r)<|?_
   refine A 3 ?_
   refine cK fun hq=>Uo r r r hq<|bD fun s_o6 hs_o6=>AdD (q:=s_o6) (q':=IntKind.u64.wrap ((BitVec.ofInt IntKind.u64.bits s_e5 ||| BitVec.ofInt IntKind.u64.bits (IntKind.u64.wrap (1 * 2 ^ (Nat.min ((IntKind.u64.wrap (n2)).tmod 64).toNat IntKind.u64.bits)))).toNat)) (l:=s1.toList) (en:=ZV) (j:=(IntKind.i64.wrap (n2.tdiv 64)).toNat) (z':=.agg [.int .u64 ((s1.set ((IntKind.i64.wrap (n2.tdiv 64)).toNat) (IntKind.u64.wrap ((BitVec.ofInt IntKind.u64.bits s_e5 ||| BitVec.ofInt IntKind.u64.bits (IntKind.u64.wrap (1 * 2 ^ (Nat.min ((IntKind.u64.wrap (n2)).tmod 64).toNat IntKind.u64.bits)))).toNat))).a0),.int .u64 ((s1.set ((IntKind.i64.wrap (n2.tdiv 64)).toNat) (IntKind.u64.wrap ((BitVec.ofInt IntKind.u64.bits s_e5 ||| BitVec.ofInt IntKind.u64.bits (IntKind.u64.wrap (1 * 2 ^ (Nat.min ((IntKind.u64.wrap (n2)).tmod 64).toNat IntKind.u64.bits)))).toNat))).a1),.int .u64 ((s1.set ((IntKind.i64.wrap (n2.tdiv 64)).toNat) (IntKind.u64.wrap ((BitVec.ofInt IntKind.u64.bits s_e5 ||| BitVec.ofInt IntKind.u64.bits (IntKind.u64.wrap (1 * 2 ^ (Nat.min ((IntKind.u64.wrap (n2)).tmod 64).toNat IntKind.u64.bits)))).toNat))).a2),.int .u64 ((s1.set ((IntKind.i64.wrap (n2.tdiv 64)).toNat) (IntKind.u64.wrap ((BitVec.ofInt IntKind.u64.bits s_e5 ||| BitVec.ofInt IntKind.u64.bits (IntKind.u64.wrap (1 * 2 ^ (Nat.min ((IntKind.u64.wrap (n2)).tmod 64).toNat IntKind.u64.bits)))).toNat))).a3),.int .u64 ((s1.set ((IntKind.i64.wrap (n2.tdiv 64)).toNat) (IntKind.u64.wrap ((BitVec.ofInt IntKind.u64.bits s_e5 ||| BitVec.ofInt IntKind.u64.bits (IntKind.u64.wrap (1 * 2 ^ (Nat.min ((IntKind.u64.wrap (n2)).tmod 64).toNat IntKind.u64.bits)))).toNat))).a4),.int .u64 ((s1.set ((IntKind.i64.wrap (n2.tdiv 64)).toNat) (IntKind.u64.wrap ((BitVec.ofInt IntKind.u64.bits s_e5 ||| BitVec.ofInt IntKind.u64.bits (IntKind.u64.wrap (1 * 2 ^ (Nat.min ((IntKind.u64.wrap (n2)).tmod 64).toNat IntKind.u64.bits)))).toNat))).a5),.int .u64 ((s1.set ((IntKind.i64.wrap (n2.tdiv 64)).toNat) (IntKind.u64.wrap ((BitVec.ofInt IntKind.u64.bits s_e5 ||| BitVec.ofInt IntKind.u64.bits (IntKind.u64.wrap (1 * 2 ^ (Nat.min ((IntKind.u64.wrap (n2)).tmod 64).toNat IntKind.u64.bits)))).toNat))).a6),.int .u64 ((s1.set ((IntKind.i64.wrap (n2.tdiv 64)).toNat) (IntKind.u64.wrap ((BitVec.ofInt IntKind.u64.bits s_e5 ||| BitVec.ofInt IntKind.u64.bits (IntKind.u64.wrap (1 * 2 ^ (Nat.min ((IntKind.u64.wrap (n2)).tmod 64).toNat IntKind.u64.bits)))).toNat))).a7)]) (by simp) r r r r r hs_o6 r r (congrArg (fun l=>D.agg (l.map ZV)) (Ro s1 ((IntKind.i64.wrap (n2.tdiv 64)).toNat) (IntKind.u64.wrap ((BitVec.ofInt IntKind.u64.bits s_e5 ||| BitVec.ofInt IntKind.u64.bits (IntKind.u64.wrap (1 * 2 ^ (Nat.min ((IntKind.u64.wrap (n2)).tmod 64).toNat IntKind.u64.bits)))).toNat))).symm) r r<|?_
   exact B
  ·refine A 5 ?_
   refine cK fun hq=>Uo r r r hq<|bD fun s_e7 hs_e7=>WQ (q:=s_e7) (l:=s1.toList) (en:=ZV) (j:=(IntKind.i64.wrap (n2.tdiv 64)).toNat) (by simp) r r r hs_e7 r (fun _=>r)<|?_
   refine A 3 ?_
   refine cK fun hq=>Uo r r r hq<|bD fun s_o8 hs_o8=>AdD (q:=s_o8) (q':=IntKind.u64.wrap ((BitVec.ofInt IntKind.u64.bits s_e7 &&& ~~~ BitVec.ofInt IntKind.u64.bits (IntKind.u64.wrap (1 * 2 ^ (Nat.min ((IntKind.u64.wrap (n2)).tmod 64).toNat IntKind.u64.bits)))).toNat)) (l:=s1.toList) (en:=ZV) (j:=(IntKind.i64.wrap (n2.tdiv 64)).toNat) (z':=.agg [.int .u64 ((s1.set ((IntKind.i64.wrap (n2.tdiv 64)).toNat) (IntKind.u64.wrap ((BitVec.ofInt IntKind.u64.bits s_e7 &&& ~~~ BitVec.ofInt IntKind.u64.bits (IntKind.u64.wrap (1 * 2 ^ (Nat.min ((IntKind.u64.wrap (n2)).tmod 64).toNat IntKind.u64.bits)))).toNat))).a0),.int .u64 ((s1.set ((IntKind.i64.wrap (n2.tdiv 64)).toNat) (IntKind.u64.wrap ((BitVec.ofInt IntKind.u64.bits s_e7 &&& ~~~ BitVec.ofInt IntKind.u64.bits (IntKind.u64.wrap (1 * 2 ^ (Nat.min ((IntKind.u64.wrap (n2)).tmod 64).toNat IntKind.u64.bits)))).toNat))).a1),.int .u64 ((s1.set ((IntKind.i64.wrap (n2.tdiv 64)).toNat) (IntKind.u64.wrap ((BitVec.ofInt IntKind.u64.bits s_e7 &&& ~~~ BitVec.ofInt IntKind.u64.bits (IntKind.u64.wrap (1 * 2 ^ (Nat.min ((IntKind.u64.wrap (n2)).tmod 64).toNat IntKind.u64.bits)))).toNat))).a2),.int .u64 ((s1.set ((IntKind.i64.wrap (n2.tdiv 64)).toNat) (IntKind.u64.wrap ((BitVec.ofInt IntKind.u64.bits s_e7 &&& ~~~ BitVec.ofInt IntKind.u64.bits (IntKind.u64.wrap (1 * 2 ^ (Nat.min ((IntKind.u64.wrap (n2)).tmod 64).toNat IntKind.u64.bits)))).toNat))).a3),.int .u64 ((s1.set ((IntKind.i64.wrap (n2.tdiv 64)).toNat) (IntKind.u64.wrap ((BitVec.ofInt IntKind.u64.bits s_e7 &&& ~~~ BitVec.ofInt IntKind.u64.bits (IntKind.u64.wrap (1 * 2 ^ (Nat.min ((IntKind.u64.wrap (n2)).tmod 64).toNat IntKind.u64.bits)))).toNat))).a4),.int .u64 ((s1.set ((IntKind.i64.wrap (n2.tdiv 64)).toNat) (IntKind.u64.wrap ((BitVec.ofInt IntKind.u64.bits s_e7 &&& ~~~ BitVec.ofInt IntKind.u64.bits (IntKind.u64.wrap (1 * 2 ^ (Nat.min ((IntKind.u64.wrap (n2)).tmod 64).toNat IntKind.u64.bits)))).toNat))).a5),.int .u64 ((s1.set ((IntKind.i64.wrap (n2.tdiv 64)).toNat) (IntKind.u64.wrap ((BitVec.ofInt IntKind.u64.bits s_e7 &&& ~~~ BitVec.ofInt IntKind.u64.bits (IntKind.u64.wrap (1 * 2 ^ (Nat.min ((IntKind.u64.wrap (n2)).tmod 64).toNat IntKind.u64.bits)))).toNat))).a6),.int .u64 ((s1.set ((IntKind.i64.wrap (n2.tdiv 64)).toNat) (IntKind.u64.wrap ((BitVec.ofInt IntKind.u64.bits s_e7 &&& ~~~ BitVec.ofInt IntKind.u64.bits (IntKind.u64.wrap (1 * 2 ^ (Nat.min ((IntKind.u64.wrap (n2)).tmod 64).toNat IntKind.u64.bits)))).toNat))).a7)]) (by simp) r r r r r hs_o8 r r (congrArg (fun l=>D.agg (l.map ZV)) (Ro s1 ((IntKind.i64.wrap (n2.tdiv 64)).toNat) (IntKind.u64.wrap ((BitVec.ofInt IntKind.u64.bits s_e7 &&& ~~~ BitVec.ofInt IntKind.u64.bits (IntKind.u64.wrap (1 * 2 ^ (Nat.min ((IntKind.u64.wrap (n2)).tmod 64).toNat IntKind.u64.bits)))).toNat))).symm) r r<|?_
   exact B

def AhW (b : OY) : D:=PD b
noncomputable def UU : Dw.Spec:=Pf [] (.ptr 8 160) Sp So (fun a=>Rl a) AhW noE
theorem Wo : Pd Tryz.prog 128 UU:=by
 refine fn2 1 (Pk (l:=[(139,Wp)]) (by simp [Aab])) Tryz.func128<|?_
 intro l1
 unfold Rl
 refine A 21 ?_
 refine lP (E:=fun (s : OY × Int) (g : Nat)=>[(3,.optr 7 g 0 0),(8,.sl (l1.map Pa)),(9,.int .i64 (l1.length : Int)),(10,.int .i64 s.2)]) (O:=fun s g=>[(7,some (g,⟨false,true,8,160,[.agg [.int .u64 s.1.a0,.int .u64 s.1.a1,.int .u64 s.1.a2,.int .u64 s.1.a3,.int .u64 s.1.a4,.int .u64 s.1.a5,.int .u64 s.1.a6,.int .u64 s.1.a7]]⟩))]) (body:=fun s=>Wn l1 s.1 s.2) (s:=((OY.mk 0 0 0 0 0 0 0 0),0)) _ ((hE ⟨rfl,r,r,r,trivial⟩ ⟨rfl,trivial⟩))<|?_
 rintro ⟨x2,x3⟩ v7x1 nn
 try dsimp only
 unfold Wn
 exact B

end Go.Proofs.YtnldnldmgceooaaGreatDoor
