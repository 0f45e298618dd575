/-
  Programs on typed data, and the proofs that the code does what they say; written by a program (dx.py).
-/
import Derived.Test.YtnldnldmgceooaaGreatDoorProg
import Derived.Test.YtnldnldmgceooaaGreatDoorDd
import Derived.KernelRfl
import Derived.Test.YtnldnldmgceooaaGreatDoorSh
import Derived.Test.YtnldnldmgceooaaGreatDoorDxP
import Derived.Test.YtnldnldmgceooaaGreatDoorDxF1
import Derived.Test.YtnldnldmgceooaaGreatDoorDxF2
import Derived.Test.YtnldnldmgceooaaGreatDoorDxF3
namespace Go.Proofs.YtnldnldmgceooaaGreatDoor
open Go Go.Dw Go.Proofs
set_option maxRecDepth 100000
set_option maxHeartbeats 4000000
open Go.Dw renaming QS → bD,PM → cK,AcP → bS,AaT → cG,Aer → aP,Ub → sE,Abv → iO,Aco → cD,AeL → xL,Aaf → hE,Aes → lP,AaV → sC,Ze → bC,AmD → mF,rf → r
def AkH (b : (List Int)) : D:=.sl (b.map Pa)
noncomputable def Afh : Dw.Spec:=Pe [] (.row 1 3) Tz Ty (fun a=>ZA a) AkH noE
theorem Ajw : Pd Tryz.prog 48 Afh:=by
 refine fn2 1 (Pk (l:=[(72,Aeo)]) (by simp [Aiv])) Tryz.func48<|?_
 intro s1
 unfold ZA
 refine A 17 ?_
 refine lP (E:=fun (s : (List Int) × Int) (g : Nat)=>[(0,.sl (s1.map Pn)),(3,.osl 3 g 0 s.1.length),(4,.int .i64 s.2)]) (O:=fun s g=>[(3,some (g,⟨false,false,1,3,s.1.map Pa⟩))]) (body:=fun s=>YY s1 s.1 s.2) (s:=(([] : List Int),0)) _ ((hE ⟨rfl,r,r,trivial⟩ ⟨rfl,trivial⟩))<|?_
 rintro ⟨out2,i3⟩ v3x1 nn
 try dsimp only
 unfold YY
 refine A 9 ?_
 refine cD r ?_ ?_
 ·refine A 2 ?_
  refine bC (E:=fun (s : (List Int)) (g : Nat)=>[(0,.sl (s1.map Pn)),(3,.osl 3 g 0 s.length),(4,.int .i64 i3)]) (O:=fun s g=>[(3,some (g,⟨false,false,1,3,s.map Pa⟩))]) (j:=fun s=>Za i3 s) ?_ ?_
  ·refine A 7 ?_
   refine bC (E:=fun (s : Int) (g : Nat)=>[(0,.sl (s1.map Pn)),(3,.osl 3 g 0 out2.length),(4,.int .i64 i3),(5,.int .i64 s)]) (O:=fun _ g=>[(3,some (g,⟨false,false,1,3,out2.map Pa⟩))]) (j:=fun s=>Ui out2 i3 s) ?_ ?_
   ·refine lP (E:=fun (s : Int) (g : Nat)=>[(0,.sl (s1.map Pn)),(3,.osl 3 g 0 out2.length),(4,.int .i64 i3),(5,.int .i64 s)]) (O:=fun _ g=>[(3,some (g,⟨false,false,1,3,out2.map Pa⟩))]) (body:=fun s=>YZ s1 i3 out2 s) (s:=(out2.length : Int)) _ ((hE ⟨rfl,r,r,r,trivial⟩ ⟨rfl,trivial⟩))<|?_
    rintro k6 v3x2 nn
    try dsimp only
    unfold YZ
    exact B
   ·rintro k5 v3x3 nn
    try dsimp only
    unfold Ui
    refine A 4 ?_
    refine cK fun hq=>Abt (l:=out2) r r r r r r hq<|cK fun hq=>aP (([] : List Int)) (out2.take k5.toNat) Pa r r r r r r r (by first | (simp; done) | (simp; omega)) (by simp [List.map_take]) r r (by simp) r (fun _=>r) r hq<|?_
    refine A 7 ?_
    refine cK fun hq=>aP (([] : List Int) ++ (out2.take k5.toNat)) (([i3] : List Int)) Pa r r r r r r r (by simp) (TD _ _ r) r r (by simp) (Sv _ _ r) (fun _=>r) r hq<|?_
    refine A 2 ?_
    refine cK fun hq=>Zd (l:=out2) r r r r r r hq<|cK fun hq=>aP ((([] : List Int) ++ (out2.take k5.toNat)) ++ ([i3] : List Int)) (out2.drop k5.toNat) Pa r r r r r r r (by first | (simp; done) | (simp; omega)) (AcO _ _ _) r r (by simp) (Sv _ _ r) (fun _=>r) r hq<|?_
    exact B
  ·rintro out4 v3x4 nn
   try dsimp only
   unfold Za
   exact B
 ·exact B

def Ake (b : Bool) : D:=.bool b
noncomputable def ZI : Dw.Spec:=Pe [] .ground Ur Uq (fun a=>QM a) Ake noE
theorem Abq : Pd Tryz.prog 38 ZI:=by
 refine fn2 1 (Pk (l:=[(47,WQ)]) (by simp [Ys])) Tryz.func38<|?_
 intro a
 unfold QM
 exact B

def Sq (a : Pj × Pj) : List D:=[Qc a.1,Qc a.2]
def Sp (ds : List D) : Pj × Pj:=(Tp (ds.getD 0 .top),Tp (ds.getD 1 .top))
theorem Aht (a : Pj × Pj) : Sp (Sq a) = a:=by simp [Sp,Sq]
instance : Px Sq Sp:=⟨Aht⟩
def Aif (b : Bool) : D:=.bool b
noncomputable def Adl : Dw.Spec:=Pe [] .ground Sq Sp (fun a=>UJ a.1 a.2) Aif noE
theorem Ahu : Pd Tryz.prog 16 Adl:=by
 refine fn2 2 (Pk (l:=[(38,ZI)]) (by simp [Abq])) Tryz.func16<|?_
 intro a
 unfold UJ
 exact B

def Yv (a : (List Pj) × Pj) : List D:=[.sl (a.1.map Qc),Qc a.2]
def Yu (ds : List D) : (List Pj) × Pj:=((uL Tp) (ds.getD 0 .top),Tp (ds.getD 1 .top))
theorem Akg (a : (List Pj) × Pj) : Yu (Yv a) = a:=by simp [Yu,Yv,PV (u:=Tp) (en:=Qc) AgV]
instance : Px Yv Yu:=⟨Akg⟩
def Alx (b : Bool) : D:=.bool b
noncomputable def AfS : Dw.Spec:=Pe [] .ground Yv Yu (fun a=>AaG a.1 a.2) Alx noE
theorem Akh : Pd Tryz.prog 73 AfS:=by
 refine fn2 2 (Pk (l:=[(16,Adl)]) (by simp [Ahu])) Tryz.func73<|?_
 rintro ⟨used1,x2⟩
 unfold AaG
 refine A 13 ?_
 refine lP (E:=fun (s : Int) (g : Nat)=>[(0,.sl (used1.map Qc)),(3,.optr 3 g 0 0),(5,.int .i64 s)]) (O:=fun _ g=>[(3,some (g,⟨false,true,2,56,[.agg [.int .i64 x2.Off,.int .i64 x2.Size]]⟩))]) (body:=fun s=>ZJ used1 x2 s) (s:=0) _ ((hE ⟨rfl,r,r,trivial⟩ ⟨rfl,trivial⟩))<|?_
 rintro i3 v3x1 nn
 try dsimp only
 unfold ZJ
 exact B

def ZG (a : (List Pj) × Int × Int × Int) : List D:=[.sl (a.1.map Qc),.int .i64 a.2.1,.int .i64 a.2.2.1,.int .i64 a.2.2.2]
def ZF (ds : List D) : (List Pj) × Int × Int × Int:=((uL Tp) (ds.getD 0 .top),uI (ds.getD 1 .top),uI (ds.getD 2 .top),uI (ds.getD 3 .top))
theorem Alv (a : (List Pj) × Int × Int × Int) : ZF (ZG a) = a:=by simp [ZF,ZG,uI,PV (u:=Tp) (en:=Qc) AgV]
instance : Px ZG ZF:=⟨Alv⟩
def Amm (b : Int × Int) : D:=.tup [.int .i64 b.1,.int .i64 b.2]
noncomputable def AgR : Dw.Spec:=Pe [] .ground ZG ZF (fun a=>AbF a.1 a.2.1 a.2.2.1 a.2.2.2) Amm noE
theorem Alw : Pd Tryz.prog 49 AgR:=by
 refine fn2 4 (Pk (l:=[(47,WQ),(58,ZH),(38,ZI),(33,Aci),(73,AfS)]) (by simp [Ys,Abp,Abq,AdL,Akh])) Tryz.func49<|?_
 rintro ⟨used1,from2,size3,align4⟩
 unfold AbF
 refine A 6 ?_
 refine sC (E:=fun (_s : Unit) (_g : Unit)=>[(0,.sl (used1.map Qc)),(1,.int .i64 from2),(2,.int .i64 size3),(3,.int .i64 align4)]) (O:=fun _ _=>[]) (j:=fun _=>AaE used1 align4 size3 from2) ?_ ?_
 ·exact B
 ·rintro ⟨⟩ ⟨⟩ nn
  try dsimp only
  unfold AaE
  refine A 7 ?_
  refine lP (E:=fun (s : Int) (_g : Unit)=>[(0,.sl (used1.map Qc)),(1,.int .i64 from2),(2,.int .i64 size3),(3,.int .i64 align4),(10,.int .i64 s)]) (O:=fun _ _=>[]) (body:=fun s=>AaC used1 align4 size3 from2 s) (s:=0) () ((hE ⟨rfl,r,r,r,r,trivial⟩ trivial))<|?_
  rintro i8 ⟨⟩ nn
  try dsimp only
  unfold AaC
  refine A 9 ?_
  refine cD r ?_ ?_
  ·exact B
  ·refine A 18 ?_
   refine lP (E:=fun (s : Int × Bool × Int) (_g : Unit)=>[(0,.sl (used1.map Qc)),(1,.int .i64 from2),(2,.int .i64 size3),(3,.int .i64 align4),(11,.int .i64 s.1),(12,.bool s.2.1),(13,.int .i64 s.2.2)]) (O:=fun _ _=>[]) (body:=fun s=>AaD used1 align4 size3 from2 s.1 s.2.1 s.2.2) (s:=(0,false,(-1))) () ((hE ⟨rfl,r,r,r,r,r,r,trivial⟩ trivial))<|?_
   rintro ⟨best11,found12,i13⟩ ⟨⟩ nn
   try dsimp only
   unfold AaD
   refine A 9 ?_
   refine cD r ?_ ?_
   ·refine A 10 ?_
    refine sC (E:=fun (s : Int) (_g : Unit)=>[(0,.sl (used1.map Qc)),(1,.int .i64 from2),(2,.int .i64 size3),(3,.int .i64 align4),(11,.int .i64 best11),(12,.bool found12),(13,.int .i64 i13),(14,.int .i64 s)]) (O:=fun _ _=>[]) (j:=fun s=>VV align4 size3 used1 found12 i13 best11 s) ?_ ?_
    ·exact B
    ·rintro at14 ⟨⟩ nn
     try dsimp only
     unfold VV
     exact B
   ·exact B

def WG (a : (List Po) × (List (List Int)) × Int) : List D:=[.sl (a.1.map Pn),.sl (a.2.1.map (eL Pa)),.int .i64 a.2.2]
def WE (ds : List D) : (List Po) × (List (List Int)) × Int:=((uL XI) (ds.getD 0 .top),(uL (uL uI)) (ds.getD 1 .top),uI (ds.getD 2 .top))
theorem Ais (a : (List Po) × (List (List Int)) × Int) : WE (WG a) = a:=by simp [WE,WG,uI,PV (u:=XI) (en:=Pn) Aev,PV (u:=(uL uI)) (en:=(eL Pa)) (PV (u:=uI) (en:=Pa) (fun _=>rfl))]
instance : Px WG WE:=⟨Ais⟩
def Ajv (b : (List Int) × Int) : D:=.tup [.sl (b.1.map Pa),.int .i64 b.2]
noncomputable def Aen : Dw.Spec:=Pe [] .val WG WE (fun a=>Yb a.1 a.2.1 a.2.2) Ajv noE
theorem Ait : Pd Tryz.prog 23 Aen:=by
 refine fn2 3 (Pk (l:=[(45,AbM),(46,AeZ),(47,WQ),(48,Afh),(15,Xe),(49,AgR)]) (by simp [Aeg,Aji,Ys,Ajw,XZ,Alw])) Tryz.func23<|?_
 rintro ⟨s1,g2,from3⟩
 unfold Yb
 refine A 10 ?_
 refine bD fun r4 hr4=>?_
 refine A 10 ?_
 refine cD r ?_ ?_
 ·exact B
 ·refine A 2 ?_
  refine sC (E:=fun (_s : Unit) (_g : Unit)=>[(0,.sl (s1.map Pn)),(1,.sl (g2.map (eL Pa))),(2,.int .i64 from3)]) (O:=fun _ _=>[]) (j:=fun _=>XE s1 g2 from3) ?_ ?_
  ·exact B
  ·rintro ⟨⟩ ⟨⟩ nn
   try dsimp only
   unfold XE
   refine A 15 ?_
   refine bD fun r7 hr7=>?_
   refine A 11 ?_
   refine lP (E:=fun (s : (List Bool) × (List Int) × Int) (g : Nat × Nat × Nat)=>[(0,.sl (s1.map Pn)),(1,.sl (g2.map (eL Pa))),(2,.int .i64 from3),(9,.osl 9 g.1 0 s.2.1.length),(10,.osl 10 g.2.1 0 s.1.length),(11,.osl 11 g.2.2 0 r7.length),(12,.int .i64 s.2.2)]) (O:=fun s g=>[(9,some (g.1,⟨false,false,1,3,s.2.1.map Pa⟩)),(10,some (g.2.1,⟨false,false,1,4,s.1.map D.bool⟩)),(11,some (g.2.2,⟨false,false,1,3,r7.map Pa⟩))]) (body:=fun s=>XC r7 s1 g2 from3 s.1 s.2.1 s.2.2) (s:=(List.replicate (s1.length : Int).toNat false,List.replicate (s1.length : Int).toNat (0 : Int),0)) (_,_,_) ((hE ⟨rfl,r,r,r,r,r,r,trivial⟩ ⟨rfl,r,r,trivial⟩))<|?_
   rintro ⟨done8,off9,i10⟩ ⟨v9x2,v10x2,v11x2⟩ nn
   try dsimp only
   unfold XC
   refine A 9 ?_
   refine cD r ?_ ?_
   ·refine A 2 ?_
    refine bC (E:=fun (s : (List Bool) × (List Int)) (g : Nat × Nat × Nat)=>[(0,.sl (s1.map Pn)),(1,.sl (g2.map (eL Pa))),(2,.int .i64 from3),(9,.osl 9 g.1 0 s.2.length),(10,.osl 10 g.2.1 0 s.1.length),(11,.osl 11 g.2.2 0 r7.length),(12,.int .i64 i10)]) (O:=fun s g=>[(9,some (g.1,⟨false,false,1,3,s.2.map Pa⟩)),(10,some (g.2.1,⟨false,false,1,4,s.1.map D.bool⟩)),(11,some (g.2.2,⟨false,false,1,3,r7.map Pa⟩))]) (j:=fun s=>XF i10 s.1 s.2) ?_ ?_
    ·refine A 5 ?_
     refine bD fun order_e13 horder_e13=>?_
     refine A 16 ?_
     refine lP (E:=fun (s : (List Pj) × Int) (g : Nat × Nat × Nat × Nat)=>[(0,.sl (s1.map Pn)),(1,.sl (g2.map (eL Pa))),(2,.int .i64 from3),(9,.osl 9 g.1 0 off9.length),(10,.osl 10 g.2.1 0 done8.length),(11,.osl 11 g.2.2.1 0 r7.length),(12,.int .i64 i10),(13,.int .i64 order_e13),(14,.osl 14 g.2.2.2 0 s.1.length),(15,.int .i64 s.2)]) (O:=fun s g=>[(9,some (g.1,⟨false,false,1,3,off9.map Pa⟩)),(10,some (g.2.1,⟨false,false,1,4,done8.map D.bool⟩)),(11,some (g.2.2.1,⟨false,false,1,3,r7.map Pa⟩)),(14,some (g.2.2.2,⟨false,false,2,56,s.1.map Qc⟩))]) (body:=fun s=>XD s1 done8 g2 order_e13 off9 from3 i10 s.1 s.2) (s:=(([] : List Pj),0)) (_,_,_,_) ((hE ⟨rfl,r,r,r,r,r,r,r,r,r,trivial⟩ ⟨rfl,r,r,r,trivial⟩))<|?_
     rintro ⟨used14,y15⟩ ⟨v9x3,v10x3,v11x3,v14x3⟩ nn
     try dsimp only
     unfold XD
     refine A 9 ?_
     refine cD r ?_ ?_
     ·refine A 4 ?_
      refine sC (E:=fun (s : Bool) (g : Nat × Nat × Nat × Nat)=>[(0,.sl (s1.map Pn)),(1,.sl (g2.map (eL Pa))),(2,.int .i64 from3),(9,.osl 9 g.1 0 off9.length),(10,.osl 10 g.2.1 0 done8.length),(11,.osl 11 g.2.2.1 0 r7.length),(12,.int .i64 i10),(13,.int .i64 order_e13),(14,.osl 14 g.2.2.2 0 used14.length),(15,.int .i64 y15),(68,.bool s)]) (O:=fun _ g=>[(9,some (g.1,⟨false,false,1,3,off9.map Pa⟩)),(10,some (g.2.1,⟨false,false,1,4,done8.map D.bool⟩)),(11,some (g.2.2.1,⟨false,false,1,3,r7.map Pa⟩)),(14,some (g.2.2.2,⟨false,false,2,56,used14.map Qc⟩))]) (j:=fun s=>TC y15 off9 s1 used14 s) ?_ ?_
      ·exact B
      ·rintro x16 ⟨v9x4,v10x4,v11x4,v14x4⟩ nn
       try dsimp only
       unfold TC
       refine cD r ?_ ?_
       ·refine A 5 ?_
        refine bD fun off_e20 hoff_e20=>?_
        refine A 3 ?_
        refine bD fun x_x21 hx_x21=>?_
        refine A 4 ?_
        refine bS ([(Pj.mk off_e20 x_x21.Size)] : List Pj) Qc r r r (by simp) r r r<|?_
        exact B
       ·exact B
     ·exact B
    ·rintro ⟨done11,off12⟩ ⟨v9x5,v10x5,v11x5⟩ nn
     try dsimp only
     unfold XF
     exact B
   ·exact B

def TR (a : Ph × Int × OX) : List D:=[Rv a.1,.int .i64 a.2.1,PN a.2.2]
def TQ (ds : List D) : Ph × Int × OX:=(Vy (ds.getD 0 .top),uI (ds.getD 1 .top),SI (ds.getD 2 .top))
theorem AhD (a : Ph × Int × OX) : TQ (TR a) = a:=by simp [TQ,TR,uI]
instance : Px TR TQ:=⟨AhD⟩
def Adr (b : Ph) : D:=Rv b
noncomputable def Ads : Dw.Spec:=Pe [] .val TR TQ (fun a=>ZN a.1 a.2.1 a.2.2) Adr noE
theorem AhE : Pd Tryz.prog 105 Ads:=by
 refine fn2 3 (Pv) Tryz.func105<|?_
 rintro ⟨p1,i2,f3⟩
 unfold ZN
 refine A 11 ?_
 refine cK fun hq=>aP (([] : List OX)) (p1.Funcs) PN r r r r r r r (by simp) r r r (by simp) r (fun _=>r) r hq<|?_
 refine A 8 ?_
 refine cK fun hq=>iO (l:=([] : List OX) ++ p1.Funcs) (en:=PN) r r r r r hq<|bD fun l_o4 hl_o4=>sE (l:=([] : List OX) ++ p1.Funcs) (en:=PN) (q':=f3) r r r r r r r (by simp) hl_o4 r r r r r<|?_
 refine A 10 ?_
 refine UO (b:=(Ph.mk ((([] : List OX) ++ p1.Funcs).set i2.toNat f3))) r ?_ r r ?_ (by first | rfl | (simp only; rfl) | (simp only; rfl) | (simp only [OV,OW]; rfl) | simp [Adr,Rv])
 all_goals first|(simp;done)|(simp;omega)|rfl|(simp [PG,PE];done)

def AlJ (b : Ph) : D:=Rv b
noncomputable def Agb : Dw.Spec:=Pe [] .val TR TQ (fun a=>Acj a.1 a.2.1 a.2.2) AlJ noE
theorem AkI : Pd Tryz.prog 81 Agb:=by
 refine fn2 3 (Pk (l:=[(105,Ads)]) (by simp [AhE])) Tryz.func81<|?_
 intro a
 unfold Acj
 exact B

def ZR (a : (List Po) × (List Int)) : List D:=[.sl (a.1.map Pn),.sl (a.2.map Pa)]
def ZQ (ds : List D) : (List Po) × (List Int):=((uL XI) (ds.getD 0 .top),(uL uI) (ds.getD 1 .top))
theorem AlG (a : (List Po) × (List Int)) : ZQ (ZR a) = a:=by simp [ZQ,ZR,PV (u:=XI) (en:=Pn) Aev,PV (u:=uI) (en:=Pa) (fun _=>rfl)]
instance : Px ZR ZQ:=⟨AlG⟩
def Amq (b : Int) : D:=.int .i64 b
noncomputable def AgT : Dw.Spec:=Pe [] .ground ZR ZQ (fun a=>AbH a.1 a.2) Amq noE
theorem AlH : Pd Tryz.prog 50 AgT:=by
 refine fn2 2 (Pv) Tryz.func50<|?_
 rintro ⟨s1,off2⟩
 unfold AbH
 refine A 17 ?_
 refine lP (E:=fun (s : Int × Int) (_g : Unit)=>[(0,.sl (s1.map Pn)),(1,.sl (off2.map Pa)),(5,.int .i64 s.1),(6,.int .i64 s.2)]) (O:=fun _ _=>[]) (body:=fun s=>AaP s1 off2 s.1 s.2) (s:=(0,0)) () ((hE ⟨rfl,r,r,r,trivial⟩ trivial))<|?_
 rintro ⟨n3,i4⟩ ⟨⟩ nn
 try dsimp only
 unfold AaP
 refine sC (E:=fun (_s : Unit) (_g : Unit)=>[(0,.sl (s1.map Pn)),(1,.sl (off2.map Pa)),(5,.int .i64 n3),(6,.int .i64 i4),(12,.int .i64 i4),(13,.sl (off2.map Pa)),(14,.int .i64 (off2.length : Int)),(15,.bool (decide (i4 < (off2.length : Int))))]) (O:=fun _ _=>[]) (j:=fun _=>AaQ off2 i4 s1 n3) ?_ ?_
 ·exact B
 ·rintro ⟨⟩ ⟨⟩ nn
  try dsimp only
  unfold AaQ
  exact B

def WK (a : Ph × Int × Int × (List Int)) : List D:=[Rv a.1,.int .i64 a.2.1,.int .i64 a.2.2.1,.sl (a.2.2.2.map Pa)]
def WJ (ds : List D) : Ph × Int × Int × (List Int):=(Vy (ds.getD 0 .top),uI (ds.getD 1 .top),uI (ds.getD 2 .top),(uL uI) (ds.getD 3 .top))
theorem Aiw (a : Ph × Int × Int × (List Int)) : WJ (WK a) = a:=by simp [WJ,WK,uI,PV (u:=uI) (en:=Pa) (fun _=>rfl)]
instance : Px WK WJ:=⟨Aiw⟩
def Uj (b : Pf × Int) : D:=.tup [Qh b.1,.int .i64 b.2]
noncomputable def Aep : Dw.Spec:=Pe [] .val WK WJ (fun a=>Yd a.1 a.2.1 a.2.2.1 a.2.2.2) Uj noE
theorem Aix : Pd Tryz.prog 25 Aep:=by
 refine fn2 4 (Pk (l:=[(38,ZI),(24,AaR),(50,AgT),(33,Aci)]) (by simp [Abq,AbR,AlH,AdL])) Tryz.func25<|?_
 rintro ⟨p1,i2,align3,off4⟩
 unfold Yd
 refine A 12 ?_
 refine bD fun x_x5 hx_x5=>?_
 refine A 16 ?_
 refine cD r ?_ ?_
 ·refine A 9 ?_
  refine Qw (b:=((Pf.mk 0 0 ([])),13)) r ?_ r r ?_ (by first | rfl | (simp only [OV]; rfl) | (simp only [OW]; rfl) | (simp only [OV,OW]; rfl) | simp [Uj,Qh]) (by decide)
  all_goals first|(simp;done)|(simp;omega)|rfl|(simp [PG,PE];done)
 ·refine A 9 ?_
  refine lP (E:=fun (s : Int) (g : Nat × Nat)=>[(1,.int .i64 i2),(2,.int .i64 align3),(3,.sl (off4.map Pa)),(4,.optr 4 g.1 0 0),(8,.optr 8 g.2 0 0),(10,.sl (x_x5.Slots.map Pn)),(11,.int .i64 s)]) (O:=fun _ g=>[(4,some (g.1,⟨false,true,1,26,[.agg [.sl (p1.Funcs.map PN)]]⟩)),(8,some (g.2,⟨false,true,3,32,[.agg [.int .i64 0,.int .i64 0,.nils]]⟩))]) (body:=fun s=>XG x_x5 off4 p1 i2 align3 s) (s:=0) (_,_) ((hE ⟨rfl,r,r,r,r,r,r,trivial⟩ ⟨rfl,r,trivial⟩))<|?_
  rintro k6 ⟨v4x1,v8x1⟩ nn
  try dsimp only
  unfold XG
  refine A 9 ?_
  refine cD r ?_ ?_
  ·refine A 8 ?_
   refine bD fun x_x7 hx_x7=>?_
   refine A 4 ?_
   refine bD fun x_x8 hx_x8=>?_
   refine A 4 ?_
   refine bD fun r9 hr9=>?_
   refine A 4 ?_
   refine cD r ?_ ?_
   ·refine A 13 ?_
    refine Qw (b:=((Pf.mk 0 0 ([])),13)) r ?_ r r ?_ (by first | rfl | (simp only [OV]; rfl) | (simp only [OW]; rfl) | (simp only [OV,OW]; rfl) | simp [Uj,Qh]) (by decide)
    all_goals first|(simp;done)|(simp;omega)|rfl|(simp [PG,PE];done)
   ·exact B
  ·refine A 9 ?_
   refine bD fun r10 hr10=>?_
   refine A 9 ?_
   refine bD fun r11 hr11=>?_
   refine A 3 ?_
   refine bD fun r12 hr12=>?_
   refine A 14 ?_
   refine Abe r ?_ ?_
   ·refine A 15 ?_
    refine Qw (b:=((Pf.mk 0 0 ([])),9)) r ?_ r r ?_ (by first | rfl | (simp only [OV]; rfl) | (simp only [OW]; rfl) | (simp only [OV,OW]; rfl) | simp [Uj,Qh]) (by decide)
    all_goals first|(simp;done)|(simp;omega)|rfl|(simp [PG,PE];done)
   ·refine A 5 ?_
    refine cD r ?_ ?_
    ·refine A 9 ?_
     refine Qw (b:=((Pf.mk 0 0 ([])),9)) r ?_ r r ?_ (by first | rfl | (simp only [OV]; rfl) | (simp only [OW]; rfl) | (simp only [OV,OW]; rfl) | simp [Uj,Qh]) (by decide)
     all_goals first|(simp;done)|(simp;omega)|rfl|(simp [PG,PE];done)
    ·refine A 7 ?_
     refine cK fun hq=>aP (([] : List Int)) (off4) Pa r r r r r r r (by simp) r r r (by simp) r (fun _=>r) r hq<|?_
     refine A 6 ?_
     refine Qw (b:=((Pf.mk r10 r12.1 (([] : List Int) ++ off4)),0)) r ?_ r r ?_ (by first | rfl | (simp only [OV]; rfl) | (simp only [OW]; rfl) | (simp only [OV,OW]; rfl) | simp [Uj,Qh]) (by decide)
     all_goals first|(simp;done)|(simp;omega)|rfl|(simp [PG,PE];done)

def AaS (b : TX) : D:=AbA b
noncomputable def Adu : Dw.Spec:=Pe [] .val UH UG (fun a=>WY a.1 a.2) AaS noE
theorem AhH : Pd Tryz.prog 56 Adu:=by
 refine fn2 2 (Pk (l:=[(17,WT),(77,Afa),(78,Adq),(79,AfY),(80,Aff),(22,Aek),(24,AaR),(23,Aen),(81,Agb),(29,AbO),(25,Aep)]) (by simp [YB,Ajj,AhC,AkD,Ajr,Aim,AbR,Ait,AkI,Aei,Aix])) Tryz.func56<|?_
 rintro ⟨p1,i2⟩
 unfold WY
 refine A 11 ?_
 refine bD fun x_x3 hx_x3=>?_
 refine A 9 ?_
 refine bD fun r4 hr4=>?_
 refine A 11 ?_
 refine bD fun r5 hr5=>?_
 refine A 12 ?_
 refine bD fun r6 hr6=>?_
 refine A 14 ?_
 refine bD fun r7 hr7=>?_
 refine A 11 ?_
 refine bD fun r8 hr8=>?_
 refine A 12 ?_
 refine bD fun r9 hr9=>?_
 refine A 10 ?_
 refine bD fun r10 hr10=>?_
 refine A 15 ?_
 refine bD fun r11 hr11=>?_
 refine A 1 ?_
 refine bD fun r12 hr12=>?_
 refine A 15 ?_
 refine cD r ?_ ?_
 ·refine A 8 ?_
  refine UO (b:=(TX.mk r4 (Pw.mk r6 r7) r9 (Pf.mk 0 0 ([])))) r ?_ r r ?_ (by first | rfl | (simp only [OV]; rfl) | (simp only [OW]; rfl) | (simp only [OV,OW]; rfl) | simp [AaS,AbA])
  all_goals first|(simp;done)|(simp;omega)|rfl|(simp [PG,PE];done)
 ·refine A 7 ?_
  refine bD fun r13 hr13=>?_
  refine A 3 ?_
  refine bD fun r14 hr14=>?_
  refine A 2 ?_
  refine bD fun r15 hr15=>?_
  refine A 15 ?_
  refine UO (b:=(TX.mk r4 (Pw.mk r6 r7) r9 r15.1)) r ?_ r r ?_ (by first | rfl | (simp only [OV]; rfl) | (simp only [OW]; rfl) | (simp only [OV,OW]; rfl) | simp [AaS,AbA])
  all_goals first|(simp;done)|(simp;omega)|rfl|(simp [PG,PE];done)

def Ts (a : Mk × Ph × Int × Int) : List D:=[Pz a.1,Rv a.2.1,.int .i64 a.2.2.1,.int .i64 a.2.2.2]
def Tq (ds : List D) : Mk × Ph × Int × Int:=(Sa (ds.getD 0 .top),Vy (ds.getD 1 .top),uI (ds.getD 2 .top),uI (ds.getD 3 .top))
theorem AeD (a : Mk × Ph × Int × Int) : Tq (Ts a) = a:=by simp [Tq,Ts,uI]
instance : Px Ts Tq:=⟨AeD⟩
def Aba (b : Pf × Mk) : D:=Qh b.1
def Afj (b : Pf × Mk) : List D:=[Pz b.2]
noncomputable def Abb : Dw.Spec:=Pe [(0,(2,99))] .val Ts Tq (fun a=>TL a.1 a.2.1 a.2.2.1 a.2.2.2) Aba Afj
theorem AeE : Pd Tryz.prog 31 Abb:=by
 refine fn2 4 (Pk (l:=[(11,AcK),(28,PL),(56,Adu),(55,ZT)]) (by simp [AgG,PO,AhH,AbS])) Tryz.func31<|?_
 rintro ⟨c1,p2,i3,align4⟩
 unfold TL
 refine A 11 ?_
 refine bD fun r5 hr5=>?_
 refine A 9 ?_
 refine sC (E:=fun (_s : (List Int) × Int × Int × Int × (List Int)) (g : Nat × Nat)=>[(0,.optr 8192 0 0 0),(8,.optr 8 g.1 0 0),(9,.optr 9 g.2 0 0)]) (O:=fun s g=>[(8,some (g.1,⟨false,true,3,32,[.agg [.int .i64 0,.int .i64 0,.nils]]⟩)),(9,some (g.2,⟨false,true,3,32,[.agg [.int .i64 s.2.2.1,.int .i64 s.2.2.2.1,.sl (s.2.2.2.2.map Pa)]]⟩)),(8192,some (0,⟨false,true,2,99,[.agg [.sl (s.1.map eU8),.int .i64 s.2.1]]⟩))]) (j:=fun s=>QD s.1 s.2.1 s.2.2.1 s.2.2.2.1 s.2.2.2.2) ?_ ?_
 ·exact B
 ·rintro ⟨c6,c7,y8,y9,y10⟩ ⟨v8x1,v9x1⟩ nn
  try dsimp only
  unfold QD
  refine A 4 ?_
  refine cK fun hq=>aP (([] : List Int)) (y10) Pa r r r r r r r (by simp) r r r (by simp) r (fun _=>r) r hq<|?_
  refine A 8 ?_
  refine bD fun r13 hr13=>?_
  refine A 5 ?_
  refine lP (E:=fun (s : (List Int) × Int × (List Int) × Int × Int × Int) (g : Nat × Nat × Nat)=>[(0,.optr 8192 0 0 0),(8,.optr 8 g.1 0 0),(9,.optr 9 g.2.1 0 0),(12,.int .i64 s.2.2.2.2.2)]) (O:=fun s g=>[(8,some (g.1,⟨false,true,3,32,[.agg [.int .i64 0,.int .i64 0,.nils]]⟩)),(9,some (g.2.1,⟨false,true,3,32,[.agg [.int .i64 s.2.2.2.1,.int .i64 s.2.2.2.2.1,.osl 39 g.2.2 0 s.2.2.1.length]]⟩)),(39,some (g.2.2,⟨false,false,1,3,s.2.2.1.map Pa⟩)),(8192,some (0,⟨false,true,2,99,[.agg [.sl (s.1.map eU8),.int .i64 s.2.1]]⟩))]) (body:=fun s=>TT s.1 s.2.1 s.2.2.1 s.2.2.2.1 s.2.2.2.2.1 s.2.2.2.2.2) (s:=(r13.2.list,r13.2.at_,([] : List Int) ++ y10,y8,y9,r13.1)) (_,_,_) ((hE ⟨rfl,r,r,r,trivial⟩ ⟨rfl,r,r,r,trivial⟩))<|?_
  rintro ⟨c14,c15,x16,y17,y18,n19⟩ ⟨v8x2,v9x2,v39x2⟩ nn
  try dsimp only
  unfold TT
  refine A 7 ?_
  refine cD r ?_ ?_
  ·refine A 11 ?_
   refine bD fun r20 hr20=>?_
   refine A 7 ?_
   refine bD fun r21 hr21=>?_
   refine A 4 ?_
   refine sC (E:=fun (s : Bool) (g : Nat × Nat × Nat)=>[(0,.optr 8192 0 0 0),(8,.optr 8 g.1 0 0),(9,.optr 9 g.2.1 0 0),(12,.int .i64 n19),(13,.int .i64 r20.1),(54,.int .i64 r21.1),(55,.bool s)]) (O:=fun _ g=>[(8,some (g.1,⟨false,true,3,32,[.agg [.int .i64 0,.int .i64 0,.nils]]⟩)),(9,some (g.2.1,⟨false,true,3,32,[.agg [.int .i64 y17,.int .i64 y18,.osl 39 g.2.2 0 x16.length]]⟩)),(39,some (g.2.2,⟨false,false,1,3,x16.map Pa⟩)),(8192,some (0,⟨false,true,2,99,[.agg [.sl (r21.2.list.map eU8),.int .i64 r21.2.at_]]⟩))]) (j:=fun s=>QE r20 x16 r21 y17 y18 n19 s) ?_ ?_
   ·exact B
   ·rintro x22 ⟨v8x3,v9x3,v39x3⟩ nn
    try dsimp only
    unfold QE
    refine cD r ?_ ?_
    ·refine A 9 ?_
     refine cD r ?_ ?_
     ·refine A 7 ?_
      refine bD fun r23 hr23=>?_
      refine A 4 ?_
      refine bD fun x_o24 hx_o24=>?_
      refine A 10 ?_
      exact xL (s:=(r23.2.list,r23.2.at_,x16.set r20.1.toNat (IntKind.i64.wrap (y17 + (IntKind.i64.wrap (8 * r23.1)))),y17,y18,IntKind.i64.wrap (n19 - 1))) (_,_,_) ((hE ⟨rfl,r,r,r,trivial⟩ ⟨rfl,(Eq.trans (b:=some (_,⟨false,true,3,32,[.agg [.int .i64 y17,.int .i64 y18,.osl 39 _ 0 x16.length]]⟩)) r (by simp)),r,r,trivial⟩))
     ·exact B
    ·refine sC (E:=fun (s : Bool) (g : Nat × Nat × Nat)=>[(0,.optr 8192 0 0 0),(8,.optr 8 g.1 0 0),(9,.optr 9 g.2.1 0 0),(12,.int .i64 n19),(13,.int .i64 r20.1),(54,.int .i64 r21.1),(74,.bool s)]) (O:=fun _ g=>[(8,some (g.1,⟨false,true,3,32,[.agg [.int .i64 0,.int .i64 0,.nils]]⟩)),(9,some (g.2.1,⟨false,true,3,32,[.agg [.int .i64 y17,.int .i64 y18,.osl 39 g.2.2 0 x16.length]]⟩)),(39,some (g.2.2,⟨false,false,1,3,x16.map Pa⟩)),(8192,some (0,⟨false,true,2,99,[.agg [.sl (r21.2.list.map eU8),.int .i64 r21.2.at_]]⟩))]) (j:=fun s=>Rn r20 x16 r21 y17 y18 n19 s) ?_ ?_
     ·exact B
     ·rintro x25 ⟨v8x4,v9x4,v39x4⟩ nn
      try dsimp only
      unfold Rn
      refine cD r ?_ ?_
      ·refine A 9 ?_
       refine cD r ?_ ?_
       ·refine A 10 ?_
        refine bD fun r26 hr26=>?_
        refine A 2 ?_
        refine bD fun x_e27 hx_e27=>?_
        refine A 2 ?_
        refine bD fun x_o28 hx_o28=>?_
        refine A 10 ?_
        exact xL (s:=(r26.2.list,r26.2.at_,x16.set r20.1.toNat x_e27,y17,y18,IntKind.i64.wrap (n19 - 1))) (_,_,_) ((hE ⟨rfl,r,r,r,trivial⟩ ⟨rfl,(Eq.trans (b:=some (_,⟨false,true,3,32,[.agg [.int .i64 y17,.int .i64 y18,.osl 39 _ 0 x16.length]]⟩)) r (by simp)),r,r,trivial⟩))
       ·exact B
      ·refine A 6 ?_
       refine cD r ?_ ?_
       ·exact B
       ·refine A 6 ?_
        refine cD r ?_ ?_
        ·refine sC (E:=fun (s : (List Int) × Int × Bool) (g : Nat × Nat × Nat)=>[(0,.optr 8192 0 0 0),(8,.optr 8 g.1 0 0),(9,.optr 9 g.2.1 0 0),(12,.int .i64 n19),(13,.int .i64 r20.1),(116,.bool s.2.2)]) (O:=fun s g=>[(8,some (g.1,⟨false,true,3,32,[.agg [.int .i64 0,.int .i64 0,.nils]]⟩)),(9,some (g.2.1,⟨false,true,3,32,[.agg [.int .i64 y17,.int .i64 y18,.osl 39 g.2.2 0 x16.length]]⟩)),(39,some (g.2.2,⟨false,false,1,3,x16.map Pa⟩)),(8192,some (0,⟨false,true,2,99,[.agg [.sl (s.1.map eU8),.int .i64 s.2.1]]⟩))]) (j:=fun s=>Ro r20 x16 y17 y18 n19 s.1 s.2.1 s.2.2) ?_ ?_
         ·exact B
         ·rintro ⟨c30,c31,x32⟩ ⟨v8x5,v9x5,v39x5⟩ nn
          try dsimp only
          unfold Ro
          refine cD r ?_ ?_
          ·refine A 5 ?_
           refine bD fun r34 hr34=>?_
           refine A 2 ?_
           refine bD fun x_o35 hx_o35=>?_
           refine A 10 ?_
           exact xL (s:=(r34.2.list,r34.2.at_,x16.set r20.1.toNat r34.1,y17,y18,IntKind.i64.wrap (n19 - 1))) (_,_,_) ((hE ⟨rfl,r,r,r,trivial⟩ ⟨rfl,(Eq.trans (b:=some (_,⟨false,true,3,32,[.agg [.int .i64 y17,.int .i64 y18,.osl 39 _ 0 x16.length]]⟩)) r (by simp)),r,r,trivial⟩))
          ·exact B
        ·refine A 6 ?_
         refine cD r ?_ ?_
         ·refine A 3 ?_
          refine bD fun r36 hr36=>?_
          refine A 10 ?_
          refine cD r ?_ ?_
          ·exact B
          ·refine A 6 ?_
           refine cD r ?_ ?_
           ·exact B
           ·refine A 6 ?_
            refine cD r ?_ ?_
            ·refine A 4 ?_
             refine bD fun r39 hr39=>?_
             refine A 15 ?_
             exact xL (s:=(r39.2.list,r39.2.at_,x16 ++ ([r39.1] : List Int),y17,y18,IntKind.i64.wrap (n19 - 1))) (_,_,_) ((Ahl (E1:=[(0,.optr 8192 0 0 0),(8,.optr 8 _ 0 0),(9,.optr 9 _ 0 0),(12,.int .i64 (IntKind.i64.wrap (n19 - 1)))]) (O1:=[(8,some (_,⟨false,true,3,32,[.agg [.int .i64 0,.int .i64 0,.nils]]⟩)),(9,some (_,⟨false,true,3,32,[.agg [.int .i64 y17,.int .i64 y18,.osl 144 _ 0 ((x16 ++ ([r39.1] : List Int)).length)]]⟩)),(144,some (_,⟨false,false,1,3,(x16 ++ ([r39.1] : List Int)).map Pa⟩)),(8192,some (0,⟨false,true,2,99,[.agg [.sl (r39.2.list.map eU8),.int .i64 r39.2.at_]]⟩))]) (hE ⟨rfl,r,r,r,trivial⟩ ⟨rfl,r,r,r,trivial⟩) (fun _=>Ahk (fun g=>bif Nat.beq g 144 then 39 else g) (by rfl) (hE ⟨rfl,r,r,r,trivial⟩ ⟨rfl,r,r,r,trivial⟩))))
            ·exact B
         ·exact B
  ·refine A 12 ?_
   refine UO (b:=((Pf.mk y17 y18 x16),(Mk.mk c14 c15))) r ?_ r r ?_ (by first | rfl | (simp only [OV]; rfl) | (simp only [OW]; rfl) | (simp only [OV,OW]; rfl) | simp [Aba,Qh])
   all_goals first|(simp;done)|(simp;omega)|rfl|(simp [PG,PE];done)

def Xq (a : (List Int)) : List D:=[.sl (a.map eU8)]
def Xp (ds : List D) : (List Int):=(uL uI) (ds.getD 0 .top)
theorem Aec (a : (List Int)) : Xp (Xq a) = a:=by simp [Xp,Xq,PV (u:=uI) (en:=eU8) (fun _=>rfl)]
instance : Px Xq Xp:=⟨Aec⟩
def AjW (b : Ph × Int × Int × Pg × Pf × Mk) : D:=.tup [Rv b.1,.int .i64 b.2.1,.int .i64 b.2.2.1,Qv b.2.2.2.1,Qh b.2.2.2.2.1,Pz b.2.2.2.2.2]
noncomputable def AeR : Dw.Spec:=Pe [] (.tupPtr 5 2 99) Xq Xp (fun a=>Zn a) AjW noE
theorem AiR : Pd Tryz.prog 9 AeR:=by
 refine fn2 1 (Pk (l:=[(26,AhT),(27,Aas),(28,PL),(29,AbO),(10,Abx),(30,AbU),(31,Abb)]) (by simp [Amb,AdY,PO,Aei,Afl,Afr,AeE])) Tryz.func9<|?_
 intro codes1
 unfold Zn
 refine A 13 ?_
 refine bD fun r2 hr2=>?_
 refine A 7 ?_
 refine bD fun r3 hr3=>?_
 refine A 11 ?_
 refine bD fun r4 hr4=>?_
 refine A 7 ?_
 refine bD fun r5 hr5=>?_
 refine A 10 ?_
 refine bD fun x_x6 hx_x6=>?_
 refine A 2 ?_
 refine bD fun r7 hr7=>?_
 refine A 5 ?_
 refine sC (E:=fun (_s : (List (List Int)) × (List Int) × Int) (g : Nat × Nat × Nat × Nat × Nat × Nat)=>[(2,.optr 2 g.1 0 0),(5,.optr 5 g.2.1 0 0),(6,.optr 6 g.2.2.1 0 0),(8,.optr 14 g.2.2.2.2.2 0 0),(9,.optr 9 g.2.2.2.1 0 0),(10,.int .i64 r4.1),(11,.int .i64 r5),(12,.optr 12 g.2.2.2.2.1 0 0)]) (O:=fun s g=>[(2,some (g.1,⟨false,true,1,26,[.agg [.nils]]⟩)),(5,some (g.2.1,⟨false,true,1,29,[.agg [.nils]]⟩)),(6,some (g.2.2.1,⟨false,true,3,32,[.agg [.int .i64 0,.int .i64 0,.nils]]⟩)),(9,some (g.2.2.2.1,⟨false,true,1,26,[.agg [.sl (r3.1.Funcs.map PN)]]⟩)),(12,some (g.2.2.2.2.1,⟨false,true,1,29,[.agg [.sl (s.1.map (eL Pa))]]⟩)),(14,some (g.2.2.2.2.2,⟨false,true,2,99,[.agg [.sl (s.2.1.map eU8),.int .i64 s.2.2]]⟩))]) (j:=fun s=>Ue r3 r4 r5 s.1 s.2.1 s.2.2) ?_ ?_
 ·exact B
 ·rintro ⟨l8,x9,x10⟩ ⟨v2x1,v5x1,v6x1,v9x1,v12x1,v14x1⟩ nn
  try dsimp only
  unfold Ue
  exact B

def Afi (b : Bool) : D:=.bool b
noncomputable def Xj : Dw.Spec:=Pe [] .ground PY PX (fun a=>QN a) Afi noE
theorem Aar : Pd Tryz.prog 123 Xj:=by
 refine fn2 1 (Pv) Tryz.func123<|?_
 intro a
 unfold QN
 exact B

def AiE (b : Bool) : D:=.bool b
noncomputable def AdR : Dw.Spec:=Pe [] .ground Sl Sk (fun a=>XL a) AiE noE
theorem AhP : Pd Tryz.prog 107 AdR:=by
 refine fn2 1 (Pk (l:=[(123,Xj)]) (by simp [Aar])) Tryz.func107<|?_
 intro s1
 unfold XL
 refine A 14 ?_
 refine lP (E:=fun (s : Int) (_g : Unit)=>[(0,.sl (s1.map Pa)),(5,.sl (s1.map Pa)),(6,.int .i64 (s1.length : Int)),(7,.int .i64 s)]) (O:=fun _ _=>[]) (body:=fun s=>Rx s1 s) (s:=0) () ((hE ⟨rfl,r,r,r,trivial⟩ trivial))<|?_
 rintro x2 ⟨⟩ nn
 try dsimp only
 unfold Rx
 exact B

def RW (a : (List Int) × OX) : List D:=[.sl (a.1.map Pa),.fptr (PN a.2) 0]
def RV (ds : List D) : (List Int) × OX:=((uL uI) (ds.getD 0 .top),SI (fpD (ds.getD 1 .top)))
theorem AcA (a : (List Int) × OX) : RV (RW a) = a:=by simp [RV,RW,fpD,PV (u:=uI) (en:=Pa) (fun _=>rfl)]
instance : Px RW RV:=⟨AcA⟩
def AcZ (b : Bool) : D:=.bool b
noncomputable def Zh : Dw.Spec:=Pe [] .ground RW RV (fun a=>RR a.1 a.2) AcZ noE
theorem AcB : Pd Tryz.prog 106 Zh:=by
 refine fn2 2 (Pk (l:=[(107,AdR)]) (by simp [AhP])) Tryz.func106<|?_
 intro a
 unfold RR
 exact B

def PU (a : (List (List Int)) × OX) : List D:=[.sl (a.1.map (eL Pa)),.clo 106 [.fptr (PN a.2) 0]]
def PT (ds : List D) : (List (List Int)) × OX:=((uL (uL uI)) (ds.getD 0 .top),SI (fpD (Ahb (ds.getD 1 .top) 0)))
theorem Rg (a : (List (List Int)) × OX) : PT (PU a) = a:=by simp [PT,PU,fpD,Ahb,PV (u:=(uL uI)) (en:=(eL Pa)) (PV (u:=uI) (en:=Pa) (fun _=>rfl))]
instance : Px PU PT:=⟨Rg⟩
def Zc (b : Int) : D:=.int .i64 b
noncomputable def Rt : Dw.Spec:=Pe [] .ground PU PT (fun a=>Qe a.1 a.2) Zc noE
theorem Yf : Pd Tryz.prog 124 Rt:=by
 refine fn2 2 (Pk (l:=[(106,Zh)]) (by simp [AcB])) Tryz.func124<|?_
 rintro ⟨s1,f2⟩
 unfold Qe
 refine A 14 ?_
 refine lP (E:=fun (s : Int) (_g : Unit)=>[(0,.sl (s1.map (eL Pa))),(1,.clo 106 [.fptr (.agg [.int .i64 f2.Params,.sl (f2.Slots.map Pn),.sl (f2.Code.map Pm)]) 0]),(7,.int .i64 (s1.length : Int)),(8,.int .i64 s)]) (O:=fun _ _=>[]) (body:=fun s=>Qp s1 f2 s) (s:=0) () ((hE ⟨rfl,r,r,r,trivial⟩ trivial))<|?_
 rintro x3 ⟨⟩ nn
 try dsimp only
 unfold Qp
 exact B

def Xl (b : Bool) : D:=.bool b
noncomputable def QQ : Dw.Spec:=Pe [] .ground PU PT (fun a=>Qo a.1 a.2) Xl noE
theorem WZ : Pd Tryz.prog 108 QQ:=by
 refine fn2 2 (Pk (l:=[(438396,Rt)]) (by simp [Yf])) Tryz.func108<|?_
 rintro ⟨s1,f2⟩
 unfold Qo
 refine A 9 ?_
 refine bD fun r3 hr3=>cG (s1,f2) rfl rfl (show _ = some Rt from by kernel_rfl) Rg rfl rfl (by simp) r hr3 r<|?_
 exact B

def AfK (b : Bool) : D:=.bool b
noncomputable def XV : Dw.Spec:=Pe [] .ground Qk Qj (fun a=>SN a.1 a.2) AfK noE
theorem Abc : Pd Tryz.prog 82 XV:=by
 refine fn2 2 (Pk (l:=[(438380,QQ)]) (by simp [WZ])) Tryz.func82<|?_
 rintro ⟨f1,l2⟩
 unfold SN
 refine A 6 ?_
 refine Vx (E:=[(2,.fptr (.agg [.int .i64 f1.Params,.sl (f1.Slots.map Pn),.sl (f1.Code.map Pm)]) 0),(3,.optr 3 _ 0 0)]) (O:=[(3,some (_,⟨false,true,1,29,[.agg [.sl (l2.Out.map (eL Pa))]]⟩))]) ((AeH (g:=2) r (by first | rfl | (simp [cells,frp,PA,PG]; done)) (hE ⟨(by first | rfl | (simp [Ps,frp]; done) | (simp [Ps,frp,PA]; done) | (simp [Ps,frp,PA,nbq]; done) | (simp [Ps,lkO,frp,PA,frO]; done) | (simp [Ps,lkO,frp,PA,frO]; rfl) | (simp [Ps,lkO,frp,PA,frO,nbq]; done)),(by first | rfl | (simp [Ps,frp]; done) | (simp [Ps,frp,PA]; done) | (simp [Ps,frp,PA,nbq]; done) | (simp [Ps,lkO,frp,PA,frO]; done) | (simp [Ps,lkO,frp,PA,frO]; rfl) | (simp [Ps,lkO,frp,PA,frO,nbq]; done)),trivial⟩ ⟨(by first | rfl | (simp [Ps,frp]; done) | (simp [Ps,frp,PA]; done) | (simp [Ps,frp,PA,nbq]; done) | (simp [Ps,lkO,frp,PA,frO]; done) | (simp [Ps,lkO,frp,PA,frO]; rfl) | (simp [Ps,lkO,frp,PA,frO,nbq]; done)),trivial⟩))) fun nn=>?_
 refine A 2 ?_
 refine mF (caps:=[.fptr (.agg [.int .i64 f1.Params,.sl (f1.Slots.map Pn),.sl (f1.Code.map Pm)]) 0]) r r (by simp [Acn])<|?_
 refine A 13 ?_
 refine Abe r ?_ ?_
 ·refine A 3 ?_
  refine bD fun r3 hr3=>cG (l2.Out,f1) rfl rfl (show _ = some QQ from by kernel_rfl) Rg rfl rfl (by simp) r hr3 r<|?_
  exact B
 ·exact B

def Vj (a : Pg) : List D:=[Qv a]
def Vi (ds : List D) : Pg:=VN (ds.getD 0 .top)
theorem AgD (a : Pg) : Vi (Vj a) = a:=by simp [Vi,Vj]
instance : Px Vj Vi:=⟨AgD⟩
def Ahm (b : Pg) : D:=.clo 127 [.fptr (Qv b) 0]
noncomputable def AcC : Dw.Spec:=Pe [] .val Vj Vi (fun a=>Yp a) Ahm noE
theorem AgE : Pd Tryz.prog 110 AcC:=by
 refine fn2 1 (Pv) Tryz.func110<|?_
 intro l1
 unfold Yp
 refine A 5 ?_
 refine Vx (E:=[(1,.fptr (.agg [.sl (l1.Out.map (eL Pa))]) 0)]) (O:=[]) ((AeH (g:=1) r (by first | rfl | (simp [cells,frp,PA,PG]; done)) (hE ⟨(by first | rfl | (simp [Ps,frp]; done) | (simp [Ps,frp,PA]; done) | (simp [Ps,frp,PA,nbq]; done) | (simp [Ps,lkO,frp,PA,frO]; done) | (simp [Ps,lkO,frp,PA,frO]; rfl) | (simp [Ps,lkO,frp,PA,frO,nbq]; done)),trivial⟩ trivial))) fun nn=>?_
 refine A 2 ?_
 refine mF (caps:=[.fptr (.agg [.sl (l1.Out.map (eL Pa))]) 0]) r r (by simp [Acn])<|?_
 exact B

def AhJ (b : Bool) : D:=.bool b
noncomputable def AcM : Dw.Spec:=Pe [] .ground PY PX (fun a=>Zb a) AhJ noE
theorem AgH : Pd Tryz.prog 133 AcM:=by
 refine fn2 1 (Pv) Tryz.func133<|?_
 intro a
 unfold Zb
 exact B

def Amg (b : (List Int)) : D:=.sl (b.map Pa)
noncomputable def AgN : Dw.Spec:=Pe [] (.row 1 3) Wb Wa (fun a=>AbC a.1 a.2) Amg noE
theorem Alf : Pd Tryz.prog 125 AgN:=by
 refine fn2 2 (Pk (l:=[(133,AcM),(134,Aai),(135,Ye)]) (by simp [AgH,AdM,Ack])) Tryz.func125<|?_
 rintro ⟨f1,k2⟩
 unfold AbC
 refine A 6 ?_
 refine sC (E:=fun (_s : Unit) (g : Nat)=>[(1,.int .i64 k2),(2,.optr 2 g 0 0)]) (O:=fun _ g=>[(2,some (g,⟨false,true,3,40,[.agg [.int .i64 f1.Params,.sl (f1.Slots.map Pn),.sl (f1.Code.map Pm)]]⟩))]) (j:=fun _=>Aax f1 k2) ?_ ?_
 ·exact B
 ·rintro ⟨⟩ v2x1 nn
  try dsimp only
  unfold Aax
  refine A 10 ?_
  refine bD fun x_x3 hx_x3=>?_
  refine A 6 ?_
  refine sC (E:=fun (s : (List Int)) (g : Nat × Nat)=>[(5,.osl 5 g.1 0 s.length),(6,.optr 6 g.2 0 0)]) (O:=fun s g=>[(5,some (g.1,⟨false,false,1,3,s.map Pa⟩)),(6,some (g.2,⟨false,true,5,50,[.agg [.int .i64 x_x3.Op,.int .i64 x_x3.A,.int .i64 x_x3.B,.int .i64 x_x3.C,.int .u64 x_x3.Imm]]⟩))]) (j:=fun s=>XT x_x3 s) ?_ ?_
  ·exact B
  ·rintro l4 ⟨v5x2,v6x2⟩ nn
   try dsimp only
   unfold XT
   exact B

def SH (a : Int × Pg) : List D:=[.int .i64 a.1,.fptr (Qv a.2) 0]
def SG (ds : List D) : Int × Pg:=(uI (ds.getD 0 .top),VN (fpD (ds.getD 1 .top)))
theorem AdI (a : Int × Pg) : SG (SH a) = a:=by simp [SG,SH,uI,fpD]
instance : Px SH SG:=⟨AdI⟩
def Aef (b : (List Int)) : D:=.sl (b.map Pa)
noncomputable def Aah : Dw.Spec:=Pe [] .val SH SG (fun a=>UC a.1 a.2) Aef noE
theorem AdJ : Pd Tryz.prog 127 Aah:=by
 refine fn2 2 (Pv) Tryz.func127<|?_
 intro a
 unfold UC
 exact B

def Ahf (b : Int × Bool) : D:=.tup [.int .i64 b.1,.bool b.2]
noncomputable def ZV : Dw.Spec:=Pe [] .ground Qs Qr (fun a=>Uc a) Ahf noE
theorem AbY : Pd Tryz.prog 84 ZV:=by
 refine fn2 1 (Pv) Tryz.func84<|?_
 intro a
 unfold Uc
 exact B

def Ta (a : OY × Int × Bool) : List D:=[PD a.1,.int .i64 a.2.1,.bool a.2.2]
def SZ (ds : List D) : OY × Int × Bool:=(Rh (ds.getD 0 .top),uI (ds.getD 1 .top),uBo (ds.getD 2 .top))
theorem AdV (a : OY × Int × Bool) : SZ (Ta a) = a:=by simp [SZ,Ta,uI,uBo]
instance : Px Ta SZ:=⟨AdV⟩
def AeC (_b : OY) : D:=.tup []
def AeB (b : OY) : List D:=[PD b]
noncomputable def Wm : Dw.Spec:=Pe [(0,(8,160))] .val Ta SZ (fun a=>RI a.1 a.2.1 a.2.2) AeC AeB
theorem ZZ : Pd Tryz.prog 139 Wm:=by
 refine fn2 3 (Pk (l:=[(123,Xj)]) (by simp [Aar])) Tryz.func139<|?_
 rintro ⟨s1,n2,in3⟩
 unfold RI
 refine A 13 ?_
 refine bD fun r4 hr4=>?_
 refine A 5 ?_
 refine cD r ?_ ?_
 ·exact B
 ·refine A 6 ?_
  refine cD r ?_ ?_
  ·refine A 5 ?_
   refine cK fun hq=>Uk r r r hq<|bD fun s_e5 hs_e5=>WL (q:=s_e5) (l:=s1.toList) (en:=ZU) (j:=(IntKind.i64.wrap (n2.tdiv 64)).toNat) (by simp) r r r hs_e5 r (fun _=>r)<|?_
   refine A 3 ?_
   refine cK fun hq=>Uk r r r hq<|bD fun s_o6 hs_o6=>Adw (q:=s_o6) (q':=IntKind.u64.wrap ((BitVec.ofInt IntKind.u64.bits s_e5 ||| BitVec.ofInt IntKind.u64.bits (IntKind.u64.wrap (1 * 2 ^ (Nat.min ((IntKind.u64.wrap (n2)).tmod 64).toNat IntKind.u64.bits)))).toNat)) (l:=s1.toList) (en:=ZU) (j:=(IntKind.i64.wrap (n2.tdiv 64)).toNat) (z':=.agg [.int .u64 ((s1.set ((IntKind.i64.wrap (n2.tdiv 64)).toNat) (IntKind.u64.wrap ((BitVec.ofInt IntKind.u64.bits s_e5 ||| BitVec.ofInt IntKind.u64.bits (IntKind.u64.wrap (1 * 2 ^ (Nat.min ((IntKind.u64.wrap (n2)).tmod 64).toNat IntKind.u64.bits)))).toNat))).a0),.int .u64 ((s1.set ((IntKind.i64.wrap (n2.tdiv 64)).toNat) (IntKind.u64.wrap ((BitVec.ofInt IntKind.u64.bits s_e5 ||| BitVec.ofInt IntKind.u64.bits (IntKind.u64.wrap (1 * 2 ^ (Nat.min ((IntKind.u64.wrap (n2)).tmod 64).toNat IntKind.u64.bits)))).toNat))).a1),.int .u64 ((s1.set ((IntKind.i64.wrap (n2.tdiv 64)).toNat) (IntKind.u64.wrap ((BitVec.ofInt IntKind.u64.bits s_e5 ||| BitVec.ofInt IntKind.u64.bits (IntKind.u64.wrap (1 * 2 ^ (Nat.min ((IntKind.u64.wrap (n2)).tmod 64).toNat IntKind.u64.bits)))).toNat))).a2),.int .u64 ((s1.set ((IntKind.i64.wrap (n2.tdiv 64)).toNat) (IntKind.u64.wrap ((BitVec.ofInt IntKind.u64.bits s_e5 ||| BitVec.ofInt IntKind.u64.bits (IntKind.u64.wrap (1 * 2 ^ (Nat.min ((IntKind.u64.wrap (n2)).tmod 64).toNat IntKind.u64.bits)))).toNat))).a3),.int .u64 ((s1.set ((IntKind.i64.wrap (n2.tdiv 64)).toNat) (IntKind.u64.wrap ((BitVec.ofInt IntKind.u64.bits s_e5 ||| BitVec.ofInt IntKind.u64.bits (IntKind.u64.wrap (1 * 2 ^ (Nat.min ((IntKind.u64.wrap (n2)).tmod 64).toNat IntKind.u64.bits)))).toNat))).a4),.int .u64 ((s1.set ((IntKind.i64.wrap (n2.tdiv 64)).toNat) (IntKind.u64.wrap ((BitVec.ofInt IntKind.u64.bits s_e5 ||| BitVec.ofInt IntKind.u64.bits (IntKind.u64.wrap (1 * 2 ^ (Nat.min ((IntKind.u64.wrap (n2)).tmod 64).toNat IntKind.u64.bits)))).toNat))).a5),.int .u64 ((s1.set ((IntKind.i64.wrap (n2.tdiv 64)).toNat) (IntKind.u64.wrap ((BitVec.ofInt IntKind.u64.bits s_e5 ||| BitVec.ofInt IntKind.u64.bits (IntKind.u64.wrap (1 * 2 ^ (Nat.min ((IntKind.u64.wrap (n2)).tmod 64).toNat IntKind.u64.bits)))).toNat))).a6),.int .u64 ((s1.set ((IntKind.i64.wrap (n2.tdiv 64)).toNat) (IntKind.u64.wrap ((BitVec.ofInt IntKind.u64.bits s_e5 ||| BitVec.ofInt IntKind.u64.bits (IntKind.u64.wrap (1 * 2 ^ (Nat.min ((IntKind.u64.wrap (n2)).tmod 64).toNat IntKind.u64.bits)))).toNat))).a7)]) (by simp) r r r r r hs_o6 r r (congrArg (fun l=>D.agg (l.map ZU)) (Rl s1 ((IntKind.i64.wrap (n2.tdiv 64)).toNat) (IntKind.u64.wrap ((BitVec.ofInt IntKind.u64.bits s_e5 ||| BitVec.ofInt IntKind.u64.bits (IntKind.u64.wrap (1 * 2 ^ (Nat.min ((IntKind.u64.wrap (n2)).tmod 64).toNat IntKind.u64.bits)))).toNat))).symm) r r<|?_
   exact B
  ·refine A 5 ?_
   refine cK fun hq=>Uk r r r hq<|bD fun s_e7 hs_e7=>WL (q:=s_e7) (l:=s1.toList) (en:=ZU) (j:=(IntKind.i64.wrap (n2.tdiv 64)).toNat) (by simp) r r r hs_e7 r (fun _=>r)<|?_
   refine A 3 ?_
   refine cK fun hq=>Uk r r r hq<|bD fun s_o8 hs_o8=>Adw (q:=s_o8) (q':=IntKind.u64.wrap ((BitVec.ofInt IntKind.u64.bits s_e7 &&& ~~~ BitVec.ofInt IntKind.u64.bits (IntKind.u64.wrap (1 * 2 ^ (Nat.min ((IntKind.u64.wrap (n2)).tmod 64).toNat IntKind.u64.bits)))).toNat)) (l:=s1.toList) (en:=ZU) (j:=(IntKind.i64.wrap (n2.tdiv 64)).toNat) (z':=.agg [.int .u64 ((s1.set ((IntKind.i64.wrap (n2.tdiv 64)).toNat) (IntKind.u64.wrap ((BitVec.ofInt IntKind.u64.bits s_e7 &&& ~~~ BitVec.ofInt IntKind.u64.bits (IntKind.u64.wrap (1 * 2 ^ (Nat.min ((IntKind.u64.wrap (n2)).tmod 64).toNat IntKind.u64.bits)))).toNat))).a0),.int .u64 ((s1.set ((IntKind.i64.wrap (n2.tdiv 64)).toNat) (IntKind.u64.wrap ((BitVec.ofInt IntKind.u64.bits s_e7 &&& ~~~ BitVec.ofInt IntKind.u64.bits (IntKind.u64.wrap (1 * 2 ^ (Nat.min ((IntKind.u64.wrap (n2)).tmod 64).toNat IntKind.u64.bits)))).toNat))).a1),.int .u64 ((s1.set ((IntKind.i64.wrap (n2.tdiv 64)).toNat) (IntKind.u64.wrap ((BitVec.ofInt IntKind.u64.bits s_e7 &&& ~~~ BitVec.ofInt IntKind.u64.bits (IntKind.u64.wrap (1 * 2 ^ (Nat.min ((IntKind.u64.wrap (n2)).tmod 64).toNat IntKind.u64.bits)))).toNat))).a2),.int .u64 ((s1.set ((IntKind.i64.wrap (n2.tdiv 64)).toNat) (IntKind.u64.wrap ((BitVec.ofInt IntKind.u64.bits s_e7 &&& ~~~ BitVec.ofInt IntKind.u64.bits (IntKind.u64.wrap (1 * 2 ^ (Nat.min ((IntKind.u64.wrap (n2)).tmod 64).toNat IntKind.u64.bits)))).toNat))).a3),.int .u64 ((s1.set ((IntKind.i64.wrap (n2.tdiv 64)).toNat) (IntKind.u64.wrap ((BitVec.ofInt IntKind.u64.bits s_e7 &&& ~~~ BitVec.ofInt IntKind.u64.bits (IntKind.u64.wrap (1 * 2 ^ (Nat.min ((IntKind.u64.wrap (n2)).tmod 64).toNat IntKind.u64.bits)))).toNat))).a4),.int .u64 ((s1.set ((IntKind.i64.wrap (n2.tdiv 64)).toNat) (IntKind.u64.wrap ((BitVec.ofInt IntKind.u64.bits s_e7 &&& ~~~ BitVec.ofInt IntKind.u64.bits (IntKind.u64.wrap (1 * 2 ^ (Nat.min ((IntKind.u64.wrap (n2)).tmod 64).toNat IntKind.u64.bits)))).toNat))).a5),.int .u64 ((s1.set ((IntKind.i64.wrap (n2.tdiv 64)).toNat) (IntKind.u64.wrap ((BitVec.ofInt IntKind.u64.bits s_e7 &&& ~~~ BitVec.ofInt IntKind.u64.bits (IntKind.u64.wrap (1 * 2 ^ (Nat.min ((IntKind.u64.wrap (n2)).tmod 64).toNat IntKind.u64.bits)))).toNat))).a6),.int .u64 ((s1.set ((IntKind.i64.wrap (n2.tdiv 64)).toNat) (IntKind.u64.wrap ((BitVec.ofInt IntKind.u64.bits s_e7 &&& ~~~ BitVec.ofInt IntKind.u64.bits (IntKind.u64.wrap (1 * 2 ^ (Nat.min ((IntKind.u64.wrap (n2)).tmod 64).toNat IntKind.u64.bits)))).toNat))).a7)]) (by simp) r r r r r hs_o8 r r (congrArg (fun l=>D.agg (l.map ZU)) (Rl s1 ((IntKind.i64.wrap (n2.tdiv 64)).toNat) (IntKind.u64.wrap ((BitVec.ofInt IntKind.u64.bits s_e7 &&& ~~~ BitVec.ofInt IntKind.u64.bits (IntKind.u64.wrap (1 * 2 ^ (Nat.min ((IntKind.u64.wrap (n2)).tmod 64).toNat IntKind.u64.bits)))).toNat))).symm) r r<|?_
   exact B

def AhS (b : OY) : D:=PD b
noncomputable def UQ : Dw.Spec:=Pe [] (.ptr 8 160) Sl Sk (fun a=>Ri a) AhS noE
theorem Wl : Pd Tryz.prog 128 UQ:=by
 refine fn2 1 (Pk (l:=[(139,Wm)]) (by simp [ZZ])) Tryz.func128<|?_
 intro l1
 unfold Ri
 refine A 21 ?_
 refine lP (E:=fun (s : OY × Int) (g : Nat)=>[(3,.optr 7 g 0 0),(8,.sl (l1.map Pa)),(9,.int .i64 (l1.length : Int)),(10,.int .i64 s.2)]) (O:=fun s g=>[(7,some (g,⟨false,true,8,160,[.agg [.int .u64 s.1.a0,.int .u64 s.1.a1,.int .u64 s.1.a2,.int .u64 s.1.a3,.int .u64 s.1.a4,.int .u64 s.1.a5,.int .u64 s.1.a6,.int .u64 s.1.a7]]⟩))]) (body:=fun s=>Wj l1 s.1 s.2) (s:=((OY.mk 0 0 0 0 0 0 0 0),0)) _ ((hE ⟨rfl,r,r,r,trivial⟩ ⟨rfl,trivial⟩))<|?_
 rintro ⟨x2,x3⟩ v7x1 nn
 try dsimp only
 unfold Wj
 exact B

end Go.Proofs.YtnldnldmgceooaaGreatDoor
