/-
  Programs on typed data, and the proofs that the code does what they say; written by a program (dx.py).
-/
import Derived.Test.YtnldnldmgceooaaGreatDoorProg
import Derived.Test.YtnldnldmgceooaaGreatDoorDd
import Derived.KernelRfl
import Derived.Test.YtnldnldmgceooaaGreatDoorSh
import Derived.Test.YtnldnldmgceooaaGreatDoorDxP
import Derived.Test.YtnldnldmgceooaaGreatDoorDxF1
import Derived.Test.YtnldnldmgceooaaGreatDoorDxF2
import Derived.Test.YtnldnldmgceooaaGreatDoorDxF3
namespace Go.Proofs.YtnldnldmgceooaaGreatDoor
open Go Go.Dw Go.Proofs
set_option maxRecDepth 100000
set_option maxHeartbeats 4000000
open Go.Dw renaming QU → bD,PN → cK,AcW → bS,AaX → cG,Aey → aP,Ue → sE,AbD → iO,Acy → cD,AeS → xL,Aah → hE,Aez → lP,AaZ → sC,Zg → bC,AmM → mF,rf → r
def Alx (b : (List Int)) : D:=.sl (b.map OZ)
noncomputable def AfQ : Dw.Spec:=Pf [] (.row 1 3) TF TE (fun a=>ZW a) Alx noE
theorem Akd : Pd Tryz.prog 48 AfQ:=by
 refine fn2 1 (Pk (l:=[(72,Afa)]) (by simp [Ajg])) Tryz.func48<|?_
 intro s1
 unfold ZW
 refine A 17 ?_
 refine lP (E:=fun (s : (List Int) × Int) (g : Nat)=>[(0,.sl (s1.map Pn)),(3,.osl 3 g 0 s.1.length),(4,.int .i64 s.2)]) (O:=fun s g=>[(3,some (g,⟨false,false,1,3,s.1.map OZ⟩))]) (body:=fun s=>Zr s1 s.1 s.2) (s:=(([] : List Int),0)) _ ((hE ⟨rfl,r,r,trivial⟩ ⟨rfl,trivial⟩))<|?_
 rintro ⟨out2,i3⟩ v3x1 nn
 try dsimp only
 unfold Zr
 refine A 9 ?_
 refine cD r ?_ ?_
 ·refine A 2 ?_
  refine bC (E:=fun (s : (List Int)) (g : Nat)=>[(0,.sl (s1.map Pn)),(3,.osl 3 g 0 s.length),(4,.int .i64 i3)]) (O:=fun s g=>[(3,some (g,⟨false,false,1,3,s.map OZ⟩))]) (j:=fun s=>Zt i3 s) ?_ ?_
  ·refine A 7 ?_
   refine bC (E:=fun (s : Int) (g : Nat)=>[(0,.sl (s1.map Pn)),(3,.osl 3 g 0 out2.length),(4,.int .i64 i3),(5,.int .i64 s)]) (O:=fun _ g=>[(3,some (g,⟨false,false,1,3,out2.map OZ⟩))]) (j:=fun s=>Uw out2 i3 s) ?_ ?_
   ·refine lP (E:=fun (s : Int) (g : Nat)=>[(0,.sl (s1.map Pn)),(3,.osl 3 g 0 out2.length),(4,.int .i64 i3),(5,.int .i64 s)]) (O:=fun _ g=>[(3,some (g,⟨false,false,1,3,out2.map OZ⟩))]) (body:=fun s=>Zs s1 i3 out2 s) (s:=(out2.length : Int)) _ ((hE ⟨rfl,r,r,r,trivial⟩ ⟨rfl,trivial⟩))<|?_
    rintro k6 v3x2 nn
    try dsimp only
    unfold Zs
    exact B
   ·rintro k5 v3x3 nn
    try dsimp only
    unfold Uw
    refine A 4 ?_
    refine cK fun hq=>AbB (l:=out2) r r r r r r hq<|cK fun hq=>aP (([] : List Int)) (out2.take k5.toNat) OZ r r r r r r r (by first | (simp; done) | (simp; omega)) (by simp [List.map_take]) r r (by simp) r (fun _=>r) r hq<|?_
    refine A 7 ?_
    refine cK fun hq=>aP (([] : List Int) ++ (out2.take k5.toNat)) (([i3] : List Int)) OZ r r r r r r r (by simp) (TH _ _ r) r r (by simp) (Sz _ _ r) (fun _=>r) r hq<|?_
    refine A 2 ?_
    refine cK fun hq=>Zf (l:=out2) r r r r r r hq<|cK fun hq=>aP ((([] : List Int) ++ (out2.take k5.toNat)) ++ ([i3] : List Int)) (out2.drop k5.toNat) OZ r r r r r r r (by first | (simp; done) | (simp; omega)) (AcV _ _ _) r r (by simp) (Sz _ _ r) (fun _=>r) r hq<|?_
    exact B
  ·rintro out4 v3x4 nn
   try dsimp only
   unfold Zt
   exact B
 ·exact B

def AkL (b : Bool) : D:=.bool b
noncomputable def Xd : Dw.Spec:=Pf [] .ground UF UE (fun a=>QM a) AkL noE
theorem YK : Pd Tryz.prog 38 Xd:=by
 refine fn2 1 (Pk (l:=[(47,Xc)]) (by simp [YJ])) Tryz.func38<|?_
 intro a
 unfold QM
 exact B

def Sv (a : Pj × Pj) : List D:=[Qd a.1,Qd a.2]
def Su (ds : List D) : Pj × Pj:=(Tu (ds.getD 0 .top),Tu (ds.getD 1 .top))
theorem Aid (a : Pj × Pj) : Su (Sv a) = a:=by simp [Su,Sv]
instance : Px Sv Su:=⟨Aid⟩
def AiQ (b : Bool) : D:=.bool b
noncomputable def Abj : Dw.Spec:=Pf [] .ground Sv Su (fun a=>Sx a.1 a.2) AiQ noE
theorem Ado : Pd Tryz.prog 16 Abj:=by
 refine fn2 2 (Pk (l:=[(38,Xd)]) (by simp [YK])) Tryz.func16<|?_
 intro a
 unfold Sx
 exact B

def YN (a : (List Pj) × Pj) : List D:=[.sl (a.1.map Qd),Qd a.2]
def YM (ds : List D) : (List Pj) × Pj:=((uL Tu) (ds.getD 0 .top),Tu (ds.getD 1 .top))
theorem AkN (a : (List Pj) × Pj) : YM (YN a) = a:=by simp [YM,YN,PV (u:=Tu) (en:=Qd) AhL]
instance : Px YN YM:=⟨AkN⟩
def Amo (b : Bool) : D:=.bool b
noncomputable def AgC : Dw.Spec:=Pf [] .ground YN YM (fun a=>Abm a.1 a.2) Amo noE
theorem AkO : Pd Tryz.prog 73 AgC:=by
 refine fn2 2 (Pk (l:=[(16,Abj)]) (by simp [Ado])) Tryz.func73<|?_
 rintro ⟨used1,x2⟩
 unfold Abm
 refine A 13 ?_
 refine lP (E:=fun (s : Int) (g : Nat)=>[(0,.sl (used1.map Qd)),(3,.optr 3 g 0 0),(5,.int .i64 s)]) (O:=fun _ g=>[(3,some (g,⟨false,true,2,56,[.agg [.int .i64 x2.Off,.int .i64 x2.Size]]⟩))]) (body:=fun s=>Aai used1 x2 s) (s:=0) _ ((hE ⟨rfl,r,r,trivial⟩ ⟨rfl,trivial⟩))<|?_
 rintro i3 v3x1 nn
 try dsimp only
 unfold Aai
 exact B

def Aaf (a : (List Pj) × Int × Int × Int) : List D:=[.sl (a.1.map Qd),.int .i64 a.2.1,.int .i64 a.2.2.1,.int .i64 a.2.2.2]
def Aae (ds : List D) : (List Pj) × Int × Int × Int:=((uL Tu) (ds.getD 0 .top),uI (ds.getD 1 .top),uI (ds.getD 2 .top),uI (ds.getD 3 .top))
theorem Amm (a : (List Pj) × Int × Int × Int) : Aae (Aaf a) = a:=by simp [Aae,Aaf,uI,PV (u:=Tu) (en:=Qd) AhL]
instance : Px Aaf Aae:=⟨Amm⟩
def Anf (b : Int × Int) : D:=.tup [.int .i64 b.1,.int .i64 b.2]
noncomputable def AhI : Dw.Spec:=Pf [] .ground Aaf Aae (fun a=>Acl a.1 a.2.1 a.2.2.1 a.2.2.2) Anf noE
theorem Amn : Pd Tryz.prog 49 AhI:=by
 refine fn2 4 (Pk (l:=[(47,Xc),(58,Aag),(38,Xd),(33,AcR),(73,AgC)]) (by simp [YJ,AbT,YK,Aeq,AkO])) Tryz.func49<|?_
 rintro ⟨used1,from2,size3,align4⟩
 unfold Acl
 refine A 6 ?_
 refine sC (E:=fun (_s : Unit) (_g : Unit)=>[(0,.sl (used1.map Qd)),(1,.int .i64 from2),(2,.int .i64 size3),(3,.int .i64 align4)]) (O:=fun _ _=>[]) (j:=fun _=>Abi used1 align4 size3 from2) ?_ ?_
 ·exact B
 ·rintro ⟨⟩ ⟨⟩ nn
  try dsimp only
  unfold Abi
  refine A 7 ?_
  refine lP (E:=fun (s : Int) (_g : Unit)=>[(0,.sl (used1.map Qd)),(1,.int .i64 from2),(2,.int .i64 size3),(3,.int .i64 align4),(10,.int .i64 s)]) (O:=fun _ _=>[]) (body:=fun s=>Abg used1 align4 size3 from2 s) (s:=0) () ((hE ⟨rfl,r,r,r,r,trivial⟩ trivial))<|?_
  rintro i8 ⟨⟩ nn
  try dsimp only
  unfold Abg
  refine A 9 ?_
  refine cD r ?_ ?_
  ·exact B
  ·refine A 18 ?_
   refine lP (E:=fun (s : Int × Bool × Int) (_g : Unit)=>[(0,.sl (used1.map Qd)),(1,.int .i64 from2),(2,.int .i64 size3),(3,.int .i64 align4),(11,.int .i64 s.1),(12,.bool s.2.1),(13,.int .i64 s.2.2)]) (O:=fun _ _=>[]) (body:=fun s=>Abh used1 align4 size3 from2 s.1 s.2.1 s.2.2) (s:=(0,false,(-1))) () ((hE ⟨rfl,r,r,r,r,r,r,trivial⟩ trivial))<|?_
   rintro ⟨best11,found12,i13⟩ ⟨⟩ nn
   try dsimp only
   unfold Abh
   refine A 9 ?_
   refine cD r ?_ ?_
   ·refine A 10 ?_
    refine sC (E:=fun (s : Int) (_g : Unit)=>[(0,.sl (used1.map Qd)),(1,.int .i64 from2),(2,.int .i64 size3),(3,.int .i64 align4),(11,.int .i64 best11),(12,.bool found12),(13,.int .i64 i13),(14,.int .i64 s)]) (O:=fun _ _=>[]) (j:=fun s=>Wh align4 size3 used1 found12 i13 best11 s) ?_ ?_
    ·exact B
    ·rintro at14 ⟨⟩ nn
     try dsimp only
     unfold Wh
     exact B
   ·exact B

def WT (a : (List Po) × (List (List Int)) × Int) : List D:=[.sl (a.1.map Pn),.sl (a.2.1.map (eL OZ)),.int .i64 a.2.2]
def WS (ds : List D) : (List Po) × (List (List Int)) × Int:=((uL XY) (ds.getD 0 .top),(uL (uL uI)) (ds.getD 1 .top),uI (ds.getD 2 .top))
theorem Ajd (a : (List Po) × (List (List Int)) × Int) : WS (WT a) = a:=by simp [WS,WT,uI,PV (u:=XY) (en:=Pn) Afe,PV (u:=(uL uI)) (en:=(eL OZ)) (PV (u:=uI) (en:=OZ) (fun _=>rfl))]
instance : Px WT WS:=⟨Ajd⟩
def Akc (b : (List Int) × Int) : D:=.tup [.sl (b.1.map OZ),.int .i64 b.2]
noncomputable def AeZ : Dw.Spec:=Pf [] .val WT WS (fun a=>Ys a.1 a.2.1 a.2.2) Akc noE
theorem Aje : Pd Tryz.prog 23 AeZ:=by
 refine fn2 3 (Pk (l:=[(45,Acr),(46,AfH),(47,Xc),(48,AfQ),(15,Xq),(49,AhI)]) (by simp [AeQ,AjP,YJ,Akd,Yq,Amn])) Tryz.func23<|?_
 rintro ⟨s1,g2,from3⟩
 unfold Ys
 refine A 10 ?_
 refine bD fun r4 hr4=>?_
 refine A 10 ?_
 refine cD r ?_ ?_
 ·exact B
 ·refine A 2 ?_
  refine sC (E:=fun (_s : Unit) (_g : Unit)=>[(0,.sl (s1.map Pn)),(1,.sl (g2.map (eL OZ))),(2,.int .i64 from3)]) (O:=fun _ _=>[]) (j:=fun _=>XR s1 g2 from3) ?_ ?_
  ·exact B
  ·rintro ⟨⟩ ⟨⟩ nn
   try dsimp only
   unfold XR
   refine A 15 ?_
   refine bD fun r7 hr7=>?_
   refine A 11 ?_
   refine lP (E:=fun (s : (List Bool) × (List Int) × Int) (g : Nat × Nat × Nat)=>[(0,.sl (s1.map Pn)),(1,.sl (g2.map (eL OZ))),(2,.int .i64 from3),(9,.osl 9 g.1 0 s.2.1.length),(10,.osl 10 g.2.1 0 s.1.length),(11,.osl 11 g.2.2 0 r7.length),(12,.int .i64 s.2.2)]) (O:=fun s g=>[(9,some (g.1,⟨false,false,1,3,s.2.1.map OZ⟩)),(10,some (g.2.1,⟨false,false,1,4,s.1.map D.bool⟩)),(11,some (g.2.2,⟨false,false,1,3,r7.map OZ⟩))]) (body:=fun s=>XP r7 s1 g2 from3 s.1 s.2.1 s.2.2) (s:=(List.replicate (s1.length : Int).toNat false,List.replicate (s1.length : Int).toNat (0 : Int),0)) (_,_,_) ((hE ⟨rfl,r,r,r,r,r,r,trivial⟩ ⟨rfl,r,r,trivial⟩))<|?_
   rintro ⟨done8,off9,i10⟩ ⟨v9x2,v10x2,v11x2⟩ nn
   try dsimp only
   unfold XP
   refine A 9 ?_
   refine cD r ?_ ?_
   ·refine A 2 ?_
    refine bC (E:=fun (s : (List Bool) × (List Int)) (g : Nat × Nat × Nat)=>[(0,.sl (s1.map Pn)),(1,.sl (g2.map (eL OZ))),(2,.int .i64 from3),(9,.osl 9 g.1 0 s.2.length),(10,.osl 10 g.2.1 0 s.1.length),(11,.osl 11 g.2.2 0 r7.length),(12,.int .i64 i10)]) (O:=fun s g=>[(9,some (g.1,⟨false,false,1,3,s.2.map OZ⟩)),(10,some (g.2.1,⟨false,false,1,4,s.1.map D.bool⟩)),(11,some (g.2.2,⟨false,false,1,3,r7.map OZ⟩))]) (j:=fun s=>XU i10 s.1 s.2) ?_ ?_
    ·refine A 5 ?_
     refine bD fun order_e13 horder_e13=>?_
     refine A 16 ?_
     refine lP (E:=fun (s : (List Pj) × Int) (g : Nat × Nat × Nat × Nat)=>[(0,.sl (s1.map Pn)),(1,.sl (g2.map (eL OZ))),(2,.int .i64 from3),(9,.osl 9 g.1 0 off9.length),(10,.osl 10 g.2.1 0 done8.length),(11,.osl 11 g.2.2.1 0 r7.length),(12,.int .i64 i10),(13,.int .i64 order_e13),(14,.osl 14 g.2.2.2 0 s.1.length),(15,.int .i64 s.2)]) (O:=fun s g=>[(9,some (g.1,⟨false,false,1,3,off9.map OZ⟩)),(10,some (g.2.1,⟨false,false,1,4,done8.map D.bool⟩)),(11,some (g.2.2.1,⟨false,false,1,3,r7.map OZ⟩)),(14,some (g.2.2.2,⟨false,false,2,56,s.1.map Qd⟩))]) (body:=fun s=>XQ s1 done8 g2 order_e13 off9 from3 i10 s.1 s.2) (s:=(([] : List Pj),0)) (_,_,_,_) ((hE ⟨rfl,r,r,r,r,r,r,r,r,r,trivial⟩ ⟨rfl,r,r,r,trivial⟩))<|?_
     rintro ⟨used14,y15⟩ ⟨v9x3,v10x3,v11x3,v14x3⟩ nn
     try dsimp only
     unfold XQ
     refine A 9 ?_
     refine cD r ?_ ?_
     ·refine A 4 ?_
      refine sC (E:=fun (s : Bool) (g : Nat × Nat × Nat × Nat)=>[(0,.sl (s1.map Pn)),(1,.sl (g2.map (eL OZ))),(2,.int .i64 from3),(9,.osl 9 g.1 0 off9.length),(10,.osl 10 g.2.1 0 done8.length),(11,.osl 11 g.2.2.1 0 r7.length),(12,.int .i64 i10),(13,.int .i64 order_e13),(14,.osl 14 g.2.2.2 0 used14.length),(15,.int .i64 y15),(68,.bool s)]) (O:=fun _ g=>[(9,some (g.1,⟨false,false,1,3,off9.map OZ⟩)),(10,some (g.2.1,⟨false,false,1,4,done8.map D.bool⟩)),(11,some (g.2.2.1,⟨false,false,1,3,r7.map OZ⟩)),(14,some (g.2.2.2,⟨false,false,2,56,used14.map Qd⟩))]) (j:=fun s=>TK y15 off9 s1 used14 s) ?_ ?_
      ·exact B
      ·rintro x16 ⟨v9x4,v10x4,v11x4,v14x4⟩ nn
       try dsimp only
       unfold TK
       refine cD r ?_ ?_
       ·refine A 5 ?_
        refine bD fun off_e20 hoff_e20=>?_
        refine A 3 ?_
        refine bD fun x_x21 hx_x21=>?_
        refine A 4 ?_
        refine bS ([(Pj.mk off_e20 x_x21.Size)] : List Pj) Qd r r r (by simp) r r r<|?_
        exact B
       ·exact B
     ·exact B
    ·rintro ⟨done11,off12⟩ ⟨v9x5,v10x5,v11x5⟩ nn
     try dsimp only
     unfold XU
     exact B
   ·exact B

def Ub (a : Ph × Int × OX) : List D:=[Rv a.1,.int .i64 a.2.1,PI a.2.2]
def Ua (ds : List D) : Ph × Int × OX:=(VQ (ds.getD 0 .top),uI (ds.getD 1 .top),Ss (ds.getD 2 .top))
theorem Aim (a : Ph × Int × OX) : Ua (Ub a) = a:=by simp [Ua,Ub,uI]
instance : Px Ub Ua:=⟨Aim⟩
def AdT (b : Ph) : D:=Rv b
noncomputable def AdV : Dw.Spec:=Pf [] .val Ub Ua (fun a=>Aap a.1 a.2.1 a.2.2) AdT noE
theorem Ain : Pd Tryz.prog 105 AdV:=by
 refine fn2 3 (Pv) Tryz.func105<|?_
 rintro ⟨p1,i2,f3⟩
 unfold Aap
 refine A 11 ?_
 refine cK fun hq=>aP (([] : List OX)) (p1.Funcs) PI r r r r r r r (by simp) r r r (by simp) r (fun _=>r) r hq<|?_
 refine A 8 ?_
 refine cK fun hq=>iO (l:=([] : List OX) ++ p1.Funcs) (en:=PI) r r r r r hq<|bD fun l_o4 hl_o4=>sE (l:=([] : List OX) ++ p1.Funcs) (en:=PI) (q':=f3) r r r r r r r (by simp) hl_o4 r r r r r<|?_
 refine A 10 ?_
 refine UR (b:=(Ph.mk ((([] : List OX) ++ p1.Funcs).set i2.toNat f3))) r ?_ r r ?_ (by first | rfl | (simp only; rfl) | (simp only; rfl) | (simp only; rfl) | simp [AdT,Rv])
 all_goals first|(simp;done)|(simp;omega)|rfl|(simp [PG,PE];done)

def AmA (b : Ph) : D:=Rv b
noncomputable def AgL : Dw.Spec:=Pf [] .val Ub Ua (fun a=>AcS a.1 a.2.1 a.2.2) AmA noE
theorem AlC : Pd Tryz.prog 81 AgL:=by
 refine fn2 3 (Pk (l:=[(105,AdV)]) (by simp [Ain])) Tryz.func81<|?_
 intro a
 unfold AcS
 exact B

def Aat (a : (List Po) × (List Int)) : List D:=[.sl (a.1.map Pn),.sl (a.2.map OZ)]
def Aas (ds : List D) : (List Po) × (List Int):=((uL XY) (ds.getD 0 .top),(uL uI) (ds.getD 1 .top))
theorem Amx (a : (List Po) × (List Int)) : Aas (Aat a) = a:=by simp [Aas,Aat,PV (u:=XY) (en:=Pn) Afe,PV (u:=uI) (en:=OZ) (fun _=>rfl)]
instance : Px Aat Aas:=⟨Amx⟩
def Anj (b : Int) : D:=.int .i64 b
noncomputable def AhK : Dw.Spec:=Pf [] .ground Aat Aas (fun a=>Acn a.1 a.2) Anj noE
theorem Amy : Pd Tryz.prog 50 AhK:=by
 refine fn2 2 (Pv) Tryz.func50<|?_
 rintro ⟨s1,off2⟩
 unfold Acn
 refine A 17 ?_
 refine lP (E:=fun (s : Int × Int) (_g : Unit)=>[(0,.sl (s1.map Pn)),(1,.sl (off2.map OZ)),(5,.int .i64 s.1),(6,.int .i64 s.2)]) (O:=fun _ _=>[]) (body:=fun s=>Abw s1 off2 s.1 s.2) (s:=(0,0)) () ((hE ⟨rfl,r,r,r,trivial⟩ trivial))<|?_
 rintro ⟨n3,i4⟩ ⟨⟩ nn
 try dsimp only
 unfold Abw
 refine sC (E:=fun (_s : Unit) (_g : Unit)=>[(0,.sl (s1.map Pn)),(1,.sl (off2.map OZ)),(5,.int .i64 n3),(6,.int .i64 i4),(12,.int .i64 i4),(13,.sl (off2.map OZ)),(14,.int .i64 (off2.length : Int)),(15,.bool (decide (i4 < (off2.length : Int))))]) (O:=fun _ _=>[]) (j:=fun _=>Abx off2 i4 s1 n3) ?_ ?_
 ·exact B
 ·rintro ⟨⟩ ⟨⟩ nn
  try dsimp only
  unfold Abx
  exact B

def WY (a : Ph × Int × Int × (List Int)) : List D:=[Rv a.1,.int .i64 a.2.1,.int .i64 a.2.2.1,.sl (a.2.2.2.map OZ)]
def WX (ds : List D) : Ph × Int × Int × (List Int):=(VQ (ds.getD 0 .top),uI (ds.getD 1 .top),uI (ds.getD 2 .top),(uL uI) (ds.getD 3 .top))
theorem Ajh (a : Ph × Int × Int × (List Int)) : WX (WY a) = a:=by simp [WX,WY,uI,PV (u:=uI) (en:=OZ) (fun _=>rfl)]
instance : Px WY WX:=⟨Ajh⟩
def Ux (b : Pc × Int) : D:=.tup [PR b.1,.int .i64 b.2]
noncomputable def Afb : Dw.Spec:=Pf [] .val WY WX (fun a=>Yv a.1 a.2.1 a.2.2.1 a.2.2.2) Ux noE
theorem Aji : Pd Tryz.prog 25 Afb:=by
 refine fn2 4 (Pk (l:=[(38,Xd),(24,Yu),(50,AhK),(33,AcR)]) (by simp [YK,Aau,Amy,Aeq])) Tryz.func25<|?_
 rintro ⟨p1,i2,align3,off4⟩
 unfold Yv
 refine A 12 ?_
 refine bD fun x_x5 hx_x5=>?_
 refine A 16 ?_
 refine cD r ?_ ?_
 ·refine A 9 ?_
  refine Qu (b:=((Pc.mk 0 0 ([])),13)) r ?_ r r ?_ (by first | rfl | (simp only [OV]; rfl) | (simp only [OW]; rfl) | (simp only [OV,OW]; rfl) | simp [Ux,PR]) (by decide)
  all_goals first|(simp;done)|(simp;omega)|rfl|(simp [PG,PE];done)
 ·refine A 9 ?_
  refine lP (E:=fun (s : Int) (g : Nat × Nat)=>[(1,.int .i64 i2),(2,.int .i64 align3),(3,.sl (off4.map OZ)),(4,.optr 4 g.1 0 0),(8,.optr 8 g.2 0 0),(10,.sl (x_x5.Slots.map Pn)),(11,.int .i64 s)]) (O:=fun _ g=>[(4,some (g.1,⟨false,true,1,26,[.agg [.sl (p1.Funcs.map PI)]]⟩)),(8,some (g.2,⟨false,true,3,32,[.agg [.int .i64 0,.int .i64 0,.nils]]⟩))]) (body:=fun s=>XV x_x5 off4 p1 i2 align3 s) (s:=0) (_,_) ((hE ⟨rfl,r,r,r,r,r,r,trivial⟩ ⟨rfl,r,trivial⟩))<|?_
  rintro k6 ⟨v4x1,v8x1⟩ nn
  try dsimp only
  unfold XV
  refine A 9 ?_
  refine cD r ?_ ?_
  ·refine A 8 ?_
   refine bD fun x_x7 hx_x7=>?_
   refine A 4 ?_
   refine bD fun x_x8 hx_x8=>?_
   refine A 4 ?_
   refine bD fun r9 hr9=>?_
   refine A 4 ?_
   refine cD r ?_ ?_
   ·refine A 13 ?_
    refine Qu (b:=((Pc.mk 0 0 ([])),13)) r ?_ r r ?_ (by first | rfl | (simp only [OV]; rfl) | (simp only [OW]; rfl) | (simp only [OV,OW]; rfl) | simp [Ux,PR]) (by decide)
    all_goals first|(simp;done)|(simp;omega)|rfl|(simp [PG,PE];done)
   ·exact B
  ·refine A 9 ?_
   refine bD fun r10 hr10=>?_
   refine A 9 ?_
   refine bD fun r11 hr11=>?_
   refine A 3 ?_
   refine bD fun r12 hr12=>?_
   refine A 14 ?_
   refine Abk r ?_ ?_
   ·refine A 15 ?_
    refine Qu (b:=((Pc.mk 0 0 ([])),9)) r ?_ r r ?_ (by first | rfl | (simp only [OV]; rfl) | (simp only [OW]; rfl) | (simp only [OV,OW]; rfl) | simp [Ux,PR]) (by decide)
    all_goals first|(simp;done)|(simp;omega)|rfl|(simp [PG,PE];done)
   ·refine A 5 ?_
    refine cD r ?_ ?_
    ·refine A 9 ?_
     refine Qu (b:=((Pc.mk 0 0 ([])),9)) r ?_ r r ?_ (by first | rfl | (simp only [OV]; rfl) | (simp only [OW]; rfl) | (simp only [OV,OW]; rfl) | simp [Ux,PR]) (by decide)
     all_goals first|(simp;done)|(simp;omega)|rfl|(simp [PG,PE];done)
    ·refine A 7 ?_
     refine cK fun hq=>aP (([] : List Int)) (off4) OZ r r r r r r r (by simp) r r r (by simp) r (fun _=>r) r hq<|?_
     refine A 6 ?_
     refine Qu (b:=((Pc.mk r10 r12.1 (([] : List Int) ++ off4)),0)) r ?_ r r ?_ (by first | rfl | (simp only [OV]; rfl) | (simp only [OW]; rfl) | (simp only [OV,OW]; rfl) | simp [Ux,PR]) (by decide)
     all_goals first|(simp;done)|(simp;omega)|rfl|(simp [PG,PE];done)

def Aby (b : Ul) : D:=Acg b
noncomputable def AdX : Dw.Spec:=Pf [] .val Vb Va (fun a=>Xj a.1 a.2) Aby noE
theorem Aiq : Pd Tryz.prog 56 AdX:=by
 refine fn2 2 (Pk (l:=[(17,Aak),(77,AfI),(78,AdS),(79,AgI),(80,AfO),(22,AeW),(24,Yu),(23,AeZ),(81,AgL),(29,Acv),(25,Afb)]) (by simp [AbW,AjQ,Ail,Alr,AjY,AiX,Aau,Aje,AlC,AeU,Aji])) Tryz.func56<|?_
 rintro ⟨p1,i2⟩
 unfold Xj
 refine A 11 ?_
 refine bD fun x_x3 hx_x3=>?_
 refine A 9 ?_
 refine bD fun r4 hr4=>?_
 refine A 11 ?_
 refine bD fun r5 hr5=>?_
 refine A 12 ?_
 refine bD fun r6 hr6=>?_
 refine A 14 ?_
 refine bD fun r7 hr7=>?_
 refine A 11 ?_
 refine bD fun r8 hr8=>?_
 refine A 12 ?_
 refine bD fun r9 hr9=>?_
 refine A 10 ?_
 refine bD fun r10 hr10=>?_
 refine A 15 ?_
 refine bD fun r11 hr11=>?_
 refine A 1 ?_
 refine bD fun r12 hr12=>?_
 refine A 15 ?_
 refine cD r ?_ ?_
 ·refine A 8 ?_
  refine UR (b:=(Ul.mk r4 (Pw.mk r6 r7) r9 (Pc.mk 0 0 ([])))) r ?_ r r ?_ (by first | rfl | (simp only [OV]; rfl) | (simp only [OW]; rfl) | (simp only [OV,OW]; rfl) | simp [Aby,Acg])
  all_goals first|(simp;done)|(simp;omega)|rfl|(simp [PG,PE];done)
 ·refine A 7 ?_
  refine bD fun r13 hr13=>?_
  refine A 3 ?_
  refine bD fun r14 hr14=>?_
  refine A 2 ?_
  refine bD fun r15 hr15=>?_
  refine A 15 ?_
  refine UR (b:=(Ul.mk r4 (Pw.mk r6 r7) r9 r15.1)) r ?_ r r ?_ (by first | rfl | (simp only [OV]; rfl) | (simp only [OW]; rfl) | (simp only [OV,OW]; rfl) | simp [Aby,Acg])
  all_goals first|(simp;done)|(simp;omega)|rfl|(simp [PG,PE];done)

def Tw (a : Mk × Ph × Int × Int) : List D:=[Pz a.1,Rv a.2.1,.int .i64 a.2.2.1,.int .i64 a.2.2.2]
def Tv (ds : List D) : Mk × Ph × Int × Int:=(Sc (ds.getD 0 .top),VQ (ds.getD 1 .top),uI (ds.getD 2 .top),uI (ds.getD 3 .top))
theorem Afk (a : Mk × Ph × Int × Int) : Tv (Tw a) = a:=by simp [Tv,Tw,uI]
instance : Px Tw Tv:=⟨Afk⟩
def AbF (b : Pc × Mk) : D:=PR b.1
def AfW (b : Pc × Mk) : List D:=[Pz b.2]
noncomputable def AbG : Dw.Spec:=Pf [(0,(2,99))] .val Tw Tv (fun a=>TS a.1 a.2.1 a.2.2.1 a.2.2.2) AbF AfW
theorem Afl : Pd Tryz.prog 31 AbG:=by
 refine fn2 4 (Pk (l:=[(11,AaA),(28,PO),(56,AdX),(55,Aaw)]) (by simp [AcL,PQ,Aiq,AcB])) Tryz.func31<|?_
 rintro ⟨c1,p2,i3,align4⟩
 unfold TS
 refine A 11 ?_
 refine bD fun r5 hr5=>?_
 refine A 9 ?_
 refine sC (E:=fun (_s : (List Int) × Int × Int × Int × (List Int)) (g : Nat × Nat)=>[(0,.optr 8192 0 0 0),(8,.optr 8 g.1 0 0),(9,.optr 9 g.2 0 0)]) (O:=fun s g=>[(8,some (g.1,⟨false,true,3,32,[.agg [.int .i64 0,.int .i64 0,.nils]]⟩)),(9,some (g.2,⟨false,true,3,32,[.agg [.int .i64 s.2.2.1,.int .i64 s.2.2.2.1,.sl (s.2.2.2.2.map OZ)]]⟩)),(8192,some (0,⟨false,true,2,99,[.agg [.sl (s.1.map eU8),.int .i64 s.2.1]]⟩))]) (j:=fun s=>QC s.1 s.2.1 s.2.2.1 s.2.2.2.1 s.2.2.2.2) ?_ ?_
 ·exact B
 ·rintro ⟨c6,c7,y8,y9,y10⟩ ⟨v8x1,v9x1⟩ nn
  try dsimp only
  unfold QC
  refine A 4 ?_
  refine cK fun hq=>aP (([] : List Int)) (y10) OZ r r r r r r r (by simp) r r r (by simp) r (fun _=>r) r hq<|?_
  refine A 8 ?_
  refine bD fun r13 hr13=>?_
  refine A 5 ?_
  refine lP (E:=fun (s : (List Int) × Int × (List Int) × Int × Int × Int) (g : Nat × Nat × Nat)=>[(0,.optr 8192 0 0 0),(8,.optr 8 g.1 0 0),(9,.optr 9 g.2.1 0 0),(12,.int .i64 s.2.2.2.2.2)]) (O:=fun s g=>[(8,some (g.1,⟨false,true,3,32,[.agg [.int .i64 0,.int .i64 0,.nils]]⟩)),(9,some (g.2.1,⟨false,true,3,32,[.agg [.int .i64 s.2.2.2.1,.int .i64 s.2.2.2.2.1,.osl 39 g.2.2 0 s.2.2.1.length]]⟩)),(39,some (g.2.2,⟨false,false,1,3,s.2.2.1.map OZ⟩)),(8192,some (0,⟨false,true,2,99,[.agg [.sl (s.1.map eU8),.int .i64 s.2.1]]⟩))]) (body:=fun s=>Ud s.1 s.2.1 s.2.2.1 s.2.2.2.1 s.2.2.2.2.1 s.2.2.2.2.2) (s:=(r13.2.list,r13.2.at_,([] : List Int) ++ y10,y8,y9,r13.1)) (_,_,_) ((hE ⟨rfl,r,r,r,trivial⟩ ⟨rfl,r,r,r,trivial⟩))<|?_
  rintro ⟨c14,c15,x16,y17,y18,n19⟩ ⟨v8x2,v9x2,v39x2⟩ nn
  try dsimp only
  unfold Ud
  refine A 7 ?_
  refine cD r ?_ ?_
  ·refine A 11 ?_
   refine bD fun r20 hr20=>?_
   refine A 7 ?_
   refine bD fun r21 hr21=>?_
   refine A 4 ?_
   refine sC (E:=fun (s : Bool) (g : Nat × Nat × Nat)=>[(0,.optr 8192 0 0 0),(8,.optr 8 g.1 0 0),(9,.optr 9 g.2.1 0 0),(12,.int .i64 n19),(13,.int .i64 r20.1),(54,.int .i64 r21.1),(55,.bool s)]) (O:=fun _ g=>[(8,some (g.1,⟨false,true,3,32,[.agg [.int .i64 0,.int .i64 0,.nils]]⟩)),(9,some (g.2.1,⟨false,true,3,32,[.agg [.int .i64 y17,.int .i64 y18,.osl 39 g.2.2 0 x16.length]]⟩)),(39,some (g.2.2,⟨false,false,1,3,x16.map OZ⟩)),(8192,some (0,⟨false,true,2,99,[.agg [.sl (r21.2.list.map eU8),.int .i64 r21.2.at_]]⟩))]) (j:=fun s=>QD r20 x16 r21 y17 y18 n19 s) ?_ ?_
   ·exact B
   ·rintro x22 ⟨v8x3,v9x3,v39x3⟩ nn
    try dsimp only
    unfold QD
    refine cD r ?_ ?_
    ·refine A 9 ?_
     refine cD r ?_ ?_
     ·refine A 7 ?_
      refine bD fun r23 hr23=>?_
      refine A 4 ?_
      refine bD fun x_o24 hx_o24=>?_
      refine A 10 ?_
      exact xL (s:=(r23.2.list,r23.2.at_,x16.set r20.1.toNat (IntKind.i64.wrap (y17 + (IntKind.i64.wrap (8 * r23.1)))),y17,y18,IntKind.i64.wrap (n19 - 1))) (_,_,_) ((hE ⟨rfl,r,r,r,trivial⟩ ⟨rfl,(Eq.trans (b:=some (_,⟨false,true,3,32,[.agg [.int .i64 y17,.int .i64 y18,.osl 39 _ 0 x16.length]]⟩)) r (by simp)),r,r,trivial⟩))
     ·exact B
    ·refine sC (E:=fun (s : Bool) (g : Nat × Nat × Nat)=>[(0,.optr 8192 0 0 0),(8,.optr 8 g.1 0 0),(9,.optr 9 g.2.1 0 0),(12,.int .i64 n19),(13,.int .i64 r20.1),(54,.int .i64 r21.1),(74,.bool s)]) (O:=fun _ g=>[(8,some (g.1,⟨false,true,3,32,[.agg [.int .i64 0,.int .i64 0,.nils]]⟩)),(9,some (g.2.1,⟨false,true,3,32,[.agg [.int .i64 y17,.int .i64 y18,.osl 39 g.2.2 0 x16.length]]⟩)),(39,some (g.2.2,⟨false,false,1,3,x16.map OZ⟩)),(8192,some (0,⟨false,true,2,99,[.agg [.sl (r21.2.list.map eU8),.int .i64 r21.2.at_]]⟩))]) (j:=fun s=>Rn r20 x16 r21 y17 y18 n19 s) ?_ ?_
     ·exact B
     ·rintro x25 ⟨v8x4,v9x4,v39x4⟩ nn
      try dsimp only
      unfold Rn
      refine cD r ?_ ?_
      ·refine A 9 ?_
       refine cD r ?_ ?_
       ·refine A 10 ?_
        refine bD fun r26 hr26=>?_
        refine A 2 ?_
        refine bD fun x_e27 hx_e27=>?_
        refine A 2 ?_
        refine bD fun x_o28 hx_o28=>?_
        refine A 10 ?_
        exact xL (s:=(r26.2.list,r26.2.at_,x16.set r20.1.toNat x_e27,y17,y18,IntKind.i64.wrap (n19 - 1))) (_,_,_) ((hE ⟨rfl,r,r,r,trivial⟩ ⟨rfl,(Eq.trans (b:=some (_,⟨false,true,3,32,[.agg [.int .i64 y17,.int .i64 y18,.osl 39 _ 0 x16.length]]⟩)) r (by simp)),r,r,trivial⟩))
       ·exact B
      ·refine A 6 ?_
       refine cD r ?_ ?_
       ·exact B
       ·refine A 6 ?_
        refine cD r ?_ ?_
        ·refine sC (E:=fun (s : (List Int) × Int × Bool) (g : Nat × Nat × Nat)=>[(0,.optr 8192 0 0 0),(8,.optr 8 g.1 0 0),(9,.optr 9 g.2.1 0 0),(12,.int .i64 n19),(13,.int .i64 r20.1),(116,.bool s.2.2)]) (O:=fun s g=>[(8,some (g.1,⟨false,true,3,32,[.agg [.int .i64 0,.int .i64 0,.nils]]⟩)),(9,some (g.2.1,⟨false,true,3,32,[.agg [.int .i64 y17,.int .i64 y18,.osl 39 g.2.2 0 x16.length]]⟩)),(39,some (g.2.2,⟨false,false,1,3,x16.map OZ⟩)),(8192,some (0,⟨false,true,2,99,[.agg [.sl (s.1.map eU8),.int .i64 s.2.1]]⟩))]) (j:=fun s=>Ro r20 x16 y17 y18 n19 s.1 s.2.1 s.2.2) ?_ ?_
         ·exact B
         ·rintro ⟨c30,c31,x32⟩ ⟨v8x5,v9x5,v39x5⟩ nn
          try dsimp only
          unfold Ro
          refine cD r ?_ ?_
          ·refine A 5 ?_
           refine bD fun r34 hr34=>?_
           refine A 2 ?_
           refine bD fun x_o35 hx_o35=>?_
           refine A 10 ?_
           exact xL (s:=(r34.2.list,r34.2.at_,x16.set r20.1.toNat r34.1,y17,y18,IntKind.i64.wrap (n19 - 1))) (_,_,_) ((hE ⟨rfl,r,r,r,trivial⟩ ⟨rfl,(Eq.trans (b:=some (_,⟨false,true,3,32,[.agg [.int .i64 y17,.int .i64 y18,.osl 39 _ 0 x16.length]]⟩)) r (by simp)),r,r,trivial⟩))
          ·exact B
        ·refine A 6 ?_
         refine cD r ?_ ?_
         ·refine A 3 ?_
          refine bD fun r36 hr36=>?_
          refine A 10 ?_
          refine cD r ?_ ?_
          ·exact B
          ·refine A 6 ?_
           refine cD r ?_ ?_
           ·exact B
           ·refine A 6 ?_
            refine cD r ?_ ?_
            ·refine A 4 ?_
             refine bD fun r39 hr39=>?_
             refine A 15 ?_
             exact xL (s:=(r39.2.list,r39.2.at_,x16 ++ ([r39.1] : List Int),y17,y18,IntKind.i64.wrap (n19 - 1))) (_,_,_) ((Ahq (E1:=[(0,.optr 8192 0 0 0),(8,.optr 8 _ 0 0),(9,.optr 9 _ 0 0),(12,.int .i64 (IntKind.i64.wrap (n19 - 1)))]) (O1:=[(8,some (_,⟨false,true,3,32,[.agg [.int .i64 0,.int .i64 0,.nils]]⟩)),(9,some (_,⟨false,true,3,32,[.agg [.int .i64 y17,.int .i64 y18,.osl 144 _ 0 ((x16 ++ ([r39.1] : List Int)).length)]]⟩)),(144,some (_,⟨false,false,1,3,(x16 ++ ([r39.1] : List Int)).map OZ⟩)),(8192,some (0,⟨false,true,2,99,[.agg [.sl (r39.2.list.map eU8),.int .i64 r39.2.at_]]⟩))]) (hE ⟨rfl,r,r,r,trivial⟩ ⟨rfl,r,r,r,trivial⟩) (fun _=>Ahp (fun g=>bif Nat.beq g 144 then 39 else g) (by rfl) (hE ⟨rfl,r,r,r,trivial⟩ ⟨rfl,r,r,r,trivial⟩))))
            ·exact B
         ·exact B
  ·refine A 12 ?_
   refine UR (b:=((Pc.mk y17 y18 x16),(Mk.mk c14 c15))) r ?_ r r ?_ (by first | rfl | (simp only [OV]; rfl) | (simp only [OW]; rfl) | (simp only [OV,OW]; rfl) | simp [AbF,PR])
   all_goals first|(simp;done)|(simp;omega)|rfl|(simp [PG,PE];done)

def XC (a : (List Int)) : List D:=[.sl (a.map eU8)]
def XB (ds : List D) : (List Int):=(uL uI) (ds.getD 0 .top)
theorem AeK (a : (List Int)) : XB (XC a) = a:=by simp [XB,XC,PV (u:=uI) (en:=eU8) (fun _=>rfl)]
instance : Px XC XB:=⟨AeK⟩
def AkD (b : Ph × Int × Int × Pg × Pc × Mk) : D:=.tup [Rv b.1,.int .i64 b.2.1,.int .i64 b.2.2.1,Qi b.2.2.2.1,PR b.2.2.2.2.1,Pz b.2.2.2.2.2]
noncomputable def AfA : Dw.Spec:=Pf [] (.tupPtr 5 2 99) XC XB (fun a=>ZK a) AkD noE
theorem Ajz : Pd Tryz.prog 9 AfA:=by
 refine fn2 1 (Pk (l:=[(26,AiA),(27,AaR),(28,PO),(29,Acv),(10,Acd),(30,AcD),(31,AbG)]) (by simp [AmR,AeE,PQ,AeU,AfY,Age,Afl])) Tryz.func9<|?_
 intro codes1
 unfold ZK
 refine A 13 ?_
 refine bD fun r2 hr2=>?_
 refine A 7 ?_
 refine bD fun r3 hr3=>?_
 refine A 11 ?_
 refine bD fun r4 hr4=>?_
 refine A 7 ?_
 refine bD fun r5 hr5=>?_
 refine A 10 ?_
 refine bD fun x_x6 hx_x6=>?_
 refine A 2 ?_
 refine bD fun r7 hr7=>?_
 refine A 5 ?_
 refine sC (E:=fun (_s : (List (List Int)) × (List Int) × Int) (g : Nat × Nat × Nat × Nat × Nat × Nat)=>[(2,.optr 2 g.1 0 0),(5,.optr 5 g.2.1 0 0),(6,.optr 6 g.2.2.1 0 0),(8,.optr 14 g.2.2.2.2.2 0 0),(9,.optr 9 g.2.2.2.1 0 0),(10,.int .i64 r4.1),(11,.int .i64 r5),(12,.optr 12 g.2.2.2.2.1 0 0)]) (O:=fun s g=>[(2,some (g.1,⟨false,true,1,26,[.agg [.nils]]⟩)),(5,some (g.2.1,⟨false,true,1,29,[.agg [.nils]]⟩)),(6,some (g.2.2.1,⟨false,true,3,32,[.agg [.int .i64 0,.int .i64 0,.nils]]⟩)),(9,some (g.2.2.2.1,⟨false,true,1,26,[.agg [.sl (r3.1.Funcs.map PI)]]⟩)),(12,some (g.2.2.2.2.1,⟨false,true,1,29,[.agg [.sl (s.1.map (eL OZ))]]⟩)),(14,some (g.2.2.2.2.2,⟨false,true,2,99,[.agg [.sl (s.2.1.map eU8),.int .i64 s.2.2]]⟩))]) (j:=fun s=>Us r3 r4 r5 s.1 s.2.1 s.2.2) ?_ ?_
 ·exact B
 ·rintro ⟨l8,x9,x10⟩ ⟨v2x1,v5x1,v6x1,v9x1,v12x1,v14x1⟩ nn
  try dsimp only
  unfold Us
  exact B

def AfV (b : Bool) : D:=.bool b
noncomputable def Xw : Dw.Spec:=Pf [] .ground PZ PY (fun a=>QN a) AfV noE
theorem AaQ : Pd Tryz.prog 123 Xw:=by
 refine fn2 1 (Pv) Tryz.func123<|?_
 intro a
 unfold QN
 exact B

def Ajm (b : Bool) : D:=.bool b
noncomputable def Aew : Dw.Spec:=Pf [] .ground So Sn (fun a=>Yd a) Ajm noE
theorem Aiw : Pd Tryz.prog 107 Aew:=by
 refine fn2 1 (Pk (l:=[(123,Xw)]) (by simp [AaQ])) Tryz.func107<|?_
 intro s1
 unfold Yd
 refine A 14 ?_
 refine lP (E:=fun (s : Int) (_g : Unit)=>[(0,.sl (s1.map OZ)),(5,.sl (s1.map OZ)),(6,.int .i64 (s1.length : Int)),(7,.int .i64 s)]) (O:=fun _ _=>[]) (body:=fun s=>Rx s1 s) (s:=0) () ((hE ⟨rfl,r,r,r,trivial⟩ trivial))<|?_
 rintro x2 ⟨⟩ nn
 try dsimp only
 unfold Rx
 exact B

def RY (a : (List Int) × OX) : List D:=[.sl (a.1.map OZ),.fptr (PI a.2) 0]
def RX (ds : List D) : (List Int) × OX:=((uL uI) (ds.getD 0 .top),Ss (fpD (ds.getD 1 .top)))
theorem Adk (a : (List Int) × OX) : RX (RY a) = a:=by simp [RX,RY,fpD,PV (u:=uI) (en:=OZ) (fun _=>rfl)]
instance : Px RY RX:=⟨Adk⟩
def AdB (b : Bool) : D:=.bool b
noncomputable def ZE : Dw.Spec:=Pf [] .ground RY RX (fun a=>RT a.1 a.2) AdB noE
theorem Adl : Pd Tryz.prog 106 ZE:=by
 refine fn2 2 (Pk (l:=[(107,Aew)]) (by simp [Aiw])) Tryz.func106<|?_
 intro a
 unfold RT
 exact B

def PW (a : (List (List Int)) × OX) : List D:=[.sl (a.1.map (eL OZ)),.clo 106 [.fptr (PI a.2) 0]]
def PU (ds : List D) : (List (List Int)) × OX:=((uL (uL uI)) (ds.getD 0 .top),Ss (fpD (Ahg (ds.getD 1 .top) 0)))
theorem Rg (a : (List (List Int)) × OX) : PU (PW a) = a:=by simp [PU,PW,fpD,Ahg,PV (u:=(uL uI)) (en:=(eL OZ)) (PV (u:=uI) (en:=OZ) (fun _=>rfl))]
instance : Px PW PU:=⟨Rg⟩
def Zz (b : Int) : D:=.int .i64 b
noncomputable def Rt : Dw.Spec:=Pf [] .ground PW PU (fun a=>Qf a.1 a.2) Zz noE
theorem Yx : Pd Tryz.prog 124 Rt:=by
 refine fn2 2 (Pk (l:=[(106,ZE)]) (by simp [Adl])) Tryz.func124<|?_
 rintro ⟨s1,f2⟩
 unfold Qf
 refine A 14 ?_
 refine lP (E:=fun (s : Int) (_g : Unit)=>[(0,.sl (s1.map (eL OZ))),(1,.clo 106 [.fptr (.agg [.int .i64 f2.Params,.sl (f2.Slots.map Pn),.sl (f2.Code.map Pm)]) 0]),(7,.int .i64 (s1.length : Int)),(8,.int .i64 s)]) (O:=fun _ _=>[]) (body:=fun s=>Qp s1 f2 s) (s:=0) () ((hE ⟨rfl,r,r,r,trivial⟩ trivial))<|?_
 rintro x3 ⟨⟩ nn
 try dsimp only
 unfold Qp
 exact B

def Xy (b : Bool) : D:=.bool b
noncomputable def QS : Dw.Spec:=Pf [] .ground PW PU (fun a=>Qo a.1 a.2) Xy noE
theorem Xk : Pd Tryz.prog 108 QS:=by
 refine fn2 2 (Pk (l:=[(438396,Rt)]) (by simp [Yx])) Tryz.func108<|?_
 rintro ⟨s1,f2⟩
 unfold Qo
 refine A 9 ?_
 refine bD fun r3 hr3=>cG (s1,f2) rfl rfl (show _ = some Rt from by kernel_rfl) Rg rfl rfl (by simp) r hr3 r<|?_
 exact B

def Agv (b : Bool) : D:=.bool b
noncomputable def Yn : Dw.Spec:=Pf [] .ground Ql Qk (fun a=>SR a.1 a.2) Agv noE
theorem AbH : Pd Tryz.prog 82 Yn:=by
 refine fn2 2 (Pk (l:=[(438380,QS)]) (by simp [Xk])) Tryz.func82<|?_
 rintro ⟨f1,l2⟩
 unfold SR
 refine A 6 ?_
 refine VC (E:=[(2,.fptr (.agg [.int .i64 f1.Params,.sl (f1.Slots.map Pn),.sl (f1.Code.map Pm)]) 0),(3,.optr 3 _ 0 0)]) (O:=[(3,some (_,⟨false,true,1,29,[.agg [.sl (l2.Out.map (eL OZ))]]⟩))]) ((AeN (g:=2) r (by first | rfl | (simp [cells,frp,PA,PG]; done)) (hE ⟨(by first | rfl | (simp [Ps,frp]; done) | (simp [Ps,frp,PA]; done) | (simp [Ps,frp,PA,nbq]; done) | (simp [Ps,lkO,frp,PA,frO]; done) | (simp [Ps,lkO,frp,PA,frO]; rfl) | (simp [Ps,lkO,frp,PA,frO,nbq]; done)),(by first | rfl | (simp [Ps,frp]; done) | (simp [Ps,frp,PA]; done) | (simp [Ps,frp,PA,nbq]; done) | (simp [Ps,lkO,frp,PA,frO]; done) | (simp [Ps,lkO,frp,PA,frO]; rfl) | (simp [Ps,lkO,frp,PA,frO,nbq]; done)),trivial⟩ ⟨(by first | rfl | (simp [Ps,frp]; done) | (simp [Ps,frp,PA]; done) | (simp [Ps,frp,PA,nbq]; done) | (simp [Ps,lkO,frp,PA,frO]; done) | (simp [Ps,lkO,frp,PA,frO]; rfl) | (simp [Ps,lkO,frp,PA,frO,nbq]; done)),trivial⟩))) fun nn=>?_
 refine A 2 ?_
 refine mF (caps:=[.fptr (.agg [.int .i64 f1.Params,.sl (f1.Slots.map Pn),.sl (f1.Code.map Pm)]) 0]) r r (by simp [Acx])<|?_
 refine A 13 ?_
 refine Abk r ?_ ?_
 ·refine A 3 ?_
  refine bD fun r3 hr3=>cG (l2.Out,f1) rfl rfl (show _ = some QS from by kernel_rfl) Rg rfl rfl (by simp) r hr3 r<|?_
  exact B
 ·exact B

def Vz (a : Pg) : List D:=[Qi a]
def Vy (ds : List D) : Pg:=UW (ds.getD 0 .top)
theorem Ahv (a : Pg) : Vy (Vz a) = a:=by simp [Vy,Vz]
instance : Px Vz Vy:=⟨Ahv⟩
def AhX (b : Pg) : D:=.clo 127 [.fptr (Qi b) 0]
noncomputable def Adm : Dw.Spec:=Pf [] .val Vz Vy (fun a=>YG a) AhX noE
theorem Ahw : Pd Tryz.prog 110 Adm:=by
 refine fn2 1 (Pv) Tryz.func110<|?_
 intro l1
 unfold YG
 refine A 5 ?_
 refine VC (E:=[(1,.fptr (.agg [.sl (l1.Out.map (eL OZ))]) 0)]) (O:=[]) ((AeN (g:=1) r (by first | rfl | (simp [cells,frp,PA,PG]; done)) (hE ⟨(by first | rfl | (simp [Ps,frp]; done) | (simp [Ps,frp,PA]; done) | (simp [Ps,frp,PA,nbq]; done) | (simp [Ps,lkO,frp,PA,frO]; done) | (simp [Ps,lkO,frp,PA,frO]; rfl) | (simp [Ps,lkO,frp,PA,frO,nbq]; done)),trivial⟩ trivial))) fun nn=>?_
 refine A 2 ?_
 refine mF (caps:=[.fptr (.agg [.sl (l1.Out.map (eL OZ))]) 0]) r r (by simp [Acx])<|?_
 exact B

def Air (b : Bool) : D:=.bool b
noncomputable def Adv : Dw.Spec:=Pf [] .ground PZ PY (fun a=>Zy a) Air noE
theorem Ahy : Pd Tryz.prog 133 Adv:=by
 refine fn2 1 (Pv) Tryz.func133<|?_
 intro a
 unfold Zy
 exact B

def AmW (b : (List Int)) : D:=.sl (b.map OZ)
noncomputable def AhE : Dw.Spec:=Pf [] (.row 1 3) Wp Wo (fun a=>Aci a.1 a.2) AmW noE
theorem AlX : Pd Tryz.prog 125 AhE:=by
 refine fn2 2 (Pk (l:=[(133,Adv),(134,AaH),(135,Yw)]) (by simp [Ahy,Aer,AcT])) Tryz.func125<|?_
 rintro ⟨f1,k2⟩
 unfold Aci
 refine A 6 ?_
 refine sC (E:=fun (_s : Unit) (g : Nat)=>[(1,.int .i64 k2),(2,.optr 2 g 0 0)]) (O:=fun _ g=>[(2,some (g,⟨false,true,3,40,[.agg [.int .i64 f1.Params,.sl (f1.Slots.map Pn),.sl (f1.Code.map Pm)]]⟩))]) (j:=fun _=>AaW f1 k2) ?_ ?_
 ·exact B
 ·rintro ⟨⟩ v2x1 nn
  try dsimp only
  unfold AaW
  refine A 10 ?_
  refine bD fun x_x3 hx_x3=>?_
  refine A 6 ?_
  refine sC (E:=fun (s : (List Int)) (g : Nat × Nat)=>[(5,.osl 5 g.1 0 s.length),(6,.optr 6 g.2 0 0)]) (O:=fun s g=>[(5,some (g.1,⟨false,false,1,3,s.map OZ⟩)),(6,some (g.2,⟨false,true,5,50,[.agg [.int .i64 x_x3.Op,.int .i64 x_x3.A,.int .i64 x_x3.B,.int .i64 x_x3.C,.int .u64 x_x3.Imm]]⟩))]) (j:=fun s=>Yj x_x3 s) ?_ ?_
  ·exact B
  ·rintro l4 ⟨v5x2,v6x2⟩ nn
   try dsimp only
   unfold Yj
   exact B

def SM (a : Int × Pg) : List D:=[.int .i64 a.1,.fptr (Qi a.2) 0]
def SL (ds : List D) : Int × Pg:=(uI (ds.getD 0 .top),UW (fpD (ds.getD 1 .top)))
theorem Aem (a : Int × Pg) : SL (SM a) = a:=by simp [SL,SM,uI,fpD]
instance : Px SM SL:=⟨Aem⟩
def AeO (b : (List Int)) : D:=.sl (b.map OZ)
noncomputable def AaG : Dw.Spec:=Pf [] .val SM SL (fun a=>UU a.1 a.2) AeO noE
theorem Aen : Pd Tryz.prog 127 AaG:=by
 refine fn2 2 (Pv) Tryz.func127<|?_
 intro a
 unfold UU
 exact B

def AhS (b : Int × Bool) : D:=.tup [.int .i64 b.1,.bool b.2]
noncomputable def Aay : Dw.Spec:=Pf [] .ground Qs Qr (fun a=>Uq a) AhS noE
theorem AcH : Pd Tryz.prog 84 Aay:=by
 refine fn2 1 (Pv) Tryz.func84<|?_
 intro a
 unfold Uq
 exact B

def Tf (a : OY × Int × Bool) : List D:=[PD a.1,.int .i64 a.2.1,.bool a.2.2]
def Te (ds : List D) : OY × Int × Bool:=(Rh (ds.getD 0 .top),uI (ds.getD 1 .top),uBo (ds.getD 2 .top))
theorem AeC (a : OY × Int × Bool) : Te (Tf a) = a:=by simp [Te,Tf,uI,uBo]
instance : Px Tf Te:=⟨AeC⟩
def Afi (_b : OY) : D:=.tup []
def Afh (b : OY) : List D:=[PD b]
noncomputable def WC : Dw.Spec:=Pf [(0,(8,160))] .val Tf Te (fun a=>RK a.1 a.2.1 a.2.2) Afi Afh
theorem AaB : Pd Tryz.prog 139 WC:=by
 refine fn2 3 (Pk (l:=[(123,Xw)]) (by simp [AaQ])) Tryz.func139<|?_
 rintro ⟨s1,n2,in3⟩
 unfold RK
 refine A 13 ?_
 refine bD fun r4 hr4=>?_
 refine A 5 ?_
 refine cD r ?_ ?_
 ·exact B
 ·refine A 6 ?_
  refine cD r ?_ ?_
  ·refine A 5 ?_
   refine cK fun hq=>Uo r r r hq<|bD fun s_e5 hs_e5=>WQ (q:=s_e5) (l:=s1.toList) (en:=Aax) (j:=(IntKind.i64.wrap (n2.tdiv 64)).toNat) (by simp) r r r hs_e5 r (fun _=>r)<|?_
   refine A 3 ?_
   refine cK fun hq=>Uo r r r hq<|bD fun s_o6 hs_o6=>AdD (q:=s_o6) (q':=IntKind.u64.wrap ((BitVec.ofInt IntKind.u64.bits s_e5 ||| BitVec.ofInt IntKind.u64.bits (IntKind.u64.wrap (1 * 2 ^ (Nat.min ((IntKind.u64.wrap (n2)).tmod 64).toNat IntKind.u64.bits)))).toNat)) (l:=s1.toList) (en:=Aax) (j:=(IntKind.i64.wrap (n2.tdiv 64)).toNat) (z':=.agg [.int .u64 ((s1.set ((IntKind.i64.wrap (n2.tdiv 64)).toNat) (IntKind.u64.wrap ((BitVec.ofInt IntKind.u64.bits s_e5 ||| BitVec.ofInt IntKind.u64.bits (IntKind.u64.wrap (1 * 2 ^ (Nat.min ((IntKind.u64.wrap (n2)).tmod 64).toNat IntKind.u64.bits)))).toNat))).a0),.int .u64 ((s1.set ((IntKind.i64.wrap (n2.tdiv 64)).toNat) (IntKind.u64.wrap ((BitVec.ofInt IntKind.u64.bits s_e5 ||| BitVec.ofInt IntKind.u64.bits (IntKind.u64.wrap (1 * 2 ^ (Nat.min ((IntKind.u64.wrap (n2)).tmod 64).toNat IntKind.u64.bits)))).toNat))).a1),.int .u64 ((s1.set ((IntKind.i64.wrap (n2.tdiv 64)).toNat) (IntKind.u64.wrap ((BitVec.ofInt IntKind.u64.bits s_e5 ||| BitVec.ofInt IntKind.u64.bits (IntKind.u64.wrap (1 * 2 ^ (Nat.min ((IntKind.u64.wrap (n2)).tmod 64).toNat IntKind.u64.bits)))).toNat))).a2),.int .u64 ((s1.set ((IntKind.i64.wrap (n2.tdiv 64)).toNat) (IntKind.u64.wrap ((BitVec.ofInt IntKind.u64.bits s_e5 ||| BitVec.ofInt IntKind.u64.bits (IntKind.u64.wrap (1 * 2 ^ (Nat.min ((IntKind.u64.wrap (n2)).tmod 64).toNat IntKind.u64.bits)))).toNat))).a3),.int .u64 ((s1.set ((IntKind.i64.wrap (n2.tdiv 64)).toNat) (IntKind.u64.wrap ((BitVec.ofInt IntKind.u64.bits s_e5 ||| BitVec.ofInt IntKind.u64.bits (IntKind.u64.wrap (1 * 2 ^ (Nat.min ((IntKind.u64.wrap (n2)).tmod 64).toNat IntKind.u64.bits)))).toNat))).a4),.int .u64 ((s1.set ((IntKind.i64.wrap (n2.tdiv 64)).toNat) (IntKind.u64.wrap ((BitVec.ofInt IntKind.u64.bits s_e5 ||| BitVec.ofInt IntKind.u64.bits (IntKind.u64.wrap (1 * 2 ^ (Nat.min ((IntKind.u64.wrap (n2)).tmod 64).toNat IntKind.u64.bits)))).toNat))).a5),.int .u64 ((s1.set ((IntKind.i64.wrap (n2.tdiv 64)).toNat) (IntKind.u64.wrap ((BitVec.ofInt IntKind.u64.bits s_e5 ||| BitVec.ofInt IntKind.u64.bits (IntKind.u64.wrap (1 * 2 ^ (Nat.min ((IntKind.u64.wrap (n2)).tmod 64).toNat IntKind.u64.bits)))).toNat))).a6),.int .u64 ((s1.set ((IntKind.i64.wrap (n2.tdiv 64)).toNat) (IntKind.u64.wrap ((BitVec.ofInt IntKind.u64.bits s_e5 ||| BitVec.ofInt IntKind.u64.bits (IntKind.u64.wrap (1 * 2 ^ (Nat.min ((IntKind.u64.wrap (n2)).tmod 64).toNat IntKind.u64.bits)))).toNat))).a7)]) (by simp) r r r r r hs_o6 r r (congrArg (fun l=>D.agg (l.map Aax)) (Rl s1 ((IntKind.i64.wrap (n2.tdiv 64)).toNat) (IntKind.u64.wrap ((BitVec.ofInt IntKind.u64.bits s_e5 ||| BitVec.ofInt IntKind.u64.bits (IntKind.u64.wrap (1 * 2 ^ (Nat.min ((IntKind.u64.wrap (n2)).tmod 64).toNat IntKind.u64.bits)))).toNat))).symm) r r<|?_
   exact B
  ·refine A 5 ?_
   refine cK fun hq=>Uo r r r hq<|bD fun s_e7 hs_e7=>WQ (q:=s_e7) (l:=s1.toList) (en:=Aax) (j:=(IntKind.i64.wrap (n2.tdiv 64)).toNat) (by simp) r r r hs_e7 r (fun _=>r)<|?_
   refine A 3 ?_
   refine cK fun hq=>Uo r r r hq<|bD fun s_o8 hs_o8=>AdD (q:=s_o8) (q':=IntKind.u64.wrap ((BitVec.ofInt IntKind.u64.bits s_e7 &&& ~~~ BitVec.ofInt IntKind.u64.bits (IntKind.u64.wrap (1 * 2 ^ (Nat.min ((IntKind.u64.wrap (n2)).tmod 64).toNat IntKind.u64.bits)))).toNat)) (l:=s1.toList) (en:=Aax) (j:=(IntKind.i64.wrap (n2.tdiv 64)).toNat) (z':=.agg [.int .u64 ((s1.set ((IntKind.i64.wrap (n2.tdiv 64)).toNat) (IntKind.u64.wrap ((BitVec.ofInt IntKind.u64.bits s_e7 &&& ~~~ BitVec.ofInt IntKind.u64.bits (IntKind.u64.wrap (1 * 2 ^ (Nat.min ((IntKind.u64.wrap (n2)).tmod 64).toNat IntKind.u64.bits)))).toNat))).a0),.int .u64 ((s1.set ((IntKind.i64.wrap (n2.tdiv 64)).toNat) (IntKind.u64.wrap ((BitVec.ofInt IntKind.u64.bits s_e7 &&& ~~~ BitVec.ofInt IntKind.u64.bits (IntKind.u64.wrap (1 * 2 ^ (Nat.min ((IntKind.u64.wrap (n2)).tmod 64).toNat IntKind.u64.bits)))).toNat))).a1),.int .u64 ((s1.set ((IntKind.i64.wrap (n2.tdiv 64)).toNat) (IntKind.u64.wrap ((BitVec.ofInt IntKind.u64.bits s_e7 &&& ~~~ BitVec.ofInt IntKind.u64.bits (IntKind.u64.wrap (1 * 2 ^ (Nat.min ((IntKind.u64.wrap (n2)).tmod 64).toNat IntKind.u64.bits)))).toNat))).a2),.int .u64 ((s1.set ((IntKind.i64.wrap (n2.tdiv 64)).toNat) (IntKind.u64.wrap ((BitVec.ofInt IntKind.u64.bits s_e7 &&& ~~~ BitVec.ofInt IntKind.u64.bits (IntKind.u64.wrap (1 * 2 ^ (Nat.min ((IntKind.u64.wrap (n2)).tmod 64).toNat IntKind.u64.bits)))).toNat))).a3),.int .u64 ((s1.set ((IntKind.i64.wrap (n2.tdiv 64)).toNat) (IntKind.u64.wrap ((BitVec.ofInt IntKind.u64.bits s_e7 &&& ~~~ BitVec.ofInt IntKind.u64.bits (IntKind.u64.wrap (1 * 2 ^ (Nat.min ((IntKind.u64.wrap (n2)).tmod 64).toNat IntKind.u64.bits)))).toNat))).a4),.int .u64 ((s1.set ((IntKind.i64.wrap (n2.tdiv 64)).toNat) (IntKind.u64.wrap ((BitVec.ofInt IntKind.u64.bits s_e7 &&& ~~~ BitVec.ofInt IntKind.u64.bits (IntKind.u64.wrap (1 * 2 ^ (Nat.min ((IntKind.u64.wrap (n2)).tmod 64).toNat IntKind.u64.bits)))).toNat))).a5),.int .u64 ((s1.set ((IntKind.i64.wrap (n2.tdiv 64)).toNat) (IntKind.u64.wrap ((BitVec.ofInt IntKind.u64.bits s_e7 &&& ~~~ BitVec.ofInt IntKind.u64.bits (IntKind.u64.wrap (1 * 2 ^ (Nat.min ((IntKind.u64.wrap (n2)).tmod 64).toNat IntKind.u64.bits)))).toNat))).a6),.int .u64 ((s1.set ((IntKind.i64.wrap (n2.tdiv 64)).toNat) (IntKind.u64.wrap ((BitVec.ofInt IntKind.u64.bits s_e7 &&& ~~~ BitVec.ofInt IntKind.u64.bits (IntKind.u64.wrap (1 * 2 ^ (Nat.min ((IntKind.u64.wrap (n2)).tmod 64).toNat IntKind.u64.bits)))).toNat))).a7)]) (by simp) r r r r r hs_o8 r r (congrArg (fun l=>D.agg (l.map Aax)) (Rl s1 ((IntKind.i64.wrap (n2.tdiv 64)).toNat) (IntKind.u64.wrap ((BitVec.ofInt IntKind.u64.bits s_e7 &&& ~~~ BitVec.ofInt IntKind.u64.bits (IntKind.u64.wrap (1 * 2 ^ (Nat.min ((IntKind.u64.wrap (n2)).tmod 64).toNat IntKind.u64.bits)))).toNat))).symm) r r<|?_
   exact B

def Aiz (b : OY) : D:=PD b
noncomputable def Vi : Dw.Spec:=Pf [] (.ptr 8 160) So Sn (fun a=>Ri a) Aiz noE
theorem WB : Pd Tryz.prog 128 Vi:=by
 refine fn2 1 (Pk (l:=[(139,WC)]) (by simp [AaB])) Tryz.func128<|?_
 intro l1
 unfold Ri
 refine A 21 ?_
 refine lP (E:=fun (s : OY × Int) (g : Nat)=>[(3,.optr 7 g 0 0),(8,.sl (l1.map OZ)),(9,.int .i64 (l1.length : Int)),(10,.int .i64 s.2)]) (O:=fun s g=>[(7,some (g,⟨false,true,8,160,[.agg [.int .u64 s.1.a0,.int .u64 s.1.a1,.int .u64 s.1.a2,.int .u64 s.1.a3,.int .u64 s.1.a4,.int .u64 s.1.a5,.int .u64 s.1.a6,.int .u64 s.1.a7]]⟩))]) (body:=fun s=>WA l1 s.1 s.2) (s:=((OY.mk 0 0 0 0 0 0 0 0),0)) _ ((hE ⟨rfl,r,r,r,trivial⟩ ⟨rfl,trivial⟩))<|?_
 rintro ⟨x2,x3⟩ v7x1 nn
 try dsimp only
 unfold WA
 exact B

end Go.Proofs.YtnldnldmgceooaaGreatDoor
