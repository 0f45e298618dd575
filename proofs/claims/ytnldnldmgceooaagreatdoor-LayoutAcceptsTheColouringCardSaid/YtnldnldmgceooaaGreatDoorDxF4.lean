/-
  Programs on typed data, and the proofs that the code does what they say; written by a program (dx.py).
-/
import Derived.Test.YtnldnldmgceooaaGreatDoorProg
import Derived.Test.YtnldnldmgceooaaGreatDoorDd
import Derived.KernelRfl
import Derived.Test.YtnldnldmgceooaaGreatDoorSh
import Derived.Test.YtnldnldmgceooaaGreatDoorDxP
import Derived.Test.YtnldnldmgceooaaGreatDoorDxF1
import Derived.Test.YtnldnldmgceooaaGreatDoorDxF2
import Derived.Test.YtnldnldmgceooaaGreatDoorDxF3
namespace Go.Proofs.YtnldnldmgceooaaGreatDoor
open Go Go.Dw Go.Proofs
set_option maxRecDepth 100000
set_option maxHeartbeats 4000000
open Go.Dw renaming QU → bD,PN → cK,AcW → bS,AaX → cG,Aey → aP,Ue → sE,AbD → iO,Acy → cD,AeS → xL,Aah → hE,Aez → lP,AaZ → sC,Zg → bC,AmM → mF,rf → r
def AkU (b : (List Int)) : D:=.sl (b.map Pa)
noncomputable def Afw : Dw.Spec:=Pf [] (.row 1 3) TP TO (fun a=>VU a) AkU noE
theorem AjI : Pd Tryz.prog 48 Afw:=by
 refine fn2 1 (Pk (l:=[(72,AeE)]) (by simp [AiJ])) Tryz.func48<|?_
 intro s1
 unfold VU
 refine A 17 ?_
 refine lP (E:=fun (s : (List Int) × Int) (g : Nat)=>[(0,.sl (s1.map Po)),(3,.osl 3 g 0 s.1.length),(4,.int .i64 s.2)]) (O:=fun s g=>[(3,some (g,⟨false,false,1,3,s.1.map Pa⟩))]) (body:=fun s=>WJ s1 s.1 s.2) (s:=(([] : List Int),0)) _ ((hE ⟨rfl,r,r,trivial⟩ ⟨rfl,trivial⟩))<|?_
 rintro ⟨out2,i3⟩ v3x1 nn
 try dsimp only
 unfold WJ
 refine A 9 ?_
 refine cD r ?_ ?_
 ·refine A 2 ?_
  refine bC (E:=fun (s : (List Int)) (g : Nat)=>[(0,.sl (s1.map Po)),(3,.osl 3 g 0 s.length),(4,.int .i64 i3)]) (O:=fun s g=>[(3,some (g,⟨false,false,1,3,s.map Pa⟩))]) (j:=fun s=>WL i3 s) ?_ ?_
  ·refine A 7 ?_
   refine bC (E:=fun (s : Int) (g : Nat)=>[(0,.sl (s1.map Po)),(3,.osl 3 g 0 out2.length),(4,.int .i64 i3),(5,.int .i64 s)]) (O:=fun _ g=>[(3,some (g,⟨false,false,1,3,out2.map Pa⟩))]) (j:=fun s=>Se out2 i3 s) ?_ ?_
   ·refine lP (E:=fun (s : Int) (g : Nat)=>[(0,.sl (s1.map Po)),(3,.osl 3 g 0 out2.length),(4,.int .i64 i3),(5,.int .i64 s)]) (O:=fun _ g=>[(3,some (g,⟨false,false,1,3,out2.map Pa⟩))]) (body:=fun s=>WK s1 i3 out2 s) (s:=(out2.length : Int)) _ ((hE ⟨rfl,r,r,r,trivial⟩ ⟨rfl,trivial⟩))<|?_
    rintro k6 v3x2 nn
    try dsimp only
    unfold WK
    exact B
   ·rintro k5 v3x3 nn
    try dsimp only
    unfold Se
    refine A 4 ?_
    refine cK fun hq=>AbB (l:=out2) r r r r r r hq<|cK fun hq=>aP (([] : List Int)) (out2.take k5.toNat) Pa r r r r r r r (by first | (simp; done) | (simp; omega)) (by simp [List.map_take]) r r (by simp) r (fun _=>r) r hq<|?_
    refine A 7 ?_
    refine cK fun hq=>aP (([] : List Int) ++ (out2.take k5.toNat)) (([i3] : List Int)) Pa r r r r r r r (by simp) (TH _ _ r) r r (by simp) (Sz _ _ r) (fun _=>r) r hq<|?_
    refine A 2 ?_
    refine cK fun hq=>Zf (l:=out2) r r r r r r hq<|cK fun hq=>aP ((([] : List Int) ++ (out2.take k5.toNat)) ++ ([i3] : List Int)) (out2.drop k5.toNat) Pa r r r r r r r (by first | (simp; done) | (simp; omega)) (AcV _ _ _) r r (by simp) (Sz _ _ r) (fun _=>r) r hq<|?_
    exact B
  ·rintro out4 v3x4 nn
   try dsimp only
   unfold WL
   exact B
 ·exact B

def Akq (b : Bool) : D:=.bool b
noncomputable def Aaj : Dw.Spec:=Pf [] .ground UD UC (fun a=>QP a) Akq noE
theorem AbM : Pd Tryz.prog 38 Aaj:=by
 refine fn2 1 (Pk (l:=[(47,Xu)]) (by simp [YX])) Tryz.func38<|?_
 intro a
 unfold QP
 exact B

def SC (a : Pe × Pe) : List D:=[Qc a.1,Qc a.2]
def SB (ds : List D) : Pe × Pe:=(TE (ds.getD 0 .top),TE (ds.getD 1 .top))
theorem AhG (a : Pe × Pe) : SB (SC a) = a:=by simp [SB,SC]
instance : Px SC SB:=⟨AhG⟩
def Ais (b : Bool) : D:=.bool b
noncomputable def Ady : Dw.Spec:=Pf [] .ground SC SB (fun a=>SD a.1 a.2) Ais noE
theorem AhH : Pd Tryz.prog 16 Ady:=by
 refine fn2 2 (Pk (l:=[(38,Aaj)]) (by simp [AbM])) Tryz.func16<|?_
 intro a
 unfold SD
 exact B

def YZ (a : (List Pe) × Pe) : List D:=[.sl (a.1.map Qc),Qc a.2]
def YY (ds : List D) : (List Pe) × Pe:=((uL TE) (ds.getD 0 .top),TE (ds.getD 1 .top))
theorem Aks (a : (List Pe) × Pe) : YY (YZ a) = a:=by simp [YY,YZ,PV (u:=TE) (en:=Qc) Ahl]
instance : Px YZ YY:=⟨Aks⟩
def AlL (b : Bool) : D:=.bool b
noncomputable def Agg : Dw.Spec:=Pf [] .ground YZ YY (fun a=>WX a.1 a.2) AlL noE
theorem Akt : Pd Tryz.prog 73 Agg:=by
 refine fn2 2 (Pk (l:=[(16,Ady)]) (by simp [AhH])) Tryz.func73<|?_
 rintro ⟨used1,x2⟩
 unfold WX
 refine A 13 ?_
 refine lP (E:=fun (s : Int) (g : Nat)=>[(0,.sl (used1.map Qc)),(3,.optr 3 g 0 0),(5,.int .i64 s)]) (O:=fun _ g=>[(3,some (g,⟨false,true,2,56,[.agg [.int .i64 x2.Off,.int .i64 x2.Size]]⟩))]) (body:=fun s=>Xv used1 x2 s) (s:=0) _ ((hE ⟨rfl,r,r,trivial⟩ ⟨rfl,trivial⟩))<|?_
 rintro i3 v3x1 nn
 try dsimp only
 unfold Xv
 exact B

def Aag (a : (List Pe) × Int × Int × Int) : List D:=[.sl (a.1.map Qc),.int .i64 a.2.1,.int .i64 a.2.2.1,.int .i64 a.2.2.2]
def Aaf (ds : List D) : (List Pe) × Int × Int × Int:=((uL TE) (ds.getD 0 .top),uI (ds.getD 1 .top),uI (ds.getD 2 .top),uI (ds.getD 3 .top))
theorem AlJ (a : (List Pe) × Int × Int × Int) : Aaf (Aag a) = a:=by simp [Aaf,Aag,uI,PV (u:=TE) (en:=Qc) Ahl]
instance : Px Aag Aaf:=⟨AlJ⟩
def AmA (b : Int × Int) : D:=.tup [.int .i64 b.1,.int .i64 b.2]
noncomputable def Ahf : Dw.Spec:=Pf [] .ground Aag Aaf (fun a=>Yx a.1 a.2.1 a.2.2.1 a.2.2.2) AmA noE
theorem AlK : Pd Tryz.prog 49 Ahf:=by
 refine fn2 4 (Pk (l:=[(47,Xu),(58,Aai),(38,Aaj),(33,AcG),(73,Agg)]) (by simp [YX,AbL,AbM,Aec,Akt])) Tryz.func49<|?_
 rintro ⟨used1,from2,size3,align4⟩
 unfold Yx
 refine A 6 ?_
 refine sC (E:=fun (_s : Unit) (_g : Unit)=>[(0,.sl (used1.map Qc)),(1,.int .i64 from2),(2,.int .i64 size3),(3,.int .i64 align4)]) (O:=fun _ _=>[]) (j:=fun _=>YA used1 align4 size3 from2) ?_ ?_
 ·exact B
 ·rintro ⟨⟩ ⟨⟩ nn
  try dsimp only
  unfold YA
  refine A 7 ?_
  refine lP (E:=fun (s : Int) (_g : Unit)=>[(0,.sl (used1.map Qc)),(1,.int .i64 from2),(2,.int .i64 size3),(3,.int .i64 align4),(10,.int .i64 s)]) (O:=fun _ _=>[]) (body:=fun s=>Yy used1 align4 size3 from2 s) (s:=0) () ((hE ⟨rfl,r,r,r,r,trivial⟩ trivial))<|?_
  rintro i8 ⟨⟩ nn
  try dsimp only
  unfold Yy
  refine A 9 ?_
  refine cD r ?_ ?_
  ·exact B
  ·refine A 18 ?_
   refine lP (E:=fun (s : Int × Bool × Int) (_g : Unit)=>[(0,.sl (used1.map Qc)),(1,.int .i64 from2),(2,.int .i64 size3),(3,.int .i64 align4),(11,.int .i64 s.1),(12,.bool s.2.1),(13,.int .i64 s.2.2)]) (O:=fun _ _=>[]) (body:=fun s=>Yz used1 align4 size3 from2 s.1 s.2.1 s.2.2) (s:=(0,false,(-1))) () ((hE ⟨rfl,r,r,r,r,r,r,trivial⟩ trivial))<|?_
   rintro ⟨best11,found12,i13⟩ ⟨⟩ nn
   try dsimp only
   unfold Yz
   refine A 9 ?_
   refine cD r ?_ ?_
   ·refine A 10 ?_
    refine sC (E:=fun (s : Int) (_g : Unit)=>[(0,.sl (used1.map Qc)),(1,.int .i64 from2),(2,.int .i64 size3),(3,.int .i64 align4),(11,.int .i64 best11),(12,.bool found12),(13,.int .i64 i13),(14,.int .i64 s)]) (O:=fun _ _=>[]) (j:=fun s=>Tz align4 size3 used1 found12 i13 best11 s) ?_ ?_
    ·exact B
    ·rintro at14 ⟨⟩ nn
     try dsimp only
     unfold Tz
     exact B
   ·exact B

def Xk (a : (List Pm) × (List (List Int)) × Int) : List D:=[.sl (a.1.map Po),.sl (a.2.1.map (eL Pa)),.int .i64 a.2.2]
def Xj (ds : List D) : (List Pm) × (List (List Int)) × Int:=((uL Yg) (ds.getD 0 .top),(uL (uL uI)) (ds.getD 1 .top),uI (ds.getD 2 .top))
theorem AiH (a : (List Pm) × (List (List Int)) × Int) : Xj (Xk a) = a:=by simp [Xj,Xk,uI,PV (u:=Yg) (en:=Po) AeK,PV (u:=(uL uI)) (en:=(eL Pa)) (PV (u:=uI) (en:=Pa) (fun _=>rfl))]
instance : Px Xk Xj:=⟨AiH⟩
def AjH (b : (List Int) × Int) : D:=.tup [.sl (b.1.map Pa),.int .i64 b.2]
noncomputable def AbR : Dw.Spec:=Pf [] .val Xk Xj (fun a=>TC a.1 a.2.1 a.2.2) AjH noE
theorem AdJ : Pd Tryz.prog 23 AbR:=by
 refine fn2 3 (Pk (l:=[(45,Ach),(46,Afo),(47,Xu),(48,Afw),(15,XG),(49,Ahf)]) (by simp [Aew,Aju,YX,AjI,YC,AlK])) Tryz.func23<|?_
 rintro ⟨s1,g2,from3⟩
 unfold TC
 refine A 10 ?_
 refine bD fun r4 hr4=>?_
 refine A 10 ?_
 refine cD r ?_ ?_
 ·exact B
 ·refine A 2 ?_
  refine sC (E:=fun (_s : Unit) (_g : Unit)=>[(0,.sl (s1.map Po)),(1,.sl (g2.map (eL Pa))),(2,.int .i64 from3)]) (O:=fun _ _=>[]) (j:=fun _=>VE s1 g2 from3) ?_ ?_
  ·exact B
  ·rintro ⟨⟩ ⟨⟩ nn
   try dsimp only
   unfold VE
   refine A 15 ?_
   refine bD fun r7 hr7=>?_
   refine A 11 ?_
   refine lP (E:=fun (s : (List Bool) × (List Int) × Int) (g : Nat × Nat × Nat)=>[(0,.sl (s1.map Po)),(1,.sl (g2.map (eL Pa))),(2,.int .i64 from3),(9,.osl 9 g.1 0 s.2.1.length),(10,.osl 10 g.2.1 0 s.1.length),(11,.osl 11 g.2.2 0 r7.length),(12,.int .i64 s.2.2)]) (O:=fun s g=>[(9,some (g.1,⟨false,false,1,3,s.2.1.map Pa⟩)),(10,some (g.2.1,⟨false,false,1,4,s.1.map D.bool⟩)),(11,some (g.2.2,⟨false,false,1,3,r7.map Pa⟩))]) (body:=fun s=>VB r7 s1 g2 from3 s.1 s.2.1 s.2.2) (s:=(List.replicate (s1.length : Int).toNat false,List.replicate (s1.length : Int).toNat (0 : Int),0)) (_,_,_) ((hE ⟨rfl,r,r,r,r,r,r,trivial⟩ ⟨rfl,r,r,trivial⟩))<|?_
   rintro ⟨done8,off9,i10⟩ ⟨v9x2,v10x2,v11x2⟩ nn
   try dsimp only
   unfold VB
   refine A 9 ?_
   refine cD r ?_ ?_
   ·refine A 2 ?_
    refine bC (E:=fun (s : (List Bool) × (List Int)) (g : Nat × Nat × Nat)=>[(0,.sl (s1.map Po)),(1,.sl (g2.map (eL Pa))),(2,.int .i64 from3),(9,.osl 9 g.1 0 s.2.length),(10,.osl 10 g.2.1 0 s.1.length),(11,.osl 11 g.2.2 0 r7.length),(12,.int .i64 i10)]) (O:=fun s g=>[(9,some (g.1,⟨false,false,1,3,s.2.map Pa⟩)),(10,some (g.2.1,⟨false,false,1,4,s.1.map D.bool⟩)),(11,some (g.2.2,⟨false,false,1,3,r7.map Pa⟩))]) (j:=fun s=>VF i10 s.1 s.2) ?_ ?_
    ·refine A 5 ?_
     refine bD fun order_e13 horder_e13=>?_
     refine A 16 ?_
     refine lP (E:=fun (s : (List Pe) × Int) (g : Nat × Nat × Nat × Nat)=>[(0,.sl (s1.map Po)),(1,.sl (g2.map (eL Pa))),(2,.int .i64 from3),(9,.osl 9 g.1 0 off9.length),(10,.osl 10 g.2.1 0 done8.length),(11,.osl 11 g.2.2.1 0 r7.length),(12,.int .i64 i10),(13,.int .i64 order_e13),(14,.osl 14 g.2.2.2 0 s.1.length),(15,.int .i64 s.2)]) (O:=fun s g=>[(9,some (g.1,⟨false,false,1,3,off9.map Pa⟩)),(10,some (g.2.1,⟨false,false,1,4,done8.map D.bool⟩)),(11,some (g.2.2.1,⟨false,false,1,3,r7.map Pa⟩)),(14,some (g.2.2.2,⟨false,false,2,56,s.1.map Qc⟩))]) (body:=fun s=>VD s1 done8 g2 order_e13 off9 from3 i10 s.1 s.2) (s:=(([] : List Pe),0)) (_,_,_,_) ((hE ⟨rfl,r,r,r,r,r,r,r,r,r,trivial⟩ ⟨rfl,r,r,r,trivial⟩))<|?_
     rintro ⟨used14,y15⟩ ⟨v9x3,v10x3,v11x3,v14x3⟩ nn
     try dsimp only
     unfold VD
     refine A 9 ?_
     refine cD r ?_ ?_
     ·refine A 4 ?_
      refine sC (E:=fun (s : Bool) (g : Nat × Nat × Nat × Nat)=>[(0,.sl (s1.map Po)),(1,.sl (g2.map (eL Pa))),(2,.int .i64 from3),(9,.osl 9 g.1 0 off9.length),(10,.osl 10 g.2.1 0 done8.length),(11,.osl 11 g.2.2.1 0 r7.length),(12,.int .i64 i10),(13,.int .i64 order_e13),(14,.osl 14 g.2.2.2 0 used14.length),(15,.int .i64 y15),(68,.bool s)]) (O:=fun _ g=>[(9,some (g.1,⟨false,false,1,3,off9.map Pa⟩)),(10,some (g.2.1,⟨false,false,1,4,done8.map D.bool⟩)),(11,some (g.2.2.1,⟨false,false,1,3,r7.map Pa⟩)),(14,some (g.2.2.2,⟨false,false,2,56,used14.map Qc⟩))]) (j:=fun s=>QA y15 off9 s1 used14 s) ?_ ?_
      ·exact B
      ·rintro x16 ⟨v9x4,v10x4,v11x4,v14x4⟩ nn
       try dsimp only
       unfold QA
       refine cD r ?_ ?_
       ·refine A 5 ?_
        refine bD fun off_e20 hoff_e20=>?_
        refine A 3 ?_
        refine bD fun x_x21 hx_x21=>?_
        refine A 4 ?_
        refine bS ([(Pe.mk off_e20 x_x21.Size)] : List Pe) Qc r r r (by simp) r r r<|?_
        exact B
       ·exact B
     ·exact B
    ·rintro ⟨done11,off12⟩ ⟨v9x5,v10x5,v11x5⟩ nn
     try dsimp only
     unfold VF
     exact B
   ·exact B

def Ug (a : Pj × Int × OX) : List D:=[RE a.1,.int .i64 a.2.1,PM a.2.2]
def Uf (ds : List D) : Pj × Int × OX:=(VV (ds.getD 0 .top),uI (ds.getD 1 .top),SS (ds.getD 2 .top))
theorem AhQ (a : Pj × Int × OX) : Uf (Ug a) = a:=by simp [Uf,Ug,uI]
instance : Px Ug Uf:=⟨AhQ⟩
def AdG (b : Pj) : D:=RE b
noncomputable def AdH : Dw.Spec:=Pf [] .val Ug Uf (fun a=>Aap a.1 a.2.1 a.2.2) AdG noE
theorem AhR : Pd Tryz.prog 105 AdH:=by
 refine fn2 3 (Pv) Tryz.func105<|?_
 rintro ⟨p1,i2,f3⟩
 unfold Aap
 refine A 11 ?_
 refine cK fun hq=>aP (([] : List OX)) (p1.Funcs) PM r r r r r r r (by simp) r r r (by simp) r (fun _=>r) r hq<|?_
 refine A 8 ?_
 refine cK fun hq=>iO (l:=([] : List OX) ++ p1.Funcs) (en:=PM) r r r r r hq<|bD fun l_o4 hl_o4=>sE (l:=([] : List OX) ++ p1.Funcs) (en:=PM) (q':=f3) r r r r r r r (by simp) hl_o4 r r r r r<|?_
 refine A 10 ?_
 refine UR (b:=(Pj.mk ((([] : List OX) ++ p1.Funcs).set i2.toNat f3))) r ?_ r r ?_ (by first | rfl | (simp only; rfl) | (simp only; rfl) | (simp only; rfl) | simp [AdG,RE])
 all_goals first|(simp;done)|(simp;omega)|rfl|(simp [PG,PE];done)

def AlZ (b : Pj) : D:=RE b
noncomputable def Agp : Dw.Spec:=Pf [] .val Ug Uf (fun a=>AcH a.1 a.2.1 a.2.2) AlZ noE
theorem AkV : Pd Tryz.prog 81 Agp:=by
 refine fn2 3 (Pk (l:=[(105,AdH)]) (by simp [AhR])) Tryz.func81<|?_
 intro a
 unfold AcH
 exact B

def Aat (a : (List Pm) × (List Int)) : List D:=[.sl (a.1.map Po),.sl (a.2.map Pa)]
def Aas (ds : List D) : (List Pm) × (List Int):=((uL Yg) (ds.getD 0 .top),(uL uI) (ds.getD 1 .top))
theorem AlV (a : (List Pm) × (List Int)) : Aas (Aat a) = a:=by simp [Aas,Aat,PV (u:=Yg) (en:=Po) AeK,PV (u:=uI) (en:=Pa) (fun _=>rfl)]
instance : Px Aat Aas:=⟨AlV⟩
def AmE (b : Int) : D:=.int .i64 b
noncomputable def Ahj : Dw.Spec:=Pf [] .ground Aat Aas (fun a=>YE a.1 a.2) AmE noE
theorem AlW : Pd Tryz.prog 50 Ahj:=by
 refine fn2 2 (Pv) Tryz.func50<|?_
 rintro ⟨s1,off2⟩
 unfold YE
 refine A 17 ?_
 refine lP (E:=fun (s : Int × Int) (_g : Unit)=>[(0,.sl (s1.map Po)),(1,.sl (off2.map Pa)),(5,.int .i64 s.1),(6,.int .i64 s.2)]) (O:=fun _ _=>[]) (body:=fun s=>YF s1 off2 s.1 s.2) (s:=(0,0)) () ((hE ⟨rfl,r,r,r,trivial⟩ trivial))<|?_
 rintro ⟨n3,i4⟩ ⟨⟩ nn
 try dsimp only
 unfold YF
 refine sC (E:=fun (_s : Unit) (_g : Unit)=>[(0,.sl (s1.map Po)),(1,.sl (off2.map Pa)),(5,.int .i64 n3),(6,.int .i64 i4),(12,.int .i64 i4),(13,.sl (off2.map Pa)),(14,.int .i64 (off2.length : Int)),(15,.bool (decide (i4 < (off2.length : Int))))]) (O:=fun _ _=>[]) (j:=fun _=>YG off2 i4 s1 n3) ?_ ?_
 ·exact B
 ·rintro ⟨⟩ ⟨⟩ nn
  try dsimp only
  unfold YG
  exact B

def Xp (a : Pj × Int × Int × (List Int)) : List D:=[RE a.1,.int .i64 a.2.1,.int .i64 a.2.2.1,.sl (a.2.2.2.map Pa)]
def Xo (ds : List D) : Pj × Int × Int × (List Int):=(VV (ds.getD 0 .top),uI (ds.getD 1 .top),uI (ds.getD 2 .top),(uL uI) (ds.getD 3 .top))
theorem AiK (a : Pj × Int × Int × (List Int)) : Xo (Xp a) = a:=by simp [Xo,Xp,uI,PV (u:=uI) (en:=Pa) (fun _=>rfl)]
instance : Px Xp Xo:=⟨AiK⟩
def Uy (b : Pg × Int) : D:=.tup [Qh b.1,.int .i64 b.2]
noncomputable def AbS : Dw.Spec:=Pf [] .val Xp Xo (fun a=>TD a.1 a.2.1 a.2.2.1 a.2.2.2) Uy noE
theorem AdK : Pd Tryz.prog 25 AbS:=by
 refine fn2 4 (Pk (l:=[(38,Aaj),(24,YI),(50,Ahj),(33,AcG)]) (by simp [AbM,Aau,AlW,Aec])) Tryz.func25<|?_
 rintro ⟨p1,i2,align3,off4⟩
 unfold TD
 refine A 12 ?_
 refine bD fun x_x5 hx_x5=>?_
 refine A 16 ?_
 refine cD r ?_ ?_
 ·refine A 9 ?_
  refine Qu (b:=((Pg.mk 0 0 ([])),13)) r ?_ r r ?_ (by first | rfl | (simp only [OV]; rfl) | (simp only [OW]; rfl) | (simp only [OV,OW]; rfl) | simp [Uy,Qh]) (by decide)
  all_goals first|(simp;done)|(simp;omega)|rfl|(simp [PG,PE];done)
 ·refine A 9 ?_
  refine lP (E:=fun (s : Int) (g : Nat × Nat)=>[(1,.int .i64 i2),(2,.int .i64 align3),(3,.sl (off4.map Pa)),(4,.optr 4 g.1 0 0),(8,.optr 8 g.2 0 0),(10,.sl (x_x5.Slots.map Po)),(11,.int .i64 s)]) (O:=fun _ g=>[(4,some (g.1,⟨false,true,1,26,[.agg [.sl (p1.Funcs.map PM)]]⟩)),(8,some (g.2,⟨false,true,3,32,[.agg [.int .i64 0,.int .i64 0,.nils]]⟩))]) (body:=fun s=>VG x_x5 off4 p1 i2 align3 s) (s:=0) (_,_) ((hE ⟨rfl,r,r,r,r,r,r,trivial⟩ ⟨rfl,r,trivial⟩))<|?_
  rintro k6 ⟨v4x1,v8x1⟩ nn
  try dsimp only
  unfold VG
  refine A 9 ?_
  refine cD r ?_ ?_
  ·refine A 8 ?_
   refine bD fun x_x7 hx_x7=>?_
   refine A 4 ?_
   refine bD fun x_x8 hx_x8=>?_
   refine A 4 ?_
   refine bD fun r9 hr9=>?_
   refine A 4 ?_
   refine cD r ?_ ?_
   ·refine A 13 ?_
    refine Qu (b:=((Pg.mk 0 0 ([])),13)) r ?_ r r ?_ (by first | rfl | (simp only [OV]; rfl) | (simp only [OW]; rfl) | (simp only [OV,OW]; rfl) | simp [Uy,Qh]) (by decide)
    all_goals first|(simp;done)|(simp;omega)|rfl|(simp [PG,PE];done)
   ·exact B
  ·refine A 9 ?_
   refine bD fun r10 hr10=>?_
   refine A 9 ?_
   refine bD fun r11 hr11=>?_
   refine A 3 ?_
   refine bD fun r12 hr12=>?_
   refine A 14 ?_
   refine Abk r ?_ ?_
   ·refine A 15 ?_
    refine Qu (b:=((Pg.mk 0 0 ([])),9)) r ?_ r r ?_ (by first | rfl | (simp only [OV]; rfl) | (simp only [OW]; rfl) | (simp only [OV,OW]; rfl) | simp [Uy,Qh]) (by decide)
    all_goals first|(simp;done)|(simp;omega)|rfl|(simp [PG,PE];done)
   ·refine A 5 ?_
    refine cD r ?_ ?_
    ·refine A 9 ?_
     refine Qu (b:=((Pg.mk 0 0 ([])),9)) r ?_ r r ?_ (by first | rfl | (simp only [OV]; rfl) | (simp only [OW]; rfl) | (simp only [OV,OW]; rfl) | simp [Uy,Qh]) (by decide)
     all_goals first|(simp;done)|(simp;omega)|rfl|(simp [PG,PE];done)
    ·refine A 7 ?_
     refine cK fun hq=>aP (([] : List Int)) (off4) Pa r r r r r r r (by simp) r r r (by simp) r (fun _=>r) r hq<|?_
     refine A 6 ?_
     refine Qu (b:=((Pg.mk r10 r12.1 (([] : List Int) ++ off4)),0)) r ?_ r r ?_ (by first | rfl | (simp only [OV]; rfl) | (simp only [OW]; rfl) | (simp only [OV,OW]; rfl) | simp [Uy,Qh]) (by decide)
     all_goals first|(simp;done)|(simp;omega)|rfl|(simp [PG,PE];done)

def Abo (b : Um) : D:=AbX b
noncomputable def AdL : Dw.Spec:=Pf [] .val UX UW (fun a=>XB a.1 a.2) Abo noE
theorem AhU : Pd Tryz.prog 56 AdL:=by
 refine fn2 2 (Pk (l:=[(17,Aal),(77,Afp),(78,AdF),(79,Agm),(80,Afu),(22,AbQ),(24,YI),(23,AbR),(81,Agp),(29,Acj),(25,AbS)]) (by simp [AbP,Ajv,AhP,AkP,AjD,AdE,Aau,AdJ,AkV,AeA,AdK])) Tryz.func56<|?_
 rintro ⟨p1,i2⟩
 unfold XB
 refine A 11 ?_
 refine bD fun x_x3 hx_x3=>?_
 refine A 9 ?_
 refine bD fun r4 hr4=>?_
 refine A 11 ?_
 refine bD fun r5 hr5=>?_
 refine A 12 ?_
 refine bD fun r6 hr6=>?_
 refine A 14 ?_
 refine bD fun r7 hr7=>?_
 refine A 11 ?_
 refine bD fun r8 hr8=>?_
 refine A 12 ?_
 refine bD fun r9 hr9=>?_
 refine A 10 ?_
 refine bD fun r10 hr10=>?_
 refine A 15 ?_
 refine bD fun r11 hr11=>?_
 refine A 1 ?_
 refine bD fun r12 hr12=>?_
 refine A 15 ?_
 refine cD r ?_ ?_
 ·refine A 8 ?_
  refine UR (b:=(Um.mk r4 (Pw.mk r6 r7) r9 (Pg.mk 0 0 ([])))) r ?_ r r ?_ (by first | rfl | (simp only [OV]; rfl) | (simp only [OW]; rfl) | (simp only [OV,OW]; rfl) | simp [Abo,AbX])
  all_goals first|(simp;done)|(simp;omega)|rfl|(simp [PG,PE];done)
 ·refine A 7 ?_
  refine bD fun r13 hr13=>?_
  refine A 3 ?_
  refine bD fun r14 hr14=>?_
  refine A 2 ?_
  refine bD fun r15 hr15=>?_
  refine A 15 ?_
  refine UR (b:=(Um.mk r4 (Pw.mk r6 r7) r9 r15.1)) r ?_ r r ?_ (by first | rfl | (simp only [OV]; rfl) | (simp only [OW]; rfl) | (simp only [OV,OW]; rfl) | simp [Abo,AbX])
  all_goals first|(simp;done)|(simp;omega)|rfl|(simp [PG,PE];done)

def TI (a : Mk × Pj × Int × Int) : List D:=[Pz a.1,RE a.2.1,.int .i64 a.2.2.1,.int .i64 a.2.2.2]
def TG (ds : List D) : Mk × Pj × Int × Int:=(Sl (ds.getD 0 .top),VV (ds.getD 1 .top),uI (ds.getD 2 .top),uI (ds.getD 3 .top))
theorem AeR (a : Mk × Pj × Int × Int) : TG (TI a) = a:=by simp [TG,TI,uI]
instance : Px TI TG:=⟨AeR⟩
def Abu (b : Pg × Mk) : D:=Qh b.1
def Afy (b : Pg × Mk) : List D:=[Pz b.2]
noncomputable def Abv : Dw.Spec:=Pf [(0,(2,99))] .val TI TG (fun a=>TY a.1 a.2.1 a.2.2.1 a.2.2.2) Abu Afy
theorem AeU : Pd Tryz.prog 31 Abv:=by
 refine fn2 4 (Pk (l:=[(11,Aaz),(28,PO),(56,AdL),(55,Aav)]) (by simp [AcA,PQ,AhU,Acm])) Tryz.func31<|?_
 rintro ⟨c1,p2,i3,align4⟩
 unfold TY
 refine A 11 ?_
 refine bD fun r5 hr5=>?_
 refine A 9 ?_
 refine sC (E:=fun (_s : (List Int) × Int × Int × Int × (List Int)) (g : Nat × Nat)=>[(0,.optr 8192 0 0 0),(8,.optr 8 g.1 0 0),(9,.optr 9 g.2 0 0)]) (O:=fun s g=>[(8,some (g.1,⟨false,true,3,32,[.agg [.int .i64 0,.int .i64 0,.nils]]⟩)),(9,some (g.2,⟨false,true,3,32,[.agg [.int .i64 s.2.2.1,.int .i64 s.2.2.2.1,.sl (s.2.2.2.2.map Pa)]]⟩)),(8192,some (0,⟨false,true,2,99,[.agg [.sl (s.1.map eU8),.int .i64 s.2.1]]⟩))]) (j:=fun s=>QH s.1 s.2.1 s.2.2.1 s.2.2.2.1 s.2.2.2.2) ?_ ?_
 ·exact B
 ·rintro ⟨c6,c7,y8,y9,y10⟩ ⟨v8x1,v9x1⟩ nn
  try dsimp only
  unfold QH
  refine A 4 ?_
  refine cK fun hq=>aP (([] : List Int)) (y10) Pa r r r r r r r (by simp) r r r (by simp) r (fun _=>r) r hq<|?_
  refine A 8 ?_
  refine bD fun r13 hr13=>?_
  refine A 5 ?_
  refine lP (E:=fun (s : (List Int) × Int × (List Int) × Int × Int × Int) (g : Nat × Nat × Nat)=>[(0,.optr 8192 0 0 0),(8,.optr 8 g.1 0 0),(9,.optr 9 g.2.1 0 0),(12,.int .i64 s.2.2.2.2.2)]) (O:=fun s g=>[(8,some (g.1,⟨false,true,3,32,[.agg [.int .i64 0,.int .i64 0,.nils]]⟩)),(9,some (g.2.1,⟨false,true,3,32,[.agg [.int .i64 s.2.2.2.1,.int .i64 s.2.2.2.2.1,.osl 39 g.2.2 0 s.2.2.1.length]]⟩)),(39,some (g.2.2,⟨false,false,1,3,s.2.2.1.map Pa⟩)),(8192,some (0,⟨false,true,2,99,[.agg [.sl (s.1.map eU8),.int .i64 s.2.1]]⟩))]) (body:=fun s=>Ui s.1 s.2.1 s.2.2.1 s.2.2.2.1 s.2.2.2.2.1 s.2.2.2.2.2) (s:=(r13.2.list,r13.2.at_,([] : List Int) ++ y10,y8,y9,r13.1)) (_,_,_) ((hE ⟨rfl,r,r,r,trivial⟩ ⟨rfl,r,r,r,trivial⟩))<|?_
  rintro ⟨c14,c15,x16,y17,y18,n19⟩ ⟨v8x2,v9x2,v39x2⟩ nn
  try dsimp only
  unfold Ui
  refine A 7 ?_
  refine cD r ?_ ?_
  ·refine A 11 ?_
   refine bD fun r20 hr20=>?_
   refine A 7 ?_
   refine bD fun r21 hr21=>?_
   refine A 4 ?_
   refine sC (E:=fun (s : Bool) (g : Nat × Nat × Nat)=>[(0,.optr 8192 0 0 0),(8,.optr 8 g.1 0 0),(9,.optr 9 g.2.1 0 0),(12,.int .i64 n19),(13,.int .i64 r20.1),(54,.int .i64 r21.1),(55,.bool s)]) (O:=fun _ g=>[(8,some (g.1,⟨false,true,3,32,[.agg [.int .i64 0,.int .i64 0,.nils]]⟩)),(9,some (g.2.1,⟨false,true,3,32,[.agg [.int .i64 y17,.int .i64 y18,.osl 39 g.2.2 0 x16.length]]⟩)),(39,some (g.2.2,⟨false,false,1,3,x16.map Pa⟩)),(8192,some (0,⟨false,true,2,99,[.agg [.sl (r21.2.list.map eU8),.int .i64 r21.2.at_]]⟩))]) (j:=fun s=>QI r20 x16 r21 y17 y18 n19 s) ?_ ?_
   ·exact B
   ·rintro x22 ⟨v8x3,v9x3,v39x3⟩ nn
    try dsimp only
    unfold QI
    refine cD r ?_ ?_
    ·refine A 9 ?_
     refine cD r ?_ ?_
     ·refine A 7 ?_
      refine bD fun r23 hr23=>?_
      refine A 4 ?_
      refine bD fun x_o24 hx_o24=>?_
      refine A 10 ?_
      exact xL (s:=(r23.2.list,r23.2.at_,x16.set r20.1.toNat (IntKind.i64.wrap (y17 + (IntKind.i64.wrap (8 * r23.1)))),y17,y18,IntKind.i64.wrap (n19 - 1))) (_,_,_) ((hE ⟨rfl,r,r,r,trivial⟩ ⟨rfl,(Eq.trans (b:=some (_,⟨false,true,3,32,[.agg [.int .i64 y17,.int .i64 y18,.osl 39 _ 0 x16.length]]⟩)) r (by simp)),r,r,trivial⟩))
     ·exact B
    ·refine sC (E:=fun (s : Bool) (g : Nat × Nat × Nat)=>[(0,.optr 8192 0 0 0),(8,.optr 8 g.1 0 0),(9,.optr 9 g.2.1 0 0),(12,.int .i64 n19),(13,.int .i64 r20.1),(54,.int .i64 r21.1),(74,.bool s)]) (O:=fun _ g=>[(8,some (g.1,⟨false,true,3,32,[.agg [.int .i64 0,.int .i64 0,.nils]]⟩)),(9,some (g.2.1,⟨false,true,3,32,[.agg [.int .i64 y17,.int .i64 y18,.osl 39 g.2.2 0 x16.length]]⟩)),(39,some (g.2.2,⟨false,false,1,3,x16.map Pa⟩)),(8192,some (0,⟨false,true,2,99,[.agg [.sl (r21.2.list.map eU8),.int .i64 r21.2.at_]]⟩))]) (j:=fun s=>Rt r20 x16 r21 y17 y18 n19 s) ?_ ?_
     ·exact B
     ·rintro x25 ⟨v8x4,v9x4,v39x4⟩ nn
      try dsimp only
      unfold Rt
      refine cD r ?_ ?_
      ·refine A 9 ?_
       refine cD r ?_ ?_
       ·refine A 10 ?_
        refine bD fun r26 hr26=>?_
        refine A 2 ?_
        refine bD fun x_e27 hx_e27=>?_
        refine A 2 ?_
        refine bD fun x_o28 hx_o28=>?_
        refine A 10 ?_
        exact xL (s:=(r26.2.list,r26.2.at_,x16.set r20.1.toNat x_e27,y17,y18,IntKind.i64.wrap (n19 - 1))) (_,_,_) ((hE ⟨rfl,r,r,r,trivial⟩ ⟨rfl,(Eq.trans (b:=some (_,⟨false,true,3,32,[.agg [.int .i64 y17,.int .i64 y18,.osl 39 _ 0 x16.length]]⟩)) r (by simp)),r,r,trivial⟩))
       ·exact B
      ·refine A 6 ?_
       refine cD r ?_ ?_
       ·exact B
       ·refine A 6 ?_
        refine cD r ?_ ?_
        ·refine sC (E:=fun (s : (List Int) × Int × Bool) (g : Nat × Nat × Nat)=>[(0,.optr 8192 0 0 0),(8,.optr 8 g.1 0 0),(9,.optr 9 g.2.1 0 0),(12,.int .i64 n19),(13,.int .i64 r20.1),(116,.bool s.2.2)]) (O:=fun s g=>[(8,some (g.1,⟨false,true,3,32,[.agg [.int .i64 0,.int .i64 0,.nils]]⟩)),(9,some (g.2.1,⟨false,true,3,32,[.agg [.int .i64 y17,.int .i64 y18,.osl 39 g.2.2 0 x16.length]]⟩)),(39,some (g.2.2,⟨false,false,1,3,x16.map Pa⟩)),(8192,some (0,⟨false,true,2,99,[.agg [.sl (s.1.map eU8),.int .i64 s.2.1]]⟩))]) (j:=fun s=>Ru r20 x16 y17 y18 n19 s.1 s.2.1 s.2.2) ?_ ?_
         ·exact B
         ·rintro ⟨c30,c31,x32⟩ ⟨v8x5,v9x5,v39x5⟩ nn
          try dsimp only
          unfold Ru
          refine cD r ?_ ?_
          ·refine A 5 ?_
           refine bD fun r34 hr34=>?_
           refine A 2 ?_
           refine bD fun x_o35 hx_o35=>?_
           refine A 10 ?_
           exact xL (s:=(r34.2.list,r34.2.at_,x16.set r20.1.toNat r34.1,y17,y18,IntKind.i64.wrap (n19 - 1))) (_,_,_) ((hE ⟨rfl,r,r,r,trivial⟩ ⟨rfl,(Eq.trans (b:=some (_,⟨false,true,3,32,[.agg [.int .i64 y17,.int .i64 y18,.osl 39 _ 0 x16.length]]⟩)) r (by simp)),r,r,trivial⟩))
          ·exact B
        ·refine A 6 ?_
         refine cD r ?_ ?_
         ·refine A 3 ?_
          refine bD fun r36 hr36=>?_
          refine A 10 ?_
          refine cD r ?_ ?_
          ·exact B
          ·refine A 6 ?_
           refine cD r ?_ ?_
           ·exact B
           ·refine A 6 ?_
            refine cD r ?_ ?_
            ·refine A 4 ?_
             refine bD fun r39 hr39=>?_
             refine A 15 ?_
             exact xL (s:=(r39.2.list,r39.2.at_,x16 ++ ([r39.1] : List Int),y17,y18,IntKind.i64.wrap (n19 - 1))) (_,_,_) ((Ahq (E1:=[(0,.optr 8192 0 0 0),(8,.optr 8 _ 0 0),(9,.optr 9 _ 0 0),(12,.int .i64 (IntKind.i64.wrap (n19 - 1)))]) (O1:=[(8,some (_,⟨false,true,3,32,[.agg [.int .i64 0,.int .i64 0,.nils]]⟩)),(9,some (_,⟨false,true,3,32,[.agg [.int .i64 y17,.int .i64 y18,.osl 144 _ 0 ((x16 ++ ([r39.1] : List Int)).length)]]⟩)),(144,some (_,⟨false,false,1,3,(x16 ++ ([r39.1] : List Int)).map Pa⟩)),(8192,some (0,⟨false,true,2,99,[.agg [.sl (r39.2.list.map eU8),.int .i64 r39.2.at_]]⟩))]) (hE ⟨rfl,r,r,r,trivial⟩ ⟨rfl,r,r,r,trivial⟩) (fun _=>Ahp (fun g=>bif Nat.beq g 144 then 39 else g) (by rfl) (hE ⟨rfl,r,r,r,trivial⟩ ⟨rfl,r,r,r,trivial⟩))))
            ·exact B
         ·exact B
  ·refine A 12 ?_
   refine UR (b:=((Pg.mk y17 y18 x16),(Mk.mk c14 c15))) r ?_ r r ?_ (by first | rfl | (simp only [OV]; rfl) | (simp only [OW]; rfl) | (simp only [OV,OW]; rfl) | simp [Abu,Qh])
   all_goals first|(simp;done)|(simp;omega)|rfl|(simp [PG,PE];done)

def XR (a : (List Int)) : List D:=[.sl (a.map eU8)]
def XQ (ds : List D) : (List Int):=(uL uI) (ds.getD 0 .top)
theorem Aer (a : (List Int)) : XQ (XR a) = a:=by simp [XQ,XR,PV (u:=uI) (en:=eU8) (fun _=>rfl)]
instance : Px XR XQ:=⟨Aer⟩
def Aki (b : Pj × Int × Int × Ph × Pg × Mk) : D:=.tup [RE b.1,.int .i64 b.2.1,.int .i64 b.2.2.1,Qz b.2.2.2.1,Qh b.2.2.2.2.1,Pz b.2.2.2.2.2]
noncomputable def Afg : Dw.Spec:=Pf [] (.tupPtr 5 2 99) XR XQ (fun a=>ZP a) Aki noE
theorem Ajc : Pd Tryz.prog 9 Afg:=by
 refine fn2 1 (Pk (l:=[(26,Aif),(27,AaS),(28,PO),(29,Acj),(10,Yn),(30,Aco),(31,Abv)]) (by simp [Amp,Aen,PQ,AeA,Abw,AfF,AeU])) Tryz.func9<|?_
 intro codes1
 unfold ZP
 refine A 13 ?_
 refine bD fun r2 hr2=>?_
 refine A 7 ?_
 refine bD fun r3 hr3=>?_
 refine A 11 ?_
 refine bD fun r4 hr4=>?_
 refine A 7 ?_
 refine bD fun r5 hr5=>?_
 refine A 10 ?_
 refine bD fun x_x6 hx_x6=>?_
 refine A 2 ?_
 refine bD fun r7 hr7=>?_
 refine A 5 ?_
 refine sC (E:=fun (_s : (List (List Int)) × (List Int) × Int) (g : Nat × Nat × Nat × Nat × Nat × Nat)=>[(2,.optr 2 g.1 0 0),(5,.optr 5 g.2.1 0 0),(6,.optr 6 g.2.2.1 0 0),(8,.optr 14 g.2.2.2.2.2 0 0),(9,.optr 9 g.2.2.2.1 0 0),(10,.int .i64 r4.1),(11,.int .i64 r5),(12,.optr 12 g.2.2.2.2.1 0 0)]) (O:=fun s g=>[(2,some (g.1,⟨false,true,1,26,[.agg [.nils]]⟩)),(5,some (g.2.1,⟨false,true,1,29,[.agg [.nils]]⟩)),(6,some (g.2.2.1,⟨false,true,3,32,[.agg [.int .i64 0,.int .i64 0,.nils]]⟩)),(9,some (g.2.2.2.1,⟨false,true,1,26,[.agg [.sl (r3.1.Funcs.map PM)]]⟩)),(12,some (g.2.2.2.2.1,⟨false,true,1,29,[.agg [.sl (s.1.map (eL Pa))]]⟩)),(14,some (g.2.2.2.2.2,⟨false,true,2,99,[.agg [.sl (s.2.1.map eU8),.int .i64 s.2.2]]⟩))]) (j:=fun s=>Ut r3 r4 r5 s.1 s.2.1 s.2.2) ?_ ?_
 ·exact B
 ·rintro ⟨l8,x9,x10⟩ ⟨v2x1,v5x1,v6x1,v9x1,v12x1,v14x1⟩ nn
  try dsimp only
  unfold Ut
  exact B

def Afx (b : Bool) : D:=.bool b
noncomputable def XL : Dw.Spec:=Pf [] .ground PY PX (fun a=>QQ a) Afx noE
theorem AaR : Pd Tryz.prog 123 XL:=by
 refine fn2 1 (Pv) Tryz.func123<|?_
 intro a
 unfold QQ
 exact B

def AiP (b : Bool) : D:=.bool b
noncomputable def Aeh : Dw.Spec:=Pf [] .ground Sx Sw (fun a=>Yk a) AiP noE
theorem Aib : Pd Tryz.prog 107 Aeh:=by
 refine fn2 1 (Pk (l:=[(123,XL)]) (by simp [AaR])) Tryz.func107<|?_
 intro s1
 unfold Yk
 refine A 14 ?_
 refine lP (E:=fun (s : Int) (_g : Unit)=>[(0,.sl (s1.map Pa)),(5,.sl (s1.map Pa)),(6,.int .i64 (s1.length : Int)),(7,.int .i64 s)]) (O:=fun _ _=>[]) (body:=fun s=>RF s1 s) (s:=0) () ((hE ⟨rfl,r,r,r,trivial⟩ trivial))<|?_
 rintro x2 ⟨⟩ nn
 try dsimp only
 unfold RF
 exact B

def Si (a : (List Int) × OX) : List D:=[.sl (a.1.map Pa),.fptr (PM a.2) 0]
def Sh (ds : List D) : (List Int) × OX:=((uL uI) (ds.getD 0 .top),SS (fpD (ds.getD 1 .top)))
theorem AcT (a : (List Int) × OX) : Sh (Si a) = a:=by simp [Sh,Si,fpD,PV (u:=uI) (en:=Pa) (fun _=>rfl)]
instance : Px Si Sh:=⟨AcT⟩
def Ado (b : Bool) : D:=.bool b
noncomputable def ZG : Dw.Spec:=Pf [] .ground Si Sh (fun a=>Sa a.1 a.2) Ado noE
theorem AcU : Pd Tryz.prog 106 ZG:=by
 refine fn2 2 (Pk (l:=[(107,Aeh)]) (by simp [Aib])) Tryz.func106<|?_
 intro a
 unfold Sa
 exact B

def PU (a : (List (List Int)) × OX) : List D:=[.sl (a.1.map (eL Pa)),.clo 106 [.fptr (PM a.2) 0]]
def PT (ds : List D) : (List (List Int)) × OX:=((uL (uL uI)) (ds.getD 0 .top),SS (fpD (Ahg (ds.getD 1 .top) 0)))
theorem Rl (a : (List (List Int)) × OX) : PT (PU a) = a:=by simp [PT,PU,fpD,Ahg,PV (u:=(uL uI)) (en:=(eL Pa)) (PV (u:=uI) (en:=Pa) (fun _=>rfl))]
instance : Px PU PT:=⟨Rl⟩
def ZA (b : Int) : D:=.int .i64 b
noncomputable def RB : Dw.Spec:=Pf [] .ground PU PT (fun a=>Qe a.1 a.2) ZA noE
theorem YK : Pd Tryz.prog 124 RB:=by
 refine fn2 2 (Pk (l:=[(106,ZG)]) (by simp [AcU])) Tryz.func124<|?_
 rintro ⟨s1,f2⟩
 unfold Qe
 refine A 14 ?_
 refine lP (E:=fun (s : Int) (_g : Unit)=>[(0,.sl (s1.map (eL Pa))),(1,.clo 106 [.fptr (.agg [.int .i64 f2.Params,.sl (f2.Slots.map Po),.sl (f2.Code.map Pn)]) 0]),(7,.int .i64 (s1.length : Int)),(8,.int .i64 s)]) (O:=fun _ _=>[]) (body:=fun s=>Qq s1 f2 s) (s:=0) () ((hE ⟨rfl,r,r,r,trivial⟩ trivial))<|?_
 rintro x3 ⟨⟩ nn
 try dsimp only
 unfold Qq
 exact B

def XN (b : Bool) : D:=.bool b
noncomputable def QV : Dw.Spec:=Pf [] .ground PU PT (fun a=>Qp a.1 a.2) XN noE
theorem XC : Pd Tryz.prog 108 QV:=by
 refine fn2 2 (Pk (l:=[(438396,RB)]) (by simp [YK])) Tryz.func108<|?_
 rintro ⟨s1,f2⟩
 unfold Qp
 refine A 9 ?_
 refine bD fun r3 hr3=>cG (s1,f2) rfl rfl (show _ = some RB from by kernel_rfl) Rl rfl rfl (by simp) r hr3 r<|?_
 exact B

def Aga (b : Bool) : D:=.bool b
noncomputable def Yv : Dw.Spec:=Pf [] .ground Ql Qk (fun a=>SZ a.1 a.2) Aga noE
theorem Abx : Pd Tryz.prog 82 Yv:=by
 refine fn2 2 (Pk (l:=[(438380,QV)]) (by simp [XC])) Tryz.func82<|?_
 rintro ⟨f1,l2⟩
 unfold SZ
 refine A 6 ?_
 refine VC (E:=[(2,.fptr (.agg [.int .i64 f1.Params,.sl (f1.Slots.map Po),.sl (f1.Code.map Pn)]) 0),(3,.optr 3 _ 0 0)]) (O:=[(3,some (_,⟨false,true,1,29,[.agg [.sl (l2.Out.map (eL Pa))]]⟩))]) ((AeN (g:=2) r (by first | rfl | (simp [cells,frp,PA,PG]; done)) (hE ⟨(by first | rfl | (simp [Ps,frp]; done) | (simp [Ps,frp,PA]; done) | (simp [Ps,frp,PA,nbq]; done) | (simp [Ps,lkO,frp,PA,frO]; done) | (simp [Ps,lkO,frp,PA,frO]; rfl) | (simp [Ps,lkO,frp,PA,frO,nbq]; done)),(by first | rfl | (simp [Ps,frp]; done) | (simp [Ps,frp,PA]; done) | (simp [Ps,frp,PA,nbq]; done) | (simp [Ps,lkO,frp,PA,frO]; done) | (simp [Ps,lkO,frp,PA,frO]; rfl) | (simp [Ps,lkO,frp,PA,frO,nbq]; done)),trivial⟩ ⟨(by first | rfl | (simp [Ps,frp]; done) | (simp [Ps,frp,PA]; done) | (simp [Ps,frp,PA,nbq]; done) | (simp [Ps,lkO,frp,PA,frO]; done) | (simp [Ps,lkO,frp,PA,frO]; rfl) | (simp [Ps,lkO,frp,PA,frO,nbq]; done)),trivial⟩))) fun nn=>?_
 refine A 2 ?_
 refine mF (caps:=[.fptr (.agg [.int .i64 f1.Params,.sl (f1.Slots.map Po),.sl (f1.Code.map Pn)]) 0]) r r (by simp [Acx])<|?_
 refine A 13 ?_
 refine Abk r ?_ ?_
 ·refine A 3 ?_
  refine bD fun r3 hr3=>cG (l2.Out,f1) rfl rfl (show _ = some QV from by kernel_rfl) Rl rfl rfl (by simp) r hr3 r<|?_
  exact B
 ·exact B

def Vw (a : Ph) : List D:=[Qz a]
def Vv (ds : List D) : Ph:=Wj (ds.getD 0 .top)
theorem AgT (a : Ph) : Vv (Vw a) = a:=by simp [Vv,Vw]
instance : Px Vw Vv:=⟨AgT⟩
def AhA (b : Ph) : D:=.clo 127 [.fptr (Qz b) 0]
noncomputable def AcZ : Dw.Spec:=Pf [] .val Vw Vv (fun a=>YU a) AhA noE
theorem AgU : Pd Tryz.prog 110 AcZ:=by
 refine fn2 1 (Pv) Tryz.func110<|?_
 intro l1
 unfold YU
 refine A 5 ?_
 refine VC (E:=[(1,.fptr (.agg [.sl (l1.Out.map (eL Pa))]) 0)]) (O:=[]) ((AeN (g:=1) r (by first | rfl | (simp [cells,frp,PA,PG]; done)) (hE ⟨(by first | rfl | (simp [Ps,frp]; done) | (simp [Ps,frp,PA]; done) | (simp [Ps,frp,PA,nbq]; done) | (simp [Ps,lkO,frp,PA,frO]; done) | (simp [Ps,lkO,frp,PA,frO]; rfl) | (simp [Ps,lkO,frp,PA,frO,nbq]; done)),trivial⟩ trivial))) fun nn=>?_
 refine A 2 ?_
 refine mF (caps:=[.fptr (.agg [.sl (l1.Out.map (eL Pa))]) 0]) r r (by simp [Acx])<|?_
 exact B

def AhV (b : Bool) : D:=.bool b
noncomputable def Adi : Dw.Spec:=Pf [] .ground PY PX (fun a=>Zz a) AhV noE
theorem AgW : Pd Tryz.prog 133 Adi:=by
 refine fn2 1 (Pv) Tryz.func133<|?_
 intro a
 unfold Zz
 exact B

def Amu (b : (List Int)) : D:=.sl (b.map Pa)
noncomputable def Ahc : Dw.Spec:=Pf [] (.row 1 3) Wz Wy (fun a=>AbZ a.1 a.2) Amu noE
theorem Alv : Pd Tryz.prog 125 Ahc:=by
 refine fn2 2 (Pk (l:=[(133,Adi),(134,AaJ),(135,YJ)]) (by simp [AgW,Aee,AcI])) Tryz.func125<|?_
 rintro ⟨f1,k2⟩
 unfold AbZ
 refine A 6 ?_
 refine sC (E:=fun (_s : Unit) (g : Nat)=>[(1,.int .i64 k2),(2,.optr 2 g 0 0)]) (O:=fun _ g=>[(2,some (g,⟨false,true,3,40,[.agg [.int .i64 f1.Params,.sl (f1.Slots.map Po),.sl (f1.Code.map Pn)]]⟩))]) (j:=fun _=>Aba f1 k2) ?_ ?_
 ·exact B
 ·rintro ⟨⟩ v2x1 nn
  try dsimp only
  unfold Aba
  refine A 10 ?_
  refine bD fun x_x3 hx_x3=>?_
  refine A 6 ?_
  refine sC (E:=fun (s : (List Int)) (g : Nat × Nat)=>[(5,.osl 5 g.1 0 s.length),(6,.optr 6 g.2 0 0)]) (O:=fun s g=>[(5,some (g.1,⟨false,false,1,3,s.map Pa⟩)),(6,some (g.2,⟨false,true,5,50,[.agg [.int .i64 x_x3.Op,.int .i64 x_x3.A,.int .i64 x_x3.B,.int .i64 x_x3.C,.int .u64 x_x3.Imm]]⟩))]) (j:=fun s=>Yq x_x3 s) ?_ ?_
  ·exact B
  ·rintro l4 ⟨v5x2,v6x2⟩ nn
   try dsimp only
   unfold Yq
   exact B

def SR (a : Int × Ph) : List D:=[.int .i64 a.1,.fptr (Qz a.2) 0]
def SQ (ds : List D) : Int × Ph:=(uI (ds.getD 0 .top),Wj (fpD (ds.getD 1 .top)))
theorem AdZ (a : Int × Ph) : SQ (SR a) = a:=by simp [SQ,SR,uI,fpD]
instance : Px SR SQ:=⟨AdZ⟩
def Aev (b : (List Int)) : D:=.sl (b.map Pa)
noncomputable def AaI : Dw.Spec:=Pf [] .val SR SQ (fun a=>UQ a.1 a.2) Aev noE
theorem Aea : Pd Tryz.prog 127 AaI:=by
 refine fn2 2 (Pv) Tryz.func127<|?_
 intro a
 unfold UQ
 exact B

def Ahv (b : Int × Bool) : D:=.tup [.int .i64 b.1,.bool b.2]
noncomputable def Aax : Dw.Spec:=Pf [] .ground Qw Qv (fun a=>Ur a) Ahv noE
theorem Acs : Pd Tryz.prog 84 Aax:=by
 refine fn2 1 (Pv) Tryz.func84<|?_
 intro a
 unfold Ur
 exact B

def Tk (a : OY × Int × Bool) : List D:=[PI a.1,.int .i64 a.2.1,.bool a.2.2]
def Tj (ds : List D) : OY × Int × Bool:=(Rm (ds.getD 0 .top),uI (ds.getD 1 .top),uBo (ds.getD 2 .top))
theorem Ael (a : OY × Int × Bool) : Tj (Tk a) = a:=by simp [Tj,Tk,uI,uBo]
instance : Px Tk Tj:=⟨Ael⟩
def AeQ (_b : OY) : D:=.tup []
def AeP (b : OY) : List D:=[PI b]
noncomputable def WR : Dw.Spec:=Pf [(0,(8,160))] .val Tk Tj (fun a=>RS a.1 a.2.1 a.2.2) AeQ AeP
theorem AaD : Pd Tryz.prog 139 WR:=by
 refine fn2 3 (Pk (l:=[(123,XL)]) (by simp [AaR])) Tryz.func139<|?_
 rintro ⟨s1,n2,in3⟩
 unfold RS
 refine A 13 ?_
 refine bD fun r4 hr4=>?_
 refine A 5 ?_
 refine cD r ?_ ?_
 ·exact B
 ·refine A 6 ?_
  refine cD r ?_ ?_
  ·refine A 5 ?_
   refine cK fun hq=>Uo r r r hq<|bD fun s_e5 hs_e5=>WQ (q:=s_e5) (l:=s1.toList) (en:=Aaw) (j:=(IntKind.i64.wrap (n2.tdiv 64)).toNat) (by simp) r r r hs_e5 r (fun _=>r)<|?_
   refine A 3 ?_
   refine cK fun hq=>Uo r r r hq<|bD fun s_o6 hs_o6=>AdD (q:=s_o6) (q':=IntKind.u64.wrap ((BitVec.ofInt IntKind.u64.bits s_e5 ||| BitVec.ofInt IntKind.u64.bits (IntKind.u64.wrap (1 * 2 ^ (Nat.min ((IntKind.u64.wrap (n2)).tmod 64).toNat IntKind.u64.bits)))).toNat)) (l:=s1.toList) (en:=Aaw) (j:=(IntKind.i64.wrap (n2.tdiv 64)).toNat) (z':=.agg [.int .u64 ((s1.set ((IntKind.i64.wrap (n2.tdiv 64)).toNat) (IntKind.u64.wrap ((BitVec.ofInt IntKind.u64.bits s_e5 ||| BitVec.ofInt IntKind.u64.bits (IntKind.u64.wrap (1 * 2 ^ (Nat.min ((IntKind.u64.wrap (n2)).tmod 64).toNat IntKind.u64.bits)))).toNat))).a0),.int .u64 ((s1.set ((IntKind.i64.wrap (n2.tdiv 64)).toNat) (IntKind.u64.wrap ((BitVec.ofInt IntKind.u64.bits s_e5 ||| BitVec.ofInt IntKind.u64.bits (IntKind.u64.wrap (1 * 2 ^ (Nat.min ((IntKind.u64.wrap (n2)).tmod 64).toNat IntKind.u64.bits)))).toNat))).a1),.int .u64 ((s1.set ((IntKind.i64.wrap (n2.tdiv 64)).toNat) (IntKind.u64.wrap ((BitVec.ofInt IntKind.u64.bits s_e5 ||| BitVec.ofInt IntKind.u64.bits (IntKind.u64.wrap (1 * 2 ^ (Nat.min ((IntKind.u64.wrap (n2)).tmod 64).toNat IntKind.u64.bits)))).toNat))).a2),.int .u64 ((s1.set ((IntKind.i64.wrap (n2.tdiv 64)).toNat) (IntKind.u64.wrap ((BitVec.ofInt IntKind.u64.bits s_e5 ||| BitVec.ofInt IntKind.u64.bits (IntKind.u64.wrap (1 * 2 ^ (Nat.min ((IntKind.u64.wrap (n2)).tmod 64).toNat IntKind.u64.bits)))).toNat))).a3),.int .u64 ((s1.set ((IntKind.i64.wrap (n2.tdiv 64)).toNat) (IntKind.u64.wrap ((BitVec.ofInt IntKind.u64.bits s_e5 ||| BitVec.ofInt IntKind.u64.bits (IntKind.u64.wrap (1 * 2 ^ (Nat.min ((IntKind.u64.wrap (n2)).tmod 64).toNat IntKind.u64.bits)))).toNat))).a4),.int .u64 ((s1.set ((IntKind.i64.wrap (n2.tdiv 64)).toNat) (IntKind.u64.wrap ((BitVec.ofInt IntKind.u64.bits s_e5 ||| BitVec.ofInt IntKind.u64.bits (IntKind.u64.wrap (1 * 2 ^ (Nat.min ((IntKind.u64.wrap (n2)).tmod 64).toNat IntKind.u64.bits)))).toNat))).a5),.int .u64 ((s1.set ((IntKind.i64.wrap (n2.tdiv 64)).toNat) (IntKind.u64.wrap ((BitVec.ofInt IntKind.u64.bits s_e5 ||| BitVec.ofInt IntKind.u64.bits (IntKind.u64.wrap (1 * 2 ^ (Nat.min ((IntKind.u64.wrap (n2)).tmod 64).toNat IntKind.u64.bits)))).toNat))).a6),.int .u64 ((s1.set ((IntKind.i64.wrap (n2.tdiv 64)).toNat) (IntKind.u64.wrap ((BitVec.ofInt IntKind.u64.bits s_e5 ||| BitVec.ofInt IntKind.u64.bits (IntKind.u64.wrap (1 * 2 ^ (Nat.min ((IntKind.u64.wrap (n2)).tmod 64).toNat IntKind.u64.bits)))).toNat))).a7)]) (by simp) r r r r r hs_o6 r r (congrArg (fun l=>D.agg (l.map Aaw)) (Rr s1 ((IntKind.i64.wrap (n2.tdiv 64)).toNat) (IntKind.u64.wrap ((BitVec.ofInt IntKind.u64.bits s_e5 ||| BitVec.ofInt IntKind.u64.bits (IntKind.u64.wrap (1 * 2 ^ (Nat.min ((IntKind.u64.wrap (n2)).tmod 64).toNat IntKind.u64.bits)))).toNat))).symm) r r<|?_
   exact B
  ·refine A 5 ?_
   refine cK fun hq=>Uo r r r hq<|bD fun s_e7 hs_e7=>WQ (q:=s_e7) (l:=s1.toList) (en:=Aaw) (j:=(IntKind.i64.wrap (n2.tdiv 64)).toNat) (by simp) r r r hs_e7 r (fun _=>r)<|?_
   refine A 3 ?_
   refine cK fun hq=>Uo r r r hq<|bD fun s_o8 hs_o8=>AdD (q:=s_o8) (q':=IntKind.u64.wrap ((BitVec.ofInt IntKind.u64.bits s_e7 &&& ~~~ BitVec.ofInt IntKind.u64.bits (IntKind.u64.wrap (1 * 2 ^ (Nat.min ((IntKind.u64.wrap (n2)).tmod 64).toNat IntKind.u64.bits)))).toNat)) (l:=s1.toList) (en:=Aaw) (j:=(IntKind.i64.wrap (n2.tdiv 64)).toNat) (z':=.agg [.int .u64 ((s1.set ((IntKind.i64.wrap (n2.tdiv 64)).toNat) (IntKind.u64.wrap ((BitVec.ofInt IntKind.u64.bits s_e7 &&& ~~~ BitVec.ofInt IntKind.u64.bits (IntKind.u64.wrap (1 * 2 ^ (Nat.min ((IntKind.u64.wrap (n2)).tmod 64).toNat IntKind.u64.bits)))).toNat))).a0),.int .u64 ((s1.set ((IntKind.i64.wrap (n2.tdiv 64)).toNat) (IntKind.u64.wrap ((BitVec.ofInt IntKind.u64.bits s_e7 &&& ~~~ BitVec.ofInt IntKind.u64.bits (IntKind.u64.wrap (1 * 2 ^ (Nat.min ((IntKind.u64.wrap (n2)).tmod 64).toNat IntKind.u64.bits)))).toNat))).a1),.int .u64 ((s1.set ((IntKind.i64.wrap (n2.tdiv 64)).toNat) (IntKind.u64.wrap ((BitVec.ofInt IntKind.u64.bits s_e7 &&& ~~~ BitVec.ofInt IntKind.u64.bits (IntKind.u64.wrap (1 * 2 ^ (Nat.min ((IntKind.u64.wrap (n2)).tmod 64).toNat IntKind.u64.bits)))).toNat))).a2),.int .u64 ((s1.set ((IntKind.i64.wrap (n2.tdiv 64)).toNat) (IntKind.u64.wrap ((BitVec.ofInt IntKind.u64.bits s_e7 &&& ~~~ BitVec.ofInt IntKind.u64.bits (IntKind.u64.wrap (1 * 2 ^ (Nat.min ((IntKind.u64.wrap (n2)).tmod 64).toNat IntKind.u64.bits)))).toNat))).a3),.int .u64 ((s1.set ((IntKind.i64.wrap (n2.tdiv 64)).toNat) (IntKind.u64.wrap ((BitVec.ofInt IntKind.u64.bits s_e7 &&& ~~~ BitVec.ofInt IntKind.u64.bits (IntKind.u64.wrap (1 * 2 ^ (Nat.min ((IntKind.u64.wrap (n2)).tmod 64).toNat IntKind.u64.bits)))).toNat))).a4),.int .u64 ((s1.set ((IntKind.i64.wrap (n2.tdiv 64)).toNat) (IntKind.u64.wrap ((BitVec.ofInt IntKind.u64.bits s_e7 &&& ~~~ BitVec.ofInt IntKind.u64.bits (IntKind.u64.wrap (1 * 2 ^ (Nat.min ((IntKind.u64.wrap (n2)).tmod 64).toNat IntKind.u64.bits)))).toNat))).a5),.int .u64 ((s1.set ((IntKind.i64.wrap (n2.tdiv 64)).toNat) (IntKind.u64.wrap ((BitVec.ofInt IntKind.u64.bits s_e7 &&& ~~~ BitVec.ofInt IntKind.u64.bits (IntKind.u64.wrap (1 * 2 ^ (Nat.min ((IntKind.u64.wrap (n2)).tmod 64).toNat IntKind.u64.bits)))).toNat))).a6),.int .u64 ((s1.set ((IntKind.i64.wrap (n2.tdiv 64)).toNat) (IntKind.u64.wrap ((BitVec.ofInt IntKind.u64.bits s_e7 &&& ~~~ BitVec.ofInt IntKind.u64.bits (IntKind.u64.wrap (1 * 2 ^ (Nat.min ((IntKind.u64.wrap (n2)).tmod 64).toNat IntKind.u64.bits)))).toNat))).a7)]) (by simp) r r r r r hs_o8 r r (congrArg (fun l=>D.agg (l.map Aaw)) (Rr s1 ((IntKind.i64.wrap (n2.tdiv 64)).toNat) (IntKind.u64.wrap ((BitVec.ofInt IntKind.u64.bits s_e7 &&& ~~~ BitVec.ofInt IntKind.u64.bits (IntKind.u64.wrap (1 * 2 ^ (Nat.min ((IntKind.u64.wrap (n2)).tmod 64).toNat IntKind.u64.bits)))).toNat))).symm) r r<|?_
   exact B

def Aie (b : OY) : D:=PI b
noncomputable def Vf : Dw.Spec:=Pf [] (.ptr 8 160) Sx Sw (fun a=>Rn a) Aie noE
theorem WO : Pd Tryz.prog 128 Vf:=by
 refine fn2 1 (Pk (l:=[(139,WR)]) (by simp [AaD])) Tryz.func128<|?_
 intro l1
 unfold Rn
 refine A 21 ?_
 refine lP (E:=fun (s : OY × Int) (g : Nat)=>[(3,.optr 7 g 0 0),(8,.sl (l1.map Pa)),(9,.int .i64 (l1.length : Int)),(10,.int .i64 s.2)]) (O:=fun s g=>[(7,some (g,⟨false,true,8,160,[.agg [.int .u64 s.1.a0,.int .u64 s.1.a1,.int .u64 s.1.a2,.int .u64 s.1.a3,.int .u64 s.1.a4,.int .u64 s.1.a5,.int .u64 s.1.a6,.int .u64 s.1.a7]]⟩))]) (body:=fun s=>WN l1 s.1 s.2) (s:=((OY.mk 0 0 0 0 0 0 0 0),0)) _ ((hE ⟨rfl,r,r,r,trivial⟩ ⟨rfl,trivial⟩))<|?_
 rintro ⟨x2,x3⟩ v7x1 nn
 try dsimp only
 unfold WN
 exact B

end Go.Proofs.YtnldnldmgceooaaGreatDoor
