/-
  Programs on typed data, and the proofs that the code does what they say; written by a program (dx.py).
-/
import Derived.Test.YtnldnldmgceooaaGreatDoorProg
import Derived.Test.YtnldnldmgceooaaGreatDoorDd
import Derived.KernelRfl
import Derived.Test.YtnldnldmgceooaaGreatDoorSh
import Derived.Test.YtnldnldmgceooaaGreatDoorDxP
import Derived.Test.YtnldnldmgceooaaGreatDoorDxF1
import Derived.Test.YtnldnldmgceooaaGreatDoorDxF2
import Derived.Test.YtnldnldmgceooaaGreatDoorDxF3
namespace Go.Proofs.YtnldnldmgceooaaGreatDoor
open Go Go.Dw Go.Proofs
set_option maxRecDepth 100000
set_option maxHeartbeats 4000000
open Go.Dw renaming QW → bD,PO → cK,Ads → bS,Abs → cG,AeX → aP,Uo → sE,AbZ → iO,AcT → cD,Afr → xL,AaE → hE,AeY → lP,Abu → sC,Wz → bC,Anl → mF,rf → r
def Alh (b : (List Int)) : D:=.sl (b.map Pa)
noncomputable def AfM : Dw.Spec:=Pf [] (.row 1 3) TL TK (fun a=>ZV a) Alh noE
theorem AjW : Pd Tryz.prog 48 AfM:=by
 refine fn2 1 (Pk (l:=[(72,AeT)]) (by simp [AiX])) Tryz.func48<|?_
 intro s1
 unfold ZV
 refine A 17 ?_
 refine lP (E:=fun (s : (List Int) × Int) (g : Nat)=>[(0,.sl (s1.map Pn)),(3,.osl 3 g 0 s.1.length),(4,.int .i64 s.2)]) (O:=fun s g=>[(3,some (g,⟨false,false,1,3,s.1.map Pa⟩))]) (body:=fun s=>Zq s1 s.1 s.2) (s:=(([] : List Int),0)) _ ((hE ⟨rfl,r,r,trivial⟩ ⟨rfl,trivial⟩))<|?_
 rintro ⟨out2,i3⟩ v3x1 nn
 try dsimp only
 unfold Zq
 refine A 9 ?_
 refine cD r ?_ ?_
 ·refine A 2 ?_
  refine bC (E:=fun (s : (List Int)) (g : Nat)=>[(0,.sl (s1.map Pn)),(3,.osl 3 g 0 s.length),(4,.int .i64 i3)]) (O:=fun s g=>[(3,some (g,⟨false,false,1,3,s.map Pa⟩))]) (j:=fun s=>Zs i3 s) ?_ ?_
  ·refine A 7 ?_
   refine bC (E:=fun (s : Int) (g : Nat)=>[(0,.sl (s1.map Pn)),(3,.osl 3 g 0 out2.length),(4,.int .i64 i3),(5,.int .i64 s)]) (O:=fun _ g=>[(3,some (g,⟨false,false,1,3,out2.map Pa⟩))]) (j:=fun s=>Uv out2 i3 s) ?_ ?_
   ·refine lP (E:=fun (s : Int) (g : Nat)=>[(0,.sl (s1.map Pn)),(3,.osl 3 g 0 out2.length),(4,.int .i64 i3),(5,.int .i64 s)]) (O:=fun _ g=>[(3,some (g,⟨false,false,1,3,out2.map Pa⟩))]) (body:=fun s=>Zr s1 i3 out2 s) (s:=(out2.length : Int)) _ ((hE ⟨rfl,r,r,r,trivial⟩ ⟨rfl,trivial⟩))<|?_
    rintro k6 v3x2 nn
    try dsimp only
    unfold Zr
    exact B
   ·rintro k5 v3x3 nn
    try dsimp only
    unfold Uv
    refine A 4 ?_
    refine cK fun hq=>AbX (l:=out2) r r r r r r hq<|cK fun hq=>aP (([] : List Int)) (out2.take k5.toNat) Pa r r r r r r r (by first | (simp; done) | (simp; omega)) (by simp [List.map_take]) r r (by simp) r (fun _=>r) r hq<|?_
    refine A 7 ?_
    refine cK fun hq=>aP (([] : List Int) ++ (out2.take k5.toNat)) (([i3] : List Int)) Pa r r r r r r r (by simp) (TP _ _ r) r r (by simp) (SE _ _ r) (fun _=>r) r hq<|?_
    refine A 2 ?_
    refine cK fun hq=>Zz (l:=out2) r r r r r r hq<|cK fun hq=>aP ((([] : List Int) ++ (out2.take k5.toNat)) ++ ([i3] : List Int)) (out2.drop k5.toNat) Pa r r r r r r r (by first | (simp; done) | (simp; omega)) (Adr _ _ _) r r (by simp) (SE _ _ r) (fun _=>r) r hq<|?_
    exact B
  ·rintro out4 v3x4 nn
   try dsimp only
   unfold Zs
   exact B
 ·exact B

def AkE (b : Bool) : D:=.bool b
noncomputable def Xe : Dw.Spec:=Pf [] .ground UF UE (fun a=>QQ a) AkE noE
theorem YL : Pd Tryz.prog 38 Xe:=by
 refine fn2 1 (Pk (l:=[(47,Xd)]) (by simp [YK])) Tryz.func38<|?_
 intro a
 unfold QQ
 exact B

def SA (a : Pj × Pj) : List D:=[Qe a.1,Qe a.2]
def Sz (ds : List D) : Pj × Pj:=(TC (ds.getD 0 .top),TC (ds.getD 1 .top))
theorem AhX (a : Pj × Pj) : Sz (SA a) = a:=by simp [Sz,SA]
instance : Px SA Sz:=⟨AhX⟩
def AiH (b : Bool) : D:=.bool b
noncomputable def XD : Dw.Spec:=Pf [] .ground SA Sz (fun a=>RL a.1 a.2) AiH noE
theorem Aaw : Pd Tryz.prog 16 XD:=by
 refine fn2 2 (Pk (l:=[(38,Xe)]) (by simp [YL])) Tryz.func16<|?_
 intro a
 unfold RL
 exact B

def YO (a : (List Pj) × Pj) : List D:=[.sl (a.1.map Qe),Qe a.2]
def YN (ds : List D) : (List Pj) × Pj:=((uL TC) (ds.getD 0 .top),TC (ds.getD 1 .top))
theorem AkG (a : (List Pj) × Pj) : YN (YO a) = a:=by simp [YN,YO,PX (u:=TC) (en:=Qe) AhA]
instance : Px YO YN:=⟨AkG⟩
def Ame (b : Bool) : D:=.bool b
noncomputable def Agy : Dw.Spec:=Pf [] .ground YO YN (fun a=>Abg a.1 a.2) Ame noE
theorem AkH : Pd Tryz.prog 73 Agy:=by
 refine fn2 2 (Pk (l:=[(16,XD)]) (by simp [Aaw])) Tryz.func73<|?_
 rintro ⟨used1,x2⟩
 unfold Abg
 refine A 13 ?_
 refine lP (E:=fun (s : Int) (g : Nat)=>[(0,.sl (used1.map Qe)),(3,.optr 3 g 0 0),(5,.int .i64 s)]) (O:=fun _ g=>[(3,some (g,⟨false,true,2,56,[.agg [.int .i64 x2.Off,.int .i64 x2.Size]]⟩))]) (body:=fun s=>Aaf used1 x2 s) (s:=0) _ ((hE ⟨rfl,r,r,trivial⟩ ⟨rfl,trivial⟩))<|?_
 rintro i3 v3x1 nn
 try dsimp only
 unfold Aaf
 exact B

def Aad (a : (List Pj) × Int × Int × Int) : List D:=[.sl (a.1.map Qe),.int .i64 a.2.1,.int .i64 a.2.2.1,.int .i64 a.2.2.2]
def Aac (ds : List D) : (List Pj) × Int × Int × Int:=((uL TC) (ds.getD 0 .top),uI (ds.getD 1 .top),uI (ds.getD 2 .top),uI (ds.getD 3 .top))
theorem Amc (a : (List Pj) × Int × Int × Int) : Aac (Aad a) = a:=by simp [Aac,Aad,uI,PX (u:=TC) (en:=Qe) AhA]
instance : Px Aad Aac:=⟨Amc⟩
def AmW (b : Int × Int) : D:=.tup [.int .i64 b.1,.int .i64 b.2]
noncomputable def Ahx : Dw.Spec:=Pf [] .ground Aad Aac (fun a=>Acl a.1 a.2.1 a.2.2.1 a.2.2.2) AmW noE
theorem Amd : Pd Tryz.prog 49 Ahx:=by
 refine fn2 4 (Pk (l:=[(47,Xd),(58,Aae),(38,Xe),(33,AcN),(73,Agy)]) (by simp [YK,AbS,YL,Aen,AkH])) Tryz.func49<|?_
 rintro ⟨used1,from2,size3,align4⟩
 unfold Acl
 refine A 6 ?_
 refine sC (E:=fun (_s : Unit) (_g : Unit)=>[(0,.sl (used1.map Qe)),(1,.int .i64 from2),(2,.int .i64 size3),(3,.int .i64 align4)]) (O:=fun _ _=>[]) (j:=fun _=>Abf used1 align4 size3 from2) ?_ ?_
 ·exact B
 ·rintro ⟨⟩ ⟨⟩ nn
  try dsimp only
  unfold Abf
  refine A 7 ?_
  refine lP (E:=fun (s : Int) (_g : Unit)=>[(0,.sl (used1.map Qe)),(1,.int .i64 from2),(2,.int .i64 size3),(3,.int .i64 align4),(10,.int .i64 s)]) (O:=fun _ _=>[]) (body:=fun s=>Abd used1 align4 size3 from2 s) (s:=0) () ((hE ⟨rfl,r,r,r,r,trivial⟩ trivial))<|?_
  rintro i8 ⟨⟩ nn
  try dsimp only
  unfold Abd
  refine A 9 ?_
  refine cD r ?_ ?_
  ·exact B
  ·refine A 18 ?_
   refine lP (E:=fun (s : Int × Bool × Int) (_g : Unit)=>[(0,.sl (used1.map Qe)),(1,.int .i64 from2),(2,.int .i64 size3),(3,.int .i64 align4),(11,.int .i64 s.1),(12,.bool s.2.1),(13,.int .i64 s.2.2)]) (O:=fun _ _=>[]) (body:=fun s=>Abe used1 align4 size3 from2 s.1 s.2.1 s.2.2) (s:=(0,false,(-1))) () ((hE ⟨rfl,r,r,r,r,r,r,trivial⟩ trivial))<|?_
   rintro ⟨best11,found12,i13⟩ ⟨⟩ nn
   try dsimp only
   unfold Abe
   refine A 9 ?_
   refine cD r ?_ ?_
   ·refine A 10 ?_
    refine sC (E:=fun (s : Int) (_g : Unit)=>[(0,.sl (used1.map Qe)),(1,.int .i64 from2),(2,.int .i64 size3),(3,.int .i64 align4),(11,.int .i64 best11),(12,.bool found12),(13,.int .i64 i13),(14,.int .i64 s)]) (O:=fun _ _=>[]) (j:=fun s=>Wh align4 size3 used1 found12 i13 best11 s) ?_ ?_
    ·exact B
    ·rintro at14 ⟨⟩ nn
     try dsimp only
     unfold Wh
     exact B
   ·exact B

def WT (a : (List Po) × (List (List Int)) × Int) : List D:=[.sl (a.1.map Pn),.sl (a.2.1.map (eL Pa)),.int .i64 a.2.2]
def WS (ds : List D) : (List Po) × (List (List Int)) × Int:=((uL XX) (ds.getD 0 .top),(uL (uL uI)) (ds.getD 1 .top),uI (ds.getD 2 .top))
theorem AiU (a : (List Po) × (List (List Int)) × Int) : WS (WT a) = a:=by simp [WS,WT,uI,PX (u:=XX) (en:=Pn) Afa,PX (u:=(uL uI)) (en:=(eL Pa)) (PX (u:=uI) (en:=Pa) (fun _=>rfl))]
instance : Px WT WS:=⟨AiU⟩
def AjV (b : (List Int) × Int) : D:=.tup [.sl (b.1.map Pa),.int .i64 b.2]
noncomputable def AeS : Dw.Spec:=Pf [] .val WT WS (fun a=>Ys a.1 a.2.1 a.2.2) AjV noE
theorem AiV : Pd Tryz.prog 23 AeS:=by
 refine fn2 3 (Pk (l:=[(45,Acr),(46,AfE),(47,Xd),(48,AfM),(15,VI),(49,Ahx)]) (by simp [AeL,AjI,YK,AjW,Wm,Amd])) Tryz.func23<|?_
 rintro ⟨s1,g2,from3⟩
 unfold Ys
 refine A 10 ?_
 refine bD fun r4 hr4=>?_
 refine A 10 ?_
 refine cD r ?_ ?_
 ·exact B
 ·refine A 2 ?_
  refine sC (E:=fun (_s : Unit) (_g : Unit)=>[(0,.sl (s1.map Pn)),(1,.sl (g2.map (eL Pa))),(2,.int .i64 from3)]) (O:=fun _ _=>[]) (j:=fun _=>XR s1 g2 from3) ?_ ?_
  ·exact B
  ·rintro ⟨⟩ ⟨⟩ nn
   try dsimp only
   unfold XR
   refine A 15 ?_
   refine bD fun r7 hr7=>?_
   refine A 11 ?_
   refine lP (E:=fun (s : (List Bool) × (List Int) × Int) (g : Nat × Nat × Nat)=>[(0,.sl (s1.map Pn)),(1,.sl (g2.map (eL Pa))),(2,.int .i64 from3),(9,.osl 9 g.1 0 s.2.1.length),(10,.osl 10 g.2.1 0 s.1.length),(11,.osl 11 g.2.2 0 r7.length),(12,.int .i64 s.2.2)]) (O:=fun s g=>[(9,some (g.1,⟨false,false,1,3,s.2.1.map Pa⟩)),(10,some (g.2.1,⟨false,false,1,4,s.1.map D.bool⟩)),(11,some (g.2.2,⟨false,false,1,3,r7.map Pa⟩))]) (body:=fun s=>XP r7 s1 g2 from3 s.1 s.2.1 s.2.2) (s:=(List.replicate (s1.length : Int).toNat false,List.replicate (s1.length : Int).toNat (0 : Int),0)) (_,_,_) ((hE ⟨rfl,r,r,r,r,r,r,trivial⟩ ⟨rfl,r,r,trivial⟩))<|?_
   rintro ⟨done8,off9,i10⟩ ⟨v9x2,v10x2,v11x2⟩ nn
   try dsimp only
   unfold XP
   refine A 9 ?_
   refine cD r ?_ ?_
   ·refine A 2 ?_
    refine bC (E:=fun (s : (List Bool) × (List Int)) (g : Nat × Nat × Nat)=>[(0,.sl (s1.map Pn)),(1,.sl (g2.map (eL Pa))),(2,.int .i64 from3),(9,.osl 9 g.1 0 s.2.length),(10,.osl 10 g.2.1 0 s.1.length),(11,.osl 11 g.2.2 0 r7.length),(12,.int .i64 i10)]) (O:=fun s g=>[(9,some (g.1,⟨false,false,1,3,s.2.map Pa⟩)),(10,some (g.2.1,⟨false,false,1,4,s.1.map D.bool⟩)),(11,some (g.2.2,⟨false,false,1,3,r7.map Pa⟩))]) (j:=fun s=>XS i10 s.1 s.2) ?_ ?_
    ·refine A 5 ?_
     refine bD fun order_e13 horder_e13=>?_
     refine A 16 ?_
     refine lP (E:=fun (s : (List Pj) × Int) (g : Nat × Nat × Nat × Nat)=>[(0,.sl (s1.map Pn)),(1,.sl (g2.map (eL Pa))),(2,.int .i64 from3),(9,.osl 9 g.1 0 off9.length),(10,.osl 10 g.2.1 0 done8.length),(11,.osl 11 g.2.2.1 0 r7.length),(12,.int .i64 i10),(13,.int .i64 order_e13),(14,.osl 14 g.2.2.2 0 s.1.length),(15,.int .i64 s.2)]) (O:=fun s g=>[(9,some (g.1,⟨false,false,1,3,off9.map Pa⟩)),(10,some (g.2.1,⟨false,false,1,4,done8.map D.bool⟩)),(11,some (g.2.2.1,⟨false,false,1,3,r7.map Pa⟩)),(14,some (g.2.2.2,⟨false,false,2,56,s.1.map Qe⟩))]) (body:=fun s=>XQ s1 done8 g2 order_e13 off9 from3 i10 s.1 s.2) (s:=(([] : List Pj),0)) (_,_,_,_) ((hE ⟨rfl,r,r,r,r,r,r,r,r,r,trivial⟩ ⟨rfl,r,r,r,trivial⟩))<|?_
     rintro ⟨used14,y15⟩ ⟨v9x3,v10x3,v11x3,v14x3⟩ nn
     try dsimp only
     unfold XQ
     refine A 9 ?_
     refine cD r ?_ ?_
     ·refine A 4 ?_
      refine sC (E:=fun (s : Bool) (g : Nat × Nat × Nat × Nat)=>[(0,.sl (s1.map Pn)),(1,.sl (g2.map (eL Pa))),(2,.int .i64 from3),(9,.osl 9 g.1 0 off9.length),(10,.osl 10 g.2.1 0 done8.length),(11,.osl 11 g.2.2.1 0 r7.length),(12,.int .i64 i10),(13,.int .i64 order_e13),(14,.osl 14 g.2.2.2 0 used14.length),(15,.int .i64 y15),(68,.bool s)]) (O:=fun _ g=>[(9,some (g.1,⟨false,false,1,3,off9.map Pa⟩)),(10,some (g.2.1,⟨false,false,1,4,done8.map D.bool⟩)),(11,some (g.2.2.1,⟨false,false,1,3,r7.map Pa⟩)),(14,some (g.2.2.2,⟨false,false,2,56,used14.map Qe⟩))]) (j:=fun s=>TO y15 off9 s1 used14 s) ?_ ?_
      ·exact B
      ·rintro x16 ⟨v9x4,v10x4,v11x4,v14x4⟩ nn
       try dsimp only
       unfold TO
       refine cD r ?_ ?_
       ·refine A 5 ?_
        refine bD fun off_e20 hoff_e20=>?_
        refine A 3 ?_
        refine bD fun x_x21 hx_x21=>?_
        refine A 4 ?_
        refine bS ([(Pj.mk off_e20 x_x21.Size)] : List Pj) Qe r r r (by simp) r r r<|?_
        exact B
       ·exact B
     ·exact B
    ·rintro ⟨done11,off12⟩ ⟨v9x5,v10x5,v11x5⟩ nn
     try dsimp only
     unfold XS
     exact B
   ·exact B

def Uf (a : Ph × Int × OX) : List D:=[RB a.1,.int .i64 a.2.1,PL a.2.2]
def Ue (ds : List D) : Ph × Int × OX:=(VM (ds.getD 0 .top),uI (ds.getD 1 .top),Sy (ds.getD 2 .top))
theorem Aig (a : Ph × Int × OX) : Ue (Uf a) = a:=by simp [Ue,Uf,uI]
instance : Px Uf Ue:=⟨Aig⟩
def AdS (b : Ph) : D:=RB b
noncomputable def AdT : Dw.Spec:=Pf [] .val Uf Ue (fun a=>Aal a.1 a.2.1 a.2.2) AdS noE
theorem Aih : Pd Tryz.prog 105 AdT:=by
 refine fn2 3 (Pv) Tryz.func105<|?_
 rintro ⟨p1,i2,f3⟩
 unfold Aal
 refine A 11 ?_
 refine cK fun hq=>aP (([] : List OX)) (p1.Funcs) PL r r r r r r r (by simp) r r r (by simp) r (fun _=>r) r hq<|?_
 refine A 8 ?_
 refine cK fun hq=>iO (l:=([] : List OX) ++ p1.Funcs) (en:=PL) r r r r r hq<|bD fun l_o4 hl_o4=>sE (l:=([] : List OX) ++ p1.Funcs) (en:=PL) (q':=f3) r r r r r r r (by simp) hl_o4 r r r r r<|?_
 refine A 10 ?_
 refine Vd (b:=(Ph.mk ((([] : List OX) ++ p1.Funcs).set i2.toNat f3))) r ?_ r r ?_ (by first | rfl | (simp only; rfl) | (simp only; rfl) | (simp only [OV,OW]; rfl) | simp [AdS,RB])
 all_goals first|(simp;done)|(simp;omega)|rfl|(simp [PH,PE];done)

def Amq (b : Ph) : D:=RB b
noncomputable def AgH : Dw.Spec:=Pf [] .val Uf Ue (fun a=>AcO a.1 a.2.1 a.2.2) Amq noE
theorem Aln : Pd Tryz.prog 81 AgH:=by
 refine fn2 3 (Pk (l:=[(105,AdT)]) (by simp [Aih])) Tryz.func81<|?_
 intro a
 unfold AcO
 exact B

def Aap (a : (List Po) × (List Int)) : List D:=[.sl (a.1.map Pn),.sl (a.2.map Pa)]
def Aao (ds : List D) : (List Po) × (List Int):=((uL XX) (ds.getD 0 .top),(uL uI) (ds.getD 1 .top))
theorem Amn (a : (List Po) × (List Int)) : Aao (Aap a) = a:=by simp [Aao,Aap,PX (u:=XX) (en:=Pn) Afa,PX (u:=uI) (en:=Pa) (fun _=>rfl)]
instance : Px Aap Aao:=⟨Amn⟩
def Ana (b : Int) : D:=.int .i64 b
noncomputable def Ahz : Dw.Spec:=Pf [] .ground Aap Aao (fun a=>Acn a.1 a.2) Ana noE
theorem Amo : Pd Tryz.prog 50 Ahz:=by
 refine fn2 2 (Pv) Tryz.func50<|?_
 rintro ⟨s1,off2⟩
 unfold Acn
 refine A 17 ?_
 refine lP (E:=fun (s : Int × Int) (_g : Unit)=>[(0,.sl (s1.map Pn)),(1,.sl (off2.map Pa)),(5,.int .i64 s.1),(6,.int .i64 s.2)]) (O:=fun _ _=>[]) (body:=fun s=>Abp s1 off2 s.1 s.2) (s:=(0,0)) () ((hE ⟨rfl,r,r,r,trivial⟩ trivial))<|?_
 rintro ⟨n3,i4⟩ ⟨⟩ nn
 try dsimp only
 unfold Abp
 refine sC (E:=fun (_s : Unit) (_g : Unit)=>[(0,.sl (s1.map Pn)),(1,.sl (off2.map Pa)),(5,.int .i64 n3),(6,.int .i64 i4),(12,.int .i64 i4),(13,.sl (off2.map Pa)),(14,.int .i64 (off2.length : Int)),(15,.bool (decide (i4 < (off2.length : Int))))]) (O:=fun _ _=>[]) (j:=fun _=>Abq off2 i4 s1 n3) ?_ ?_
 ·exact B
 ·rintro ⟨⟩ ⟨⟩ nn
  try dsimp only
  unfold Abq
  exact B

def WY (a : Ph × Int × Int × (List Int)) : List D:=[RB a.1,.int .i64 a.2.1,.int .i64 a.2.2.1,.sl (a.2.2.2.map Pa)]
def WX (ds : List D) : Ph × Int × Int × (List Int):=(VM (ds.getD 0 .top),uI (ds.getD 1 .top),uI (ds.getD 2 .top),(uL uI) (ds.getD 3 .top))
theorem AiY (a : Ph × Int × Int × (List Int)) : WX (WY a) = a:=by simp [WX,WY,uI,PX (u:=uI) (en:=Pa) (fun _=>rfl)]
instance : Px WY WX:=⟨AiY⟩
def Uw (b : Pe × Int) : D:=.tup [Qh b.1,.int .i64 b.2]
noncomputable def AeU : Dw.Spec:=Pf [] .val WY WX (fun a=>Yv a.1 a.2.1 a.2.2.1 a.2.2.2) Uw noE
theorem AiZ : Pd Tryz.prog 25 AeU:=by
 refine fn2 4 (Pk (l:=[(38,Xe),(24,Yu),(50,Ahz),(33,AcN)]) (by simp [YL,Aaq,Amo,Aen])) Tryz.func25<|?_
 rintro ⟨p1,i2,align3,off4⟩
 unfold Yv
 refine A 12 ?_
 refine bD fun x_x5 hx_x5=>?_
 refine A 16 ?_
 refine cD r ?_ ?_
 ·refine A 9 ?_
  refine Qx (b:=((Pe.mk 0 0 ([])),13)) r ?_ r r ?_ (by first | rfl | (simp only [OV]; rfl) | (simp only [OW]; rfl) | (simp only [OV,OW]; rfl) | simp [Uw,Qh]) (by decide)
  all_goals first|(simp;done)|(simp;omega)|rfl|(simp [PH,PE];done)
 ·refine A 9 ?_
  refine lP (E:=fun (s : Int) (g : Nat × Nat)=>[(1,.int .i64 i2),(2,.int .i64 align3),(3,.sl (off4.map Pa)),(4,.optr 4 g.1 0 0),(8,.optr 8 g.2 0 0),(10,.sl (x_x5.Slots.map Pn)),(11,.int .i64 s)]) (O:=fun _ g=>[(4,some (g.1,⟨false,true,1,26,[.agg [.sl (p1.Funcs.map PL)]]⟩)),(8,some (g.2,⟨false,true,3,32,[.agg [.int .i64 0,.int .i64 0,.nils]]⟩))]) (body:=fun s=>XT x_x5 off4 p1 i2 align3 s) (s:=0) (_,_) ((hE ⟨rfl,r,r,r,r,r,r,trivial⟩ ⟨rfl,r,trivial⟩))<|?_
  rintro k6 ⟨v4x1,v8x1⟩ nn
  try dsimp only
  unfold XT
  refine A 9 ?_
  refine cD r ?_ ?_
  ·refine A 8 ?_
   refine bD fun x_x7 hx_x7=>?_
   refine A 4 ?_
   refine bD fun x_x8 hx_x8=>?_
   refine A 4 ?_
   refine bD fun r9 hr9=>?_
   refine A 4 ?_
   refine cD r ?_ ?_
   ·refine A 13 ?_
    refine Qx (b:=((Pe.mk 0 0 ([])),13)) r ?_ r r ?_ (by first | rfl | (simp only [OV]; rfl) | (simp only [OW]; rfl) | (simp only [OV,OW]; rfl) | simp [Uw,Qh]) (by decide)
    all_goals first|(simp;done)|(simp;omega)|rfl|(simp [PH,PE];done)
   ·exact B
  ·refine A 9 ?_
   refine bD fun r10 hr10=>?_
   refine A 9 ?_
   refine bD fun r11 hr11=>?_
   refine A 3 ?_
   refine bD fun r12 hr12=>?_
   refine A 14 ?_
   refine AbF r ?_ ?_
   ·refine A 15 ?_
    refine Qx (b:=((Pe.mk 0 0 ([])),9)) r ?_ r r ?_ (by first | rfl | (simp only [OV]; rfl) | (simp only [OW]; rfl) | (simp only [OV,OW]; rfl) | simp [Uw,Qh]) (by decide)
    all_goals first|(simp;done)|(simp;omega)|rfl|(simp [PH,PE];done)
   ·refine A 5 ?_
    refine cD r ?_ ?_
    ·refine A 9 ?_
     refine Qx (b:=((Pe.mk 0 0 ([])),9)) r ?_ r r ?_ (by first | rfl | (simp only [OV]; rfl) | (simp only [OW]; rfl) | (simp only [OV,OW]; rfl) | simp [Uw,Qh]) (by decide)
     all_goals first|(simp;done)|(simp;omega)|rfl|(simp [PH,PE];done)
    ·refine A 7 ?_
     refine cK fun hq=>aP (([] : List Int)) (off4) Pa r r r r r r r (by simp) r r r (by simp) r (fun _=>r) r hq<|?_
     refine A 6 ?_
     refine Qx (b:=((Pe.mk r10 r12.1 (([] : List Int) ++ off4)),0)) r ?_ r r ?_ (by first | rfl | (simp only [OV]; rfl) | (simp only [OW]; rfl) | (simp only [OV,OW]; rfl) | simp [Uw,Qh]) (by decide)
     all_goals first|(simp;done)|(simp;omega)|rfl|(simp [PH,PE];done)

def Abr (b : Ul) : D:=Acf b
noncomputable def AdV : Dw.Spec:=Pf [] .val UX UW (fun a=>Xk a.1 a.2) Abr noE
theorem Aik : Pd Tryz.prog 56 AdV:=by
 refine fn2 2 (Pk (l:=[(17,Aah),(77,AfF),(78,AdR),(79,AgE),(80,AfK),(22,AeP),(24,Yu),(23,AeS),(81,AgH),(29,Acu),(25,AeU)]) (by simp [AbV,AjJ,Aif,Ald,AjR,AiO,Aaq,AiV,Aln,AeN,AiZ])) Tryz.func56<|?_
 rintro ⟨p1,i2⟩
 unfold Xk
 refine A 11 ?_
 refine bD fun x_x3 hx_x3=>?_
 refine A 9 ?_
 refine bD fun r4 hr4=>?_
 refine A 11 ?_
 refine bD fun r5 hr5=>?_
 refine A 12 ?_
 refine bD fun r6 hr6=>?_
 refine A 14 ?_
 refine bD fun r7 hr7=>?_
 refine A 11 ?_
 refine bD fun r8 hr8=>?_
 refine A 12 ?_
 refine bD fun r9 hr9=>?_
 refine A 10 ?_
 refine bD fun r10 hr10=>?_
 refine A 15 ?_
 refine bD fun r11 hr11=>?_
 refine A 1 ?_
 refine bD fun r12 hr12=>?_
 refine A 15 ?_
 refine cD r ?_ ?_
 ·refine A 8 ?_
  refine Vd (b:=(Ul.mk r4 (Pw.mk r6 r7) r9 (Pe.mk 0 0 ([])))) r ?_ r r ?_ (by first | rfl | (simp only [OV]; rfl) | (simp only [OW]; rfl) | (simp only [OV,OW]; rfl) | simp [Abr,Acf])
  all_goals first|(simp;done)|(simp;omega)|rfl|(simp [PH,PE];done)
 ·refine A 7 ?_
  refine bD fun r13 hr13=>?_
  refine A 3 ?_
  refine bD fun r14 hr14=>?_
  refine A 2 ?_
  refine bD fun r15 hr15=>?_
  refine A 15 ?_
  refine Vd (b:=(Ul.mk r4 (Pw.mk r6 r7) r9 r15.1)) r ?_ r r ?_ (by first | rfl | (simp only [OV]; rfl) | (simp only [OW]; rfl) | (simp only [OV,OW]; rfl) | simp [Abr,Acf])
  all_goals first|(simp;done)|(simp;omega)|rfl|(simp [PH,PE];done)

def TE (a : Mk × Ph × Int × Int) : List D:=[Pz a.1,RB a.2.1,.int .i64 a.2.2.1,.int .i64 a.2.2.2]
def TD (ds : List D) : Mk × Ph × Int × Int:=(Sh (ds.getD 0 .top),VM (ds.getD 1 .top),uI (ds.getD 2 .top),uI (ds.getD 3 .top))
theorem Afh (a : Mk × Ph × Int × Int) : TD (TE a) = a:=by simp [TD,TE,uI]
instance : Px TE TD:=⟨Afh⟩
def AbB (b : Pe × Mk) : D:=Qh b.1
def AfR (b : Pe × Mk) : List D:=[Pz b.2]
noncomputable def AbC : Dw.Spec:=Pf [(0,(2,99))] .val TE TD (fun a=>TX a.1 a.2.1 a.2.2.1 a.2.2.2) AbB AfR
theorem Afi : Pd Tryz.prog 31 AbC:=by
 refine fn2 4 (Pk (l:=[(11,Aax),(28,PN),(56,AdV),(55,Aas)]) (by simp [AcI,PQ,Aik,Acy])) Tryz.func31<|?_
 rintro ⟨c1,p2,i3,align4⟩
 unfold TX
 refine A 11 ?_
 refine bD fun r5 hr5=>?_
 refine A 9 ?_
 refine sC (E:=fun (_s : (List Int) × Int × Int × Int × (List Int)) (g : Nat × Nat)=>[(0,.optr 8192 0 0 0),(8,.optr 8 g.1 0 0),(9,.optr 9 g.2 0 0)]) (O:=fun s g=>[(8,some (g.1,⟨false,true,3,32,[.agg [.int .i64 0,.int .i64 0,.nils]]⟩)),(9,some (g.2,⟨false,true,3,32,[.agg [.int .i64 s.2.2.1,.int .i64 s.2.2.2.1,.sl (s.2.2.2.2.map Pa)]]⟩)),(8192,some (0,⟨false,true,2,99,[.agg [.sl (s.1.map eU8),.int .i64 s.2.1]]⟩))]) (j:=fun s=>QE s.1 s.2.1 s.2.2.1 s.2.2.2.1 s.2.2.2.2) ?_ ?_
 ·exact B
 ·rintro ⟨c6,c7,y8,y9,y10⟩ ⟨v8x1,v9x1⟩ nn
  try dsimp only
  unfold QE
  refine A 4 ?_
  refine cK fun hq=>aP (([] : List Int)) (y10) Pa r r r r r r r (by simp) r r r (by simp) r (fun _=>r) r hq<|?_
  refine A 8 ?_
  refine bD fun r13 hr13=>?_
  refine A 5 ?_
  refine lP (E:=fun (s : (List Int) × Int × (List Int) × Int × Int × Int) (g : Nat × Nat × Nat)=>[(0,.optr 8192 0 0 0),(8,.optr 8 g.1 0 0),(9,.optr 9 g.2.1 0 0),(12,.int .i64 s.2.2.2.2.2)]) (O:=fun s g=>[(8,some (g.1,⟨false,true,3,32,[.agg [.int .i64 0,.int .i64 0,.nils]]⟩)),(9,some (g.2.1,⟨false,true,3,32,[.agg [.int .i64 s.2.2.2.1,.int .i64 s.2.2.2.2.1,.osl 39 g.2.2 0 s.2.2.1.length]]⟩)),(39,some (g.2.2,⟨false,false,1,3,s.2.2.1.map Pa⟩)),(8192,some (0,⟨false,true,2,99,[.agg [.sl (s.1.map eU8),.int .i64 s.2.1]]⟩))]) (body:=fun s=>Uh s.1 s.2.1 s.2.2.1 s.2.2.2.1 s.2.2.2.2.1 s.2.2.2.2.2) (s:=(r13.2.list,r13.2.at_,([] : List Int) ++ y10,y8,y9,r13.1)) (_,_,_) ((hE ⟨rfl,r,r,r,trivial⟩ ⟨rfl,r,r,r,trivial⟩))<|?_
  rintro ⟨c14,c15,x16,y17,y18,n19⟩ ⟨v8x2,v9x2,v39x2⟩ nn
  try dsimp only
  unfold Uh
  refine A 7 ?_
  refine cD r ?_ ?_
  ·refine A 11 ?_
   refine bD fun r20 hr20=>?_
   refine A 7 ?_
   refine bD fun r21 hr21=>?_
   refine A 4 ?_
   refine sC (E:=fun (s : Bool) (g : Nat × Nat × Nat)=>[(0,.optr 8192 0 0 0),(8,.optr 8 g.1 0 0),(9,.optr 9 g.2.1 0 0),(12,.int .i64 n19),(13,.int .i64 r20.1),(54,.int .i64 r21.1),(55,.bool s)]) (O:=fun _ g=>[(8,some (g.1,⟨false,true,3,32,[.agg [.int .i64 0,.int .i64 0,.nils]]⟩)),(9,some (g.2.1,⟨false,true,3,32,[.agg [.int .i64 y17,.int .i64 y18,.osl 39 g.2.2 0 x16.length]]⟩)),(39,some (g.2.2,⟨false,false,1,3,x16.map Pa⟩)),(8192,some (0,⟨false,true,2,99,[.agg [.sl (r21.2.list.map eU8),.int .i64 r21.2.at_]]⟩))]) (j:=fun s=>QF r20 x16 r21 y17 y18 n19 s) ?_ ?_
   ·exact B
   ·rintro x22 ⟨v8x3,v9x3,v39x3⟩ nn
    try dsimp only
    unfold QF
    refine cD r ?_ ?_
    ·refine A 9 ?_
     refine cD r ?_ ?_
     ·refine A 7 ?_
      refine bD fun r23 hr23=>?_
      refine A 4 ?_
      refine bD fun x_o24 hx_o24=>?_
      refine A 10 ?_
      exact xL (s:=(r23.2.list,r23.2.at_,x16.set r20.1.toNat (IntKind.i64.wrap (y17 + (IntKind.i64.wrap (8 * r23.1)))),y17,y18,IntKind.i64.wrap (n19 - 1))) (_,_,_) ((hE ⟨rfl,r,r,r,trivial⟩ ⟨rfl,(Eq.trans (b:=some (_,⟨false,true,3,32,[.agg [.int .i64 y17,.int .i64 y18,.osl 39 _ 0 x16.length]]⟩)) r (by simp)),r,r,trivial⟩))
     ·exact B
    ·refine sC (E:=fun (s : Bool) (g : Nat × Nat × Nat)=>[(0,.optr 8192 0 0 0),(8,.optr 8 g.1 0 0),(9,.optr 9 g.2.1 0 0),(12,.int .i64 n19),(13,.int .i64 r20.1),(54,.int .i64 r21.1),(74,.bool s)]) (O:=fun _ g=>[(8,some (g.1,⟨false,true,3,32,[.agg [.int .i64 0,.int .i64 0,.nils]]⟩)),(9,some (g.2.1,⟨false,true,3,32,[.agg [.int .i64 y17,.int .i64 y18,.osl 39 g.2.2 0 x16.length]]⟩)),(39,some (g.2.2,⟨false,false,1,3,x16.map Pa⟩)),(8192,some (0,⟨false,true,2,99,[.agg [.sl (r21.2.list.map eU8),.int .i64 r21.2.at_]]⟩))]) (j:=fun s=>Rs r20 x16 r21 y17 y18 n19 s) ?_ ?_
     ·exact B
     ·rintro x25 ⟨v8x4,v9x4,v39x4⟩ nn
      try dsimp only
      unfold Rs
      refine cD r ?_ ?_
      ·refine A 9 ?_
       refine cD r ?_ ?_
       ·refine A 10 ?_
        refine bD fun r26 hr26=>?_
        refine A 2 ?_
        refine bD fun x_e27 hx_e27=>?_
        refine A 2 ?_
        refine bD fun x_o28 hx_o28=>?_
        refine A 10 ?_
        exact xL (s:=(r26.2.list,r26.2.at_,x16.set r20.1.toNat x_e27,y17,y18,IntKind.i64.wrap (n19 - 1))) (_,_,_) ((hE ⟨rfl,r,r,r,trivial⟩ ⟨rfl,(Eq.trans (b:=some (_,⟨false,true,3,32,[.agg [.int .i64 y17,.int .i64 y18,.osl 39 _ 0 x16.length]]⟩)) r (by simp)),r,r,trivial⟩))
       ·exact B
      ·refine A 6 ?_
       refine cD r ?_ ?_
       ·exact B
       ·refine A 6 ?_
        refine cD r ?_ ?_
        ·refine sC (E:=fun (s : (List Int) × Int × Bool) (g : Nat × Nat × Nat)=>[(0,.optr 8192 0 0 0),(8,.optr 8 g.1 0 0),(9,.optr 9 g.2.1 0 0),(12,.int .i64 n19),(13,.int .i64 r20.1),(116,.bool s.2.2)]) (O:=fun s g=>[(8,some (g.1,⟨false,true,3,32,[.agg [.int .i64 0,.int .i64 0,.nils]]⟩)),(9,some (g.2.1,⟨false,true,3,32,[.agg [.int .i64 y17,.int .i64 y18,.osl 39 g.2.2 0 x16.length]]⟩)),(39,some (g.2.2,⟨false,false,1,3,x16.map Pa⟩)),(8192,some (0,⟨false,true,2,99,[.agg [.sl (s.1.map eU8),.int .i64 s.2.1]]⟩))]) (j:=fun s=>Rt r20 x16 y17 y18 n19 s.1 s.2.1 s.2.2) ?_ ?_
         ·exact B
         ·rintro ⟨c30,c31,x32⟩ ⟨v8x5,v9x5,v39x5⟩ nn
          try dsimp only
          unfold Rt
          refine cD r ?_ ?_
          ·refine A 5 ?_
           refine bD fun r34 hr34=>?_
           refine A 2 ?_
           refine bD fun x_o35 hx_o35=>?_
           refine A 10 ?_
           exact xL (s:=(r34.2.list,r34.2.at_,x16.set r20.1.toNat r34.1,y17,y18,IntKind.i64.wrap (n19 - 1))) (_,_,_) ((hE ⟨rfl,r,r,r,trivial⟩ ⟨rfl,(Eq.trans (b:=some (_,⟨false,true,3,32,[.agg [.int .i64 y17,.int .i64 y18,.osl 39 _ 0 x16.length]]⟩)) r (by simp)),r,r,trivial⟩))
          ·exact B
        ·refine A 6 ?_
         refine cD r ?_ ?_
         ·refine A 3 ?_
          refine bD fun r36 hr36=>?_
          refine A 10 ?_
          refine cD r ?_ ?_
          ·exact B
          ·refine A 6 ?_
           refine cD r ?_ ?_
           ·exact B
           ·refine A 6 ?_
            refine cD r ?_ ?_
            ·refine A 4 ?_
             refine bD fun r39 hr39=>?_
             refine A 15 ?_
             exact xL (s:=(r39.2.list,r39.2.at_,x16 ++ ([r39.1] : List Int),y17,y18,IntKind.i64.wrap (n19 - 1))) (_,_,_) ((AhP (E1:=[(0,.optr 8192 0 0 0),(8,.optr 8 _ 0 0),(9,.optr 9 _ 0 0),(12,.int .i64 (IntKind.i64.wrap (n19 - 1)))]) (O1:=[(8,some (_,⟨false,true,3,32,[.agg [.int .i64 0,.int .i64 0,.nils]]⟩)),(9,some (_,⟨false,true,3,32,[.agg [.int .i64 y17,.int .i64 y18,.osl 144 _ 0 ((x16 ++ ([r39.1] : List Int)).length)]]⟩)),(144,some (_,⟨false,false,1,3,(x16 ++ ([r39.1] : List Int)).map Pa⟩)),(8192,some (0,⟨false,true,2,99,[.agg [.sl (r39.2.list.map eU8),.int .i64 r39.2.at_]]⟩))]) (hE ⟨rfl,r,r,r,trivial⟩ ⟨rfl,r,r,r,trivial⟩) (fun _=>AhO (fun g=>bif Nat.beq g 144 then 39 else g) (by rfl) (hE ⟨rfl,r,r,r,trivial⟩ ⟨rfl,r,r,r,trivial⟩))))
            ·exact B
         ·exact B
  ·refine A 12 ?_
   refine Vd (b:=((Pe.mk y17 y18 x16),(Mk.mk c14 c15))) r ?_ r r ?_ (by first | rfl | (simp only [OV]; rfl) | (simp only [OW]; rfl) | (simp only [OV,OW]; rfl) | simp [AbB,Qh])
   all_goals first|(simp;done)|(simp;omega)|rfl|(simp [PH,PE];done)

def XC (a : (List Int)) : List D:=[.sl (a.map eU8)]
def XB (ds : List D) : (List Int):=(uL uI) (ds.getD 0 .top)
theorem AeF (a : (List Int)) : XB (XC a) = a:=by simp [XB,XC,PX (u:=uI) (en:=eU8) (fun _=>rfl)]
instance : Px XC XB:=⟨AeF⟩
def Akw (b : Ph × Int × Int × Pg × Pe × Mk) : D:=.tup [RB b.1,.int .i64 b.2.1,.int .i64 b.2.2.1,Qv b.2.2.2.1,Qh b.2.2.2.2.1,Pz b.2.2.2.2.2]
noncomputable def Afx : Dw.Spec:=Pf [] (.tupPtr 5 2 99) XC XB (fun a=>ZI a) Akw noE
theorem Ajt : Pd Tryz.prog 9 Afx:=by
 refine fn2 1 (Pk (l:=[(26,Aiu),(27,AaT),(28,PN),(29,Acu),(10,Acb),(30,AcA),(31,AbC)]) (by simp [AmI,AeB,PQ,AeN,AfT,AfX,Afi])) Tryz.func9<|?_
 intro codes1
 unfold ZI
 refine A 13 ?_
 refine bD fun r2 hr2=>?_
 refine A 7 ?_
 refine bD fun r3 hr3=>?_
 refine A 11 ?_
 refine bD fun r4 hr4=>?_
 refine A 7 ?_
 refine bD fun r5 hr5=>?_
 refine A 10 ?_
 refine bD fun x_x6 hx_x6=>?_
 refine A 2 ?_
 refine bD fun r7 hr7=>?_
 refine A 5 ?_
 refine sC (E:=fun (_s : (List (List Int)) × (List Int) × Int) (g : Nat × Nat × Nat × Nat × Nat × Nat)=>[(2,.optr 2 g.1 0 0),(5,.optr 5 g.2.1 0 0),(6,.optr 6 g.2.2.1 0 0),(8,.optr 14 g.2.2.2.2.2 0 0),(9,.optr 9 g.2.2.2.1 0 0),(10,.int .i64 r4.1),(11,.int .i64 r5),(12,.optr 12 g.2.2.2.2.1 0 0)]) (O:=fun s g=>[(2,some (g.1,⟨false,true,1,26,[.agg [.nils]]⟩)),(5,some (g.2.1,⟨false,true,1,29,[.agg [.nils]]⟩)),(6,some (g.2.2.1,⟨false,true,3,32,[.agg [.int .i64 0,.int .i64 0,.nils]]⟩)),(9,some (g.2.2.2.1,⟨false,true,1,26,[.agg [.sl (r3.1.Funcs.map PL)]]⟩)),(12,some (g.2.2.2.2.1,⟨false,true,1,29,[.agg [.sl (s.1.map (eL Pa))]]⟩)),(14,some (g.2.2.2.2.2,⟨false,true,2,99,[.agg [.sl (s.2.1.map eU8),.int .i64 s.2.2]]⟩))]) (j:=fun s=>Ur r3 r4 r5 s.1 s.2.1 s.2.2) ?_ ?_
 ·exact B
 ·rintro ⟨l8,x9,x10⟩ ⟨v2x1,v5x1,v6x1,v9x1,v12x1,v14x1⟩ nn
  try dsimp only
  unfold Ur
  exact B

def AfQ (b : Bool) : D:=.bool b
noncomputable def Xv : Dw.Spec:=Pf [] .ground PZ PY (fun a=>QS a) AfQ noE
theorem AaS : Pd Tryz.prog 123 Xv:=by
 refine fn2 1 (Pv) Tryz.func123<|?_
 intro a
 unfold QS
 exact B

def Ajg (b : Bool) : D:=.bool b
noncomputable def Aeu : Dw.Spec:=Pf [] .ground Ss Sr (fun a=>Yc a) Ajg noE
theorem Aiq : Pd Tryz.prog 107 Aeu:=by
 refine fn2 1 (Pk (l:=[(123,Xv)]) (by simp [AaS])) Tryz.func107<|?_
 intro s1
 unfold Yc
 refine A 14 ?_
 refine lP (E:=fun (s : Int) (_g : Unit)=>[(0,.sl (s1.map Pa)),(5,.sl (s1.map Pa)),(6,.int .i64 (s1.length : Int)),(7,.int .i64 s)]) (O:=fun _ _=>[]) (body:=fun s=>RC s1 s) (s:=0) () ((hE ⟨rfl,r,r,r,trivial⟩ trivial))<|?_
 rintro x2 ⟨⟩ nn
 try dsimp only
 unfold RC
 exact B

def Sd (a : (List Int) × OX) : List D:=[.sl (a.1.map Pa),.fptr (PL a.2) 0]
def Sc (ds : List D) : (List Int) × OX:=((uL uI) (ds.getD 0 .top),Sy (fpD (ds.getD 1 .top)))
theorem Adf (a : (List Int) × OX) : Sc (Sd a) = a:=by simp [Sc,Sd,fpD,PX (u:=uI) (en:=Pa) (fun _=>rfl)]
instance : Px Sd Sc:=⟨Adf⟩
def AdC (b : Bool) : D:=.bool b
noncomputable def ZC : Dw.Spec:=Pf [] .ground Sd Sc (fun a=>RY a.1 a.2) AdC noE
theorem Adg : Pd Tryz.prog 106 ZC:=by
 refine fn2 2 (Pk (l:=[(107,Aeu)]) (by simp [Aiq])) Tryz.func106<|?_
 intro a
 unfold RY
 exact B

def PW (a : (List (List Int)) × OX) : List D:=[.sl (a.1.map (eL Pa)),.clo 106 [.fptr (PL a.2) 0]]
def PV (ds : List D) : (List (List Int)) × OX:=((uL (uL uI)) (ds.getD 0 .top),Sy (fpD (AhF (ds.getD 1 .top) 0)))
theorem Rm (a : (List (List Int)) × OX) : PV (PW a) = a:=by simp [PV,PW,fpD,AhF,PX (u:=(uL uI)) (en:=(eL Pa)) (PX (u:=uI) (en:=Pa) (fun _=>rfl))]
instance : Px PW PV:=⟨Rm⟩
def Zy (b : Int) : D:=.int .i64 b
noncomputable def Rz : Dw.Spec:=Pf [] .ground PW PV (fun a=>Qg a.1 a.2) Zy noE
theorem Yx : Pd Tryz.prog 124 Rz:=by
 refine fn2 2 (Pk (l:=[(106,ZC)]) (by simp [Adg])) Tryz.func124<|?_
 rintro ⟨s1,f2⟩
 unfold Qg
 refine A 14 ?_
 refine lP (E:=fun (s : Int) (_g : Unit)=>[(0,.sl (s1.map (eL Pa))),(1,.clo 106 [.fptr (.agg [.int .i64 f2.Params,.sl (f2.Slots.map Pn),.sl (f2.Code.map Pm)]) 0]),(7,.int .i64 (s1.length : Int)),(8,.int .i64 s)]) (O:=fun _ _=>[]) (body:=fun s=>Qq s1 f2 s) (s:=0) () ((hE ⟨rfl,r,r,r,trivial⟩ trivial))<|?_
 rintro x3 ⟨⟩ nn
 try dsimp only
 unfold Qq
 exact B

def Xx (b : Bool) : D:=.bool b
noncomputable def QV : Dw.Spec:=Pf [] .ground PW PV (fun a=>Qp a.1 a.2) Xx noE
theorem Xl : Pd Tryz.prog 108 QV:=by
 refine fn2 2 (Pk (l:=[(438396,Rz)]) (by simp [Yx])) Tryz.func108<|?_
 rintro ⟨s1,f2⟩
 unfold Qp
 refine A 9 ?_
 refine bD fun r3 hr3=>cG (s1,f2) rfl rfl (show _ = some Rz from by kernel_rfl) Rm rfl rfl (by simp) r hr3 r<|?_
 exact B

def Agp (b : Bool) : D:=.bool b
noncomputable def Yn : Dw.Spec:=Pf [] .ground Qm Ql (fun a=>SZ a.1 a.2) Agp noE
theorem AbD : Pd Tryz.prog 82 Yn:=by
 refine fn2 2 (Pk (l:=[(438380,QV)]) (by simp [Xl])) Tryz.func82<|?_
 rintro ⟨f1,l2⟩
 unfold SZ
 refine A 6 ?_
 refine VL (E:=[(2,.fptr (.agg [.int .i64 f1.Params,.sl (f1.Slots.map Pn),.sl (f1.Code.map Pm)]) 0),(3,.optr 3 _ 0 0)]) (O:=[(3,some (_,⟨false,true,1,29,[.agg [.sl (l2.Out.map (eL Pa))]]⟩))]) ((Afl (g:=2) r (by first | rfl | (simp [cells,frp,PA,PH]; done)) (hE ⟨(by first | rfl | (simp [Ps,frp]; done) | (simp [Ps,frp,PA]; done) | (simp [Ps,frp,PA,nbq]; done) | (simp [Ps,lkO,frp,PA,frO]; done) | (simp [Ps,lkO,frp,PA,frO]; rfl) | (simp [Ps,lkO,frp,PA,frO,nbq]; done)),(by first | rfl | (simp [Ps,frp]; done) | (simp [Ps,frp,PA]; done) | (simp [Ps,frp,PA,nbq]; done) | (simp [Ps,lkO,frp,PA,frO]; done) | (simp [Ps,lkO,frp,PA,frO]; rfl) | (simp [Ps,lkO,frp,PA,frO,nbq]; done)),trivial⟩ ⟨(by first | rfl | (simp [Ps,frp]; done) | (simp [Ps,frp,PA]; done) | (simp [Ps,frp,PA,nbq]; done) | (simp [Ps,lkO,frp,PA,frO]; done) | (simp [Ps,lkO,frp,PA,frO]; rfl) | (simp [Ps,lkO,frp,PA,frO,nbq]; done)),trivial⟩))) fun nn=>?_
 refine A 2 ?_
 refine mF (caps:=[.fptr (.agg [.int .i64 f1.Params,.sl (f1.Slots.map Pn),.sl (f1.Code.map Pm)]) 0]) r r (by simp [AcS])<|?_
 refine A 13 ?_
 refine AbF r ?_ ?_
 ·refine A 3 ?_
  refine bD fun r3 hr3=>cG (l2.Out,f1) rfl rfl (show _ = some QV from by kernel_rfl) Rm rfl rfl (by simp) r hr3 r<|?_
  exact B
 ·exact B

def Vw (a : Pg) : List D:=[Qv a]
def Vv (ds : List D) : Pg:=VA (ds.getD 0 .top)
theorem Ahj (a : Pg) : Vv (Vw a) = a:=by simp [Vv,Vw]
instance : Px Vw Vv:=⟨Ahj⟩
def AhQ (b : Pg) : D:=.clo 127 [.fptr (Qv b) 0]
noncomputable def Adh : Dw.Spec:=Pf [] .val Vw Vv (fun a=>YG a) AhQ noE
theorem Ahk : Pd Tryz.prog 110 Adh:=by
 refine fn2 1 (Pv) Tryz.func110<|?_
 intro l1
 unfold YG
 refine A 5 ?_
 refine VL (E:=[(1,.fptr (.agg [.sl (l1.Out.map (eL Pa))]) 0)]) (O:=[]) ((Afl (g:=1) r (by first | rfl | (simp [cells,frp,PA,PH]; done)) (hE ⟨(by first | rfl | (simp [Ps,frp]; done) | (simp [Ps,frp,PA]; done) | (simp [Ps,frp,PA,nbq]; done) | (simp [Ps,lkO,frp,PA,frO]; done) | (simp [Ps,lkO,frp,PA,frO]; rfl) | (simp [Ps,lkO,frp,PA,frO,nbq]; done)),trivial⟩ trivial))) fun nn=>?_
 refine A 2 ?_
 refine mF (caps:=[.fptr (.agg [.sl (l1.Out.map (eL Pa))]) 0]) r r (by simp [AcS])<|?_
 exact B

def Ail (b : Bool) : D:=.bool b
noncomputable def Adq : Dw.Spec:=Pf [] .ground PZ PY (fun a=>Zx a) Ail noE
theorem Ahm : Pd Tryz.prog 133 Adq:=by
 refine fn2 1 (Pv) Tryz.func133<|?_
 intro a
 unfold Zx
 exact B

def AmN (b : (List Int)) : D:=.sl (b.map Pa)
noncomputable def Ahs : Dw.Spec:=Pf [] (.row 1 3) Wq Wp (fun a=>Ach a.1 a.2) AmN noE
theorem AlM : Pd Tryz.prog 125 Ahs:=by
 refine fn2 2 (Pk (l:=[(133,Adq),(134,AaH),(135,Yw)]) (by simp [Ahm,Aeo,AcP])) Tryz.func125<|?_
 rintro ⟨f1,k2⟩
 unfold Ach
 refine A 6 ?_
 refine sC (E:=fun (_s : Unit) (g : Nat)=>[(1,.int .i64 k2),(2,.optr 2 g 0 0)]) (O:=fun _ g=>[(2,some (g,⟨false,true,3,40,[.agg [.int .i64 f1.Params,.sl (f1.Slots.map Pn),.sl (f1.Code.map Pm)]]⟩))]) (j:=fun _=>AaY f1 k2) ?_ ?_
 ·exact B
 ·rintro ⟨⟩ v2x1 nn
  try dsimp only
  unfold AaY
  refine A 10 ?_
  refine bD fun x_x3 hx_x3=>?_
  refine A 6 ?_
  refine sC (E:=fun (s : (List Int)) (g : Nat × Nat)=>[(5,.osl 5 g.1 0 s.length),(6,.optr 6 g.2 0 0)]) (O:=fun s g=>[(5,some (g.1,⟨false,false,1,3,s.map Pa⟩)),(6,some (g.2,⟨false,true,5,50,[.agg [.int .i64 x_x3.Op,.int .i64 x_x3.A,.int .i64 x_x3.B,.int .i64 x_x3.C,.int .u64 x_x3.Imm]]⟩))]) (j:=fun s=>Yk x_x3 s) ?_ ?_
  ·exact B
  ·rintro l4 ⟨v5x2,v6x2⟩ nn
   try dsimp only
   unfold Yk
   exact B

def SR (a : Int × Pg) : List D:=[.int .i64 a.1,.fptr (Qv a.2) 0]
def SQ (ds : List D) : Int × Pg:=(uI (ds.getD 0 .top),VA (fpD (ds.getD 1 .top)))
theorem Aek (a : Int × Pg) : SQ (SR a) = a:=by simp [SQ,SR,uI,fpD]
instance : Px SR SQ:=⟨Aek⟩
def AeI (b : (List Int)) : D:=.sl (b.map Pa)
noncomputable def AaG : Dw.Spec:=Pf [] .val SR SQ (fun a=>US a.1 a.2) AeI noE
theorem Ael : Pd Tryz.prog 127 AaG:=by
 refine fn2 2 (Pv) Tryz.func127<|?_
 intro a
 unfold US
 exact B

def AhJ (b : Int × Bool) : D:=.tup [.int .i64 b.1,.bool b.2]
noncomputable def Aau : Dw.Spec:=Pf [] .ground Qu Qt (fun a=>Up a) AhJ noE
theorem AcE : Pd Tryz.prog 84 Aau:=by
 refine fn2 1 (Pv) Tryz.func84<|?_
 intro a
 unfold Up
 exact B

def Tm (a : OY × Int × Bool) : List D:=[PD a.1,.int .i64 a.2.1,.bool a.2.2]
def Tl (ds : List D) : OY × Int × Bool:=(Rn (ds.getD 0 .top),uI (ds.getD 1 .top),uBo (ds.getD 2 .top))
theorem Aey (a : OY × Int × Bool) : Tl (Tm a) = a:=by simp [Tl,Tm,uI,uBo]
instance : Px Tm Tl:=⟨Aey⟩
def Afg (_b : OY) : D:=.tup []
def Aff (b : OY) : List D:=[PD b]
noncomputable def WE : Dw.Spec:=Pf [(0,(8,160))] .val Tm Tl (fun a=>RP a.1 a.2.1 a.2.2) Afg Aff
theorem Aay : Pd Tryz.prog 139 WE:=by
 refine fn2 3 (Pk (l:=[(123,Xv)]) (by simp [AaS])) Tryz.func139<|?_
 rintro ⟨s1,n2,in3⟩
 unfold RP
 refine A 13 ?_
 refine bD fun r4 hr4=>?_
 refine A 5 ?_
 refine cD r ?_ ?_
 ·exact B
 ·refine A 6 ?_
  refine cD r ?_ ?_
  ·refine A 5 ?_
   refine cK fun hq=>Uy r r r hq<|bD fun s_e5 hs_e5=>WZ (q:=s_e5) (l:=s1.toList) (en:=Aat) (j:=(IntKind.i64.wrap (n2.tdiv 64)).toNat) (by simp) r r r hs_e5 r (fun _=>r)<|?_
   refine A 3 ?_
   refine cK fun hq=>Uy r r r hq<|bD fun s_o6 hs_o6=>AdX (q:=s_o6) (q':=IntKind.u64.wrap ((BitVec.ofInt IntKind.u64.bits s_e5 ||| BitVec.ofInt IntKind.u64.bits (IntKind.u64.wrap (1 * 2 ^ (Nat.min ((IntKind.u64.wrap (n2)).tmod 64).toNat IntKind.u64.bits)))).toNat)) (l:=s1.toList) (en:=Aat) (j:=(IntKind.i64.wrap (n2.tdiv 64)).toNat) (z':=.agg [.int .u64 ((s1.set ((IntKind.i64.wrap (n2.tdiv 64)).toNat) (IntKind.u64.wrap ((BitVec.ofInt IntKind.u64.bits s_e5 ||| BitVec.ofInt IntKind.u64.bits (IntKind.u64.wrap (1 * 2 ^ (Nat.min ((IntKind.u64.wrap (n2)).tmod 64).toNat IntKind.u64.bits)))).toNat))).a0),.int .u64 ((s1.set ((IntKind.i64.wrap (n2.tdiv 64)).toNat) (IntKind.u64.wrap ((BitVec.ofInt IntKind.u64.bits s_e5 ||| BitVec.ofInt IntKind.u64.bits (IntKind.u64.wrap (1 * 2 ^ (Nat.min ((IntKind.u64.wrap (n2)).tmod 64).toNat IntKind.u64.bits)))).toNat))).a1),.int .u64 ((s1.set ((IntKind.i64.wrap (n2.tdiv 64)).toNat) (IntKind.u64.wrap ((BitVec.ofInt IntKind.u64.bits s_e5 ||| BitVec.ofInt IntKind.u64.bits (IntKind.u64.wrap (1 * 2 ^ (Nat.min ((IntKind.u64.wrap (n2)).tmod 64).toNat IntKind.u64.bits)))).toNat))).a2),.int .u64 ((s1.set ((IntKind.i64.wrap (n2.tdiv 64)).toNat) (IntKind.u64.wrap ((BitVec.ofInt IntKind.u64.bits s_e5 ||| BitVec.ofInt IntKind.u64.bits (IntKind.u64.wrap (1 * 2 ^ (Nat.min ((IntKind.u64.wrap (n2)).tmod 64).toNat IntKind.u64.bits)))).toNat))).a3),.int .u64 ((s1.set ((IntKind.i64.wrap (n2.tdiv 64)).toNat) (IntKind.u64.wrap ((BitVec.ofInt IntKind.u64.bits s_e5 ||| BitVec.ofInt IntKind.u64.bits (IntKind.u64.wrap (1 * 2 ^ (Nat.min ((IntKind.u64.wrap (n2)).tmod 64).toNat IntKind.u64.bits)))).toNat))).a4),.int .u64 ((s1.set ((IntKind.i64.wrap (n2.tdiv 64)).toNat) (IntKind.u64.wrap ((BitVec.ofInt IntKind.u64.bits s_e5 ||| BitVec.ofInt IntKind.u64.bits (IntKind.u64.wrap (1 * 2 ^ (Nat.min ((IntKind.u64.wrap (n2)).tmod 64).toNat IntKind.u64.bits)))).toNat))).a5),.int .u64 ((s1.set ((IntKind.i64.wrap (n2.tdiv 64)).toNat) (IntKind.u64.wrap ((BitVec.ofInt IntKind.u64.bits s_e5 ||| BitVec.ofInt IntKind.u64.bits (IntKind.u64.wrap (1 * 2 ^ (Nat.min ((IntKind.u64.wrap (n2)).tmod 64).toNat IntKind.u64.bits)))).toNat))).a6),.int .u64 ((s1.set ((IntKind.i64.wrap (n2.tdiv 64)).toNat) (IntKind.u64.wrap ((BitVec.ofInt IntKind.u64.bits s_e5 ||| BitVec.ofInt IntKind.u64.bits (IntKind.u64.wrap (1 * 2 ^ (Nat.min ((IntKind.u64.wrap (n2)).tmod 64).toNat IntKind.u64.bits)))).toNat))).a7)]) (by simp) r r r r r hs_o6 r r (congrArg (fun l=>D.agg (l.map Aat)) (Rq s1 ((IntKind.i64.wrap (n2.tdiv 64)).toNat) (IntKind.u64.wrap ((BitVec.ofInt IntKind.u64.bits s_e5 ||| BitVec.ofInt IntKind.u64.bits (IntKind.u64.wrap (1 * 2 ^ (Nat.min ((IntKind.u64.wrap (n2)).tmod 64).toNat IntKind.u64.bits)))).toNat))).symm) r r<|?_
   exact B
  ·refine A 5 ?_
   refine cK fun hq=>Uy r r r hq<|bD fun s_e7 hs_e7=>WZ (q:=s_e7) (l:=s1.toList) (en:=Aat) (j:=(IntKind.i64.wrap (n2.tdiv 64)).toNat) (by simp) r r r hs_e7 r (fun _=>r)<|?_
   refine A 3 ?_
   refine cK fun hq=>Uy r r r hq<|bD fun s_o8 hs_o8=>AdX (q:=s_o8) (q':=IntKind.u64.wrap ((BitVec.ofInt IntKind.u64.bits s_e7 &&& ~~~ BitVec.ofInt IntKind.u64.bits (IntKind.u64.wrap (1 * 2 ^ (Nat.min ((IntKind.u64.wrap (n2)).tmod 64).toNat IntKind.u64.bits)))).toNat)) (l:=s1.toList) (en:=Aat) (j:=(IntKind.i64.wrap (n2.tdiv 64)).toNat) (z':=.agg [.int .u64 ((s1.set ((IntKind.i64.wrap (n2.tdiv 64)).toNat) (IntKind.u64.wrap ((BitVec.ofInt IntKind.u64.bits s_e7 &&& ~~~ BitVec.ofInt IntKind.u64.bits (IntKind.u64.wrap (1 * 2 ^ (Nat.min ((IntKind.u64.wrap (n2)).tmod 64).toNat IntKind.u64.bits)))).toNat))).a0),.int .u64 ((s1.set ((IntKind.i64.wrap (n2.tdiv 64)).toNat) (IntKind.u64.wrap ((BitVec.ofInt IntKind.u64.bits s_e7 &&& ~~~ BitVec.ofInt IntKind.u64.bits (IntKind.u64.wrap (1 * 2 ^ (Nat.min ((IntKind.u64.wrap (n2)).tmod 64).toNat IntKind.u64.bits)))).toNat))).a1),.int .u64 ((s1.set ((IntKind.i64.wrap (n2.tdiv 64)).toNat) (IntKind.u64.wrap ((BitVec.ofInt IntKind.u64.bits s_e7 &&& ~~~ BitVec.ofInt IntKind.u64.bits (IntKind.u64.wrap (1 * 2 ^ (Nat.min ((IntKind.u64.wrap (n2)).tmod 64).toNat IntKind.u64.bits)))).toNat))).a2),.int .u64 ((s1.set ((IntKind.i64.wrap (n2.tdiv 64)).toNat) (IntKind.u64.wrap ((BitVec.ofInt IntKind.u64.bits s_e7 &&& ~~~ BitVec.ofInt IntKind.u64.bits (IntKind.u64.wrap (1 * 2 ^ (Nat.min ((IntKind.u64.wrap (n2)).tmod 64).toNat IntKind.u64.bits)))).toNat))).a3),.int .u64 ((s1.set ((IntKind.i64.wrap (n2.tdiv 64)).toNat) (IntKind.u64.wrap ((BitVec.ofInt IntKind.u64.bits s_e7 &&& ~~~ BitVec.ofInt IntKind.u64.bits (IntKind.u64.wrap (1 * 2 ^ (Nat.min ((IntKind.u64.wrap (n2)).tmod 64).toNat IntKind.u64.bits)))).toNat))).a4),.int .u64 ((s1.set ((IntKind.i64.wrap (n2.tdiv 64)).toNat) (IntKind.u64.wrap ((BitVec.ofInt IntKind.u64.bits s_e7 &&& ~~~ BitVec.ofInt IntKind.u64.bits (IntKind.u64.wrap (1 * 2 ^ (Nat.min ((IntKind.u64.wrap (n2)).tmod 64).toNat IntKind.u64.bits)))).toNat))).a5),.int .u64 ((s1.set ((IntKind.i64.wrap (n2.tdiv 64)).toNat) (IntKind.u64.wrap ((BitVec.ofInt IntKind.u64.bits s_e7 &&& ~~~ BitVec.ofInt IntKind.u64.bits (IntKind.u64.wrap (1 * 2 ^ (Nat.min ((IntKind.u64.wrap (n2)).tmod 64).toNat IntKind.u64.bits)))).toNat))).a6),.int .u64 ((s1.set ((IntKind.i64.wrap (n2.tdiv 64)).toNat) (IntKind.u64.wrap ((BitVec.ofInt IntKind.u64.bits s_e7 &&& ~~~ BitVec.ofInt IntKind.u64.bits (IntKind.u64.wrap (1 * 2 ^ (Nat.min ((IntKind.u64.wrap (n2)).tmod 64).toNat IntKind.u64.bits)))).toNat))).a7)]) (by simp) r r r r r hs_o8 r r (congrArg (fun l=>D.agg (l.map Aat)) (Rq s1 ((IntKind.i64.wrap (n2.tdiv 64)).toNat) (IntKind.u64.wrap ((BitVec.ofInt IntKind.u64.bits s_e7 &&& ~~~ BitVec.ofInt IntKind.u64.bits (IntKind.u64.wrap (1 * 2 ^ (Nat.min ((IntKind.u64.wrap (n2)).tmod 64).toNat IntKind.u64.bits)))).toNat))).symm) r r<|?_
   exact B

def Ait (b : OY) : D:=PD b
noncomputable def Ve : Dw.Spec:=Pf [] (.ptr 8 160) Ss Sr (fun a=>Ro a) Ait noE
theorem WD : Pd Tryz.prog 128 Ve:=by
 refine fn2 1 (Pk (l:=[(139,WE)]) (by simp [Aay])) Tryz.func128<|?_
 intro l1
 unfold Ro
 refine A 21 ?_
 refine lP (E:=fun (s : OY × Int) (g : Nat)=>[(3,.optr 7 g 0 0),(8,.sl (l1.map Pa)),(9,.int .i64 (l1.length : Int)),(10,.int .i64 s.2)]) (O:=fun s g=>[(7,some (g,⟨false,true,8,160,[.agg [.int .u64 s.1.a0,.int .u64 s.1.a1,.int .u64 s.1.a2,.int .u64 s.1.a3,.int .u64 s.1.a4,.int .u64 s.1.a5,.int .u64 s.1.a6,.int .u64 s.1.a7]]⟩))]) (body:=fun s=>WC l1 s.1 s.2) (s:=((OY.mk 0 0 0 0 0 0 0 0),0)) _ ((hE ⟨rfl,r,r,r,trivial⟩ ⟨rfl,trivial⟩))<|?_
 rintro ⟨x2,x3⟩ v7x1 nn
 try dsimp only
 unfold WC
 exact B

end Go.Proofs.YtnldnldmgceooaaGreatDoor
