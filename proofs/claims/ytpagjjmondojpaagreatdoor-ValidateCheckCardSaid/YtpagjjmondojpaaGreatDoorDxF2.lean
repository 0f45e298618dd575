/-
  Programs on typed data, and the proofs that the code does what they say; written by a program (dx.py).
-/
import Derived.Test.YtpagjjmondojpaaGreatDoorProg
import Derived.Test.YtpagjjmondojpaaGreatDoorDc
import Derived.Test.YtpagjjmondojpaaGreatDoorDd
import Derived.KernelRfl
import Derived.Test.YtpagjjmondojpaaGreatDoorDxP
import Derived.Test.YtpagjjmondojpaaGreatDoorDxF1
namespace Go.Proofs.YtpagjjmondojpaaGreatDoor
open Go Go.Dw Go.Proofs
set_option maxRecDepth 100000
set_option maxHeartbeats 4000000
open Go.Dw renaming QG → bD,PA → cK,AbX → bS,Aby → aP,UZ → sE,Abz → cD,AdC → xL,Zw → hE,Adi → lP,Aaj → sC,Yo → bC,AkC → mF,rf → r
def Qj (a : OJ × OO × OP) : List D:=[PO a.1,PX a.2.1,RD a.2.2]
def Qi (ds : List D) : OJ × OO × OP:=(RV (ds.getD 0 .top),UP (ds.getD 1 .top),Yp (ds.getD 2 .top))
theorem AdE (a : OJ × OO × OP) : Qi (Qj a) = a:=by simp [Qi,Qj]
instance : Pn Qj Qi:=⟨AdE⟩
def Aeg (b : Int × Int × Bool) : D:=.tup [.int .i64 b.1,.int .i64 b.2.1,.bool b.2.2]
noncomputable def WC : Dw.Spec:=OT [] .ground Qj Qi (fun a=>QB a.1 a.2.1 a.2.2) Aeg noE
noncomputable def YN : Dw.Spec:=Aho (specs []) 3 [(.t 6)] AlR
theorem Acb : OR Tryz.prog 29 YN:=Amd (Pm) Tryz.func29 (by decide) AmZ Ana (by decide)
theorem Aak : OR Tryz.prog 10 WC:=by
 refine fn2 3 (OX (l:=[(25,Yv),(26,Aah),(29,YN),(55,Uh)]) (by simp [AaW,AbT,Acb,Zp])) Tryz.func10<|?_
 rintro ⟨f1,l2,r3⟩
 unfold QB
 refine A 10 ?_
 refine sC (E:=fun (_s : Unit) (g : Nat × Nat × Nat)=>[(3,.optr 3 g.1 0 0),(4,.optr 4 g.2.1 0 0),(5,.optr 5 g.2.2 0 0)]) (O:=fun _ g=>[(3,some (g.1,⟨false,true,3,40,[.agg [.int .i64 f1.Params,.sl (f1.Slots.map OV),.sl (f1.Code.map OU)]]⟩)),(4,some (g.2.1,⟨false,true,1,29,[.agg [.sl (l2.Out.map (eL OK))]]⟩)),(5,some (g.2.2,⟨false,true,2,33,[.agg [.sl (r3.To.map OK),.sl (r3.Keep.map D.bool)]]⟩))]) (j:=fun _=>RX f1 r3 l2) ?_ ?_
 ·exact B
 ·rintro ⟨⟩ ⟨v3x1,v4x1,v5x1⟩ nn
  try dsimp only
  unfold RX
  refine A 5 ?_
  refine AmN (E:=fun (g : Nat)=>[(3,.optr 1003 g 0 0),(23,.agg [.int .i64 f1.Params,.sl (f1.Slots.map OV),.sl (f1.Code.map OU)]),(24,.agg [.sl (l2.Out.map (eL OK))]),(25,.agg [.sl (r3.To.map OK),.sl (r3.Keep.map D.bool)])]) (O:=fun g=>[(1003,some (g,⟨false,true,3,40,[.agg [.int .i64 f1.Params,.sl (f1.Slots.map OV),.sl (f1.Code.map OU)]]⟩))]) _ ((Ajt (fun g=>bif Nat.ble 4096 g then g + 20000 else g + 1000) (by rfl) (hE ⟨rfl,r,r,r,trivial⟩ ⟨rfl,trivial⟩)))<|?_
  rintro v1003x2 nn
  try dsimp only
  refine Amj (ds:=[.agg [.int .i64 f1.Params,.sl (f1.Slots.map OV),.sl (f1.Code.map OU)],.agg [.sl (l2.Out.map (eL OK))],.agg [.sl (r3.To.map OK),.sl (r3.Keep.map D.bool)]]) (caps:=[]) (E:=[(0,.agg [.int .i64 f1.Params,.sl (f1.Slots.map OV),.sl (f1.Code.map OU)]),(1,.agg [.sl (l2.Out.map (eL OK))]),(2,.agg [.sl (r3.To.map OK),.sl (r3.Keep.map D.bool)])]) r r r r r r r r<|?_
  unfold AlR
  refine A 7 ?_
  refine TJ (E:=[(3,.fptr (.agg [.int .i64 f1.Params,.sl (f1.Slots.map OV),.sl (f1.Code.map OU)]) 0),(4,.fptr (.agg [.sl (l2.Out.map (eL OK))]) 0),(5,.fptr (.agg [.sl (r3.To.map OK),.sl (r3.Keep.map D.bool)]) 0)]) (O:=[(1003,some (v1003x2,⟨false,true,3,40,[.agg [.int .i64 f1.Params,.sl (f1.Slots.map OV),.sl (f1.Code.map OU)]]⟩))]) ((Zk (g:=3) r (by first | rfl | (simp [cells,frp,Pg,Pv]; done)) (Zk (g:=4) r (by first | rfl | (simp [cells,frp,Pg,Pv]; done)) (Zk (g:=5) r (by first | rfl | (simp [cells,frp,Pg,Pv]; done)) (hE ⟨(by first | rfl | (simp [OZ,frp]; done) | (simp [OZ,frp,Pg]; done) | (simp [OZ,frp,Pg,nbq]; done) | (simp [OZ,lkO,frp,Pg,frO]; done) | (simp [OZ,lkO,frp,Pg,frO]; rfl) | (simp [OZ,lkO,frp,Pg,frO,nbq]; done)),(by first | rfl | (simp [OZ,frp]; done) | (simp [OZ,frp,Pg]; done) | (simp [OZ,frp,Pg,nbq]; done) | (simp [OZ,lkO,frp,Pg,frO]; done) | (simp [OZ,lkO,frp,Pg,frO]; rfl) | (simp [OZ,lkO,frp,Pg,frO,nbq]; done)),(by first | rfl | (simp [OZ,frp]; done) | (simp [OZ,frp,Pg]; done) | (simp [OZ,frp,Pg,nbq]; done) | (simp [OZ,lkO,frp,Pg,frO]; done) | (simp [OZ,lkO,frp,Pg,frO]; rfl) | (simp [OZ,lkO,frp,Pg,frO,nbq]; done)),trivial⟩ ⟨(by first | rfl | (simp [OZ,frp]; done) | (simp [OZ,frp,Pg]; done) | (simp [OZ,frp,Pg,nbq]; done) | (simp [OZ,lkO,frp,Pg,frO]; done) | (simp [OZ,lkO,frp,Pg,frO]; rfl) | (simp [OZ,lkO,frp,Pg,frO,nbq]; done)),trivial⟩))))) fun nn=>?_
  refine A 2 ?_
  refine mF (caps:=[.fptr (.agg [.int .i64 f1.Params,.sl (f1.Slots.map OV),.sl (f1.Code.map OU)]) 0,.fptr (.agg [.sl (r3.To.map OK),.sl (r3.Keep.map D.bool)]) 0,.fptr (.agg [.sl (l2.Out.map (eL OK))]) 0]) r r (by simp [AaJ])<|?_
  refine A 4 ?_
  refine AmO (d:=.clo 55 [.fptr (.agg [.int .i64 f1.Params,.sl (f1.Slots.map OV),.sl (f1.Code.map OU)]) 0,.fptr (.agg [.sl (r3.To.map OK),.sl (r3.Keep.map D.bool)]) 0,.fptr (.agg [.sl (l2.Out.map (eL OK))]) 0]) (E:=[(3,.optr 3 _ 0 0),(26,.clo 55 [.fptr (.agg [.int .i64 f1.Params,.sl (f1.Slots.map OV),.sl (f1.Code.map OU)]) 0,.fptr (.agg [.sl (r3.To.map OK),.sl (r3.Keep.map D.bool)]) 0,.fptr (.agg [.sl (l2.Out.map (eL OK))]) 0])]) (O:=[(3,some (_,⟨false,true,3,40,[.agg [.int .i64 f1.Params,.sl (f1.Slots.map OV),.sl (f1.Code.map OU)]]⟩))]) r (by first | rfl | (simp [Te,PN,rdA,raw,strip,Ra,cells,Qv]; done) | (simp [Te,PN,rdA,raw,strip,Ra,S.ge,S.go,look,Amk,cells,Qv]; done)) r ((AlW (E1:=[(3,.optr 1003 v1003x2 0 0),(26,.clo 55 [.fptr (.agg [.int .i64 f1.Params,.sl (f1.Slots.map OV),.sl (f1.Code.map OU)]) 0,.fptr (.agg [.sl (r3.To.map OK),.sl (r3.Keep.map D.bool)]) 0,.fptr (.agg [.sl (l2.Out.map (eL OK))]) 0])]) (O1:=[(1003,some (v1003x2,⟨false,true,3,40,[.agg [.int .i64 f1.Params,.sl (f1.Slots.map OV),.sl (f1.Code.map OU)]]⟩))]) (hE ⟨rfl,r,trivial⟩ ⟨rfl,trivial⟩) (fun _=>Ajt (fun g=>bif Nat.ble 24096 g then g - 20000 else bif (Nat.ble 1000 g && Nat.blt g 4096) then g - 1000 else g) (by rfl) (hE ⟨rfl,r,trivial⟩ ⟨rfl,trivial⟩)))) fun nn=>?_
  refine A 13 ?_
  refine lP (E:=fun (s : Int) (_g : Unit)=>[(9,.clo 55 [.fptr (.agg [.int .i64 f1.Params,.sl (f1.Slots.map OV),.sl (f1.Code.map OU)]) 0,.fptr (.agg [.sl (r3.To.map OK),.sl (r3.Keep.map D.bool)]) 0,.fptr (.agg [.sl (l2.Out.map (eL OK))]) 0]),(29,.int .i64 (f1.Code.length : Int)),(30,.int .i64 s)]) (O:=fun _ _=>[]) (body:=fun s=>RW f1 r3 l2 s) (s:=0) () ((hE ⟨rfl,r,r,trivial⟩ trivial))<|?_
  rintro x6 ⟨⟩ nn
  try dsimp only
  unfold RW
  exact B

def Agt (b : Int) : D:=.int .i64 b
noncomputable def Zn : Dw.Spec:=OT [] .ground Qj Qi (fun a=>SC a.1 a.2.1 a.2.2) Agt noE
theorem Abp : OR Tryz.prog 8 Zn:=by
 refine fn2 3 (OX (l:=[(25,Yv),(26,Aah),(10,WC)]) (by simp [AaW,AbT,Aak])) Tryz.func8<|?_
 intro a
 unfold SC
 exact B

def ZO (_a : Unit) : List D:=[]
def ZN (_ds : List D) : Unit:=()
theorem Ahk (a : Unit) : ZN (ZO a) = a:=rfl
instance : Pn ZO ZN:=⟨Ahk⟩
def Aig (b : Bool) : D:=.bool b
noncomputable def AdG : Dw.Spec:=OT [] .ground ZO ZN (fun a=>Yz) Aig noE
theorem Ahl : OR Tryz.prog 6 AdG:=by
 refine fn2 0 (OX (l:=[(8,Zn)]) (by simp [Abp])) Tryz.func6<|?_
 intro _
 unfold Yz
 refine A 9 ?_
 refine bS ([(Pb.mk 8 8),(Pb.mk 8 8)] : List Pb) OV r r r (by simp) r r r<|?_
 refine A 4 ?_
 refine bS ([(OM.mk 16 0 0 0 0),(OM.mk 16 1 0 0 0),(OM.mk 15 0 0 0 0),(OM.mk 23 0 0 0 0)] : List OM) OU r r r (by simp) r r r<|?_
 refine A 9 ?_
 refine bS (([] : List Int) : List Int) OK r r r (by simp) r r r<|bS (([] : List Int) : List Int) OK r r r (by simp) r r r<|bS ([([0] : List Int),([0] : List Int),([] : List Int),([] : List Int)] : List (List Int)) (eL OK) r r r (by simp) r (by simp [WE,eL]) r<|?_
 refine A 7 ?_
 refine bS ([true,true,true,true] : List Bool) D.bool r r r (by simp) r r r<|?_
 refine A 7 ?_
 refine bS ([0,1] : List Int) OK r r r (by simp) r r r<|?_
 refine A 2 ?_
 refine bD fun r1 hr1=>?_
 refine A 3 ?_
 refine Abw r ?_ ?_
 ·refine A 2 ?_
  refine bS ([0,0] : List Int) OK r r r (by simp) r r r<|?_
  exact B
 ·exact B

def ZL (a : (List Int) × Int) : List D:=[.sl (a.1.map eU8),.int .i64 a.2]
def ZK (ds : List D) : (List Int) × Int:=((uL uI) (ds.getD 0 .top),uI (ds.getD 1 .top))
theorem Akj (a : (List Int) × Int) : ZK (ZL a) = a:=by simp [ZK,ZL,uI,PQ (u:=uI) (en:=eU8) (fun _=>rfl)]
instance : Pn ZL ZK:=⟨Akj⟩
def AkP (b : Mk) : D:=Pl b
noncomputable def AgB : Dw.Spec:=OT [] (.ptr 2 91) ZL ZK (fun a=>AbG a.1 a.2) AkP noE
theorem Akk : OR Tryz.prog 19 AgB:=by
 refine fn2 2 (Pm) Tryz.func19<|?_
 intro a
 unfold AbG
 exact B

def QD (a : Mk) : List D:=[Pl a]
def QC (ds : List D) : Mk:=RN (ds.getD 0 .top)
theorem Aeh (a : Mk) : QC (QD a) = a:=by simp [QC,QD]
instance : Pn QD QC:=⟨Aeh⟩
def Afd (b : Bool × Mk) : D:=.bool b.1
def Afc (b : Bool × Mk) : List D:=[Pl b.2]
noncomputable def Abj : Dw.Spec:=OT [(0,(2,91))] .val QD QC (fun a=>WD a) Afd Afc
theorem Aei : OR Tryz.prog 41 Abj:=by
 refine fn2 1 (Pm) Tryz.func41<|?_
 intro a
 unfold WD
 exact B

def So (a : Mk × Int) : List D:=[Pl a.1,.int .i64 a.2]
def Sn (ds : List D) : Mk × Int:=(RN (ds.getD 0 .top),uI (ds.getD 1 .top))
theorem Ael (a : Mk × Int) : Sn (So a) = a:=by simp [Sn,So,uI]
instance : Pn So Sn:=⟨Ael⟩
def Afg (b : Int × Mk) : D:=.int .i64 b.1
def Aff (b : Int × Mk) : List D:=[Pl b.2]
noncomputable def Pz : Dw.Spec:=OT [(0,(2,91))] .val So Sn (fun a=>OQ a.1 a.2) Afg Aff
theorem PC : OR Tryz.prog 21 Pz:=by
 refine fn2 2 (OX (l:=[(41,Abj)]) (by simp [Aei])) Tryz.func21<|?_
 rintro ⟨c1,n2⟩
 unfold OQ
 refine A 5 ?_
 refine sC (E:=fun (_s : (List Int) × Int) (_g : Unit)=>[(0,.optr 8192 0 0 0),(1,.int .i64 n2)]) (O:=fun s _=>[(8192,some (0,⟨false,true,2,91,[.agg [.sl (s.1.map eU8),.int .i64 s.2]]⟩))]) (j:=fun s=>UA n2 s.1 s.2) ?_ ?_
 ·exact B
 ·rintro ⟨c3,c4⟩ ⟨⟩ nn
  try dsimp only
  unfold UA
  refine A 10 ?_
  refine bD fun x_x6 hx_x6=>?_
  refine A 15 ?_
  refine Wy (i:=0) (es':=[.agg [.sl (c3.map eU8),.int .i64 (IntKind.i64.wrap (c4 + 1))]]) r r r r r r r (by first | trivial | (simp; done) | (simp; omega)) r r r r r r<|?_
  exact B

def Afi (b : Pb × Mk) : D:=OV b.1
def Afh (b : Pb × Mk) : List D:=[Pl b.2]
noncomputable def Abl : Dw.Spec:=OT [(0,(2,91))] .val QD QC (fun a=>UB a) Afi Afh
theorem Aem : OR Tryz.prog 95 Abl:=by
 refine fn2 1 (OX (l:=[(21,Pz)]) (by simp [PC])) Tryz.func95<|?_
 intro c1
 unfold UB
 refine A 7 ?_
 refine bS ([8,4,8,1,2,16,8] : List Int) OK r r r (by simp) r r r<|?_
 refine A 1 ?_
 refine bD fun r2 hr2=>?_
 refine A 2 ?_
 refine bD fun x_e3 hx_e3=>?_
 refine A 1 ?_
 refine bS ([8,4,1,8,16,2,32,64] : List Int) OK r r r (by simp) r r r<|?_
 exact B

def Aeo (b : (List Pb) × Mk) : D:=.sl (b.1.map OV)
def Aen (b : (List Pb) × Mk) : List D:=[Pl b.2]
noncomputable def AaO : Dw.Spec:=OT [(0,(2,91))] (.row 2 67) So Sn (fun a=>TV a.1 a.2) Aeo Aen
theorem Aed : OR Tryz.prog 69 AaO:=by
 refine fn2 2 (OX (l:=[(21,Pz),(95,Abl)]) (by simp [PC,Aem])) Tryz.func69<|?_
 rintro ⟨c1,most2⟩
 unfold TV
 refine A 16 ?_
 refine bD fun r3 hr3=>?_
 refine A 5 ?_
 refine lP (E:=fun (s : (List Int) × Int × (List Pb) × Int) (g : Nat)=>[(0,.optr 8192 0 0 0),(5,.osl 5 g 0 s.2.2.1.length),(6,.int .i64 s.2.2.2)]) (O:=fun s g=>[(5,some (g,⟨false,false,2,67,s.2.2.1.map OV⟩)),(8192,some (0,⟨false,true,2,91,[.agg [.sl (s.1.map eU8),.int .i64 s.2.1]]⟩))]) (body:=fun s=>Ub s.1 s.2.1 s.2.2.1 s.2.2.2) (s:=(r3.2.list,r3.2.at_,([] : List Pb),r3.1)) _ ((hE ⟨rfl,r,r,trivial⟩ ⟨rfl,r,trivial⟩))<|?_
 rintro ⟨c4,c5,l6,n7⟩ v5x1 nn
 try dsimp only
 unfold Ub
 refine A 7 ?_
 refine cD r ?_ ?_
 ·refine A 7 ?_
  refine bD fun r8 hr8=>?_
  refine A 1 ?_
  refine bS ([r8.1] : List Pb) OV r r r (by simp) r r r<|?_
  exact B
 ·exact B

def Uf (a : Mk × OJ × Int) : List D:=[Pl a.1,PO a.2.1,.int .i64 a.2.2]
def Ue (ds : List D) : Mk × OJ × Int:=(RN (ds.getD 0 .top),RV (ds.getD 1 .top),uI (ds.getD 2 .top))
theorem Aer (a : Mk × OJ × Int) : Ue (Uf a) = a:=by simp [Ue,Uf,uI]
instance : Pn Uf Ue:=⟨Aer⟩
def Afo (b : Int × Mk) : D:=.int .i64 b.1
def Afn (b : Int × Mk) : List D:=[Pl b.2]
noncomputable def Ys : Dw.Spec:=OT [(0,(2,91))] .val Uf Ue (fun a=>Tk a.1 a.2.1 a.2.2) Afo Afn
theorem AaQ : OR Tryz.prog 46 Ys:=by
 refine fn2 3 (OX (l:=[(21,Pz)]) (by simp [PC])) Tryz.func46<|?_
 rintro ⟨c1,f2,s3⟩
 unfold Tk
 refine A 18 ?_
 refine lP (E:=fun (s : (List Int) × Int) (g : Nat × Nat)=>[(0,.optr 8192 0 0 0),(2,.int .i64 s3),(4,.optr 4 g.1 0 0),(7,.osl 7 g.2 0 s.1.length),(8,.int .i64 s.2)]) (O:=fun s g=>[(4,some (g.1,⟨false,true,3,40,[.agg [.int .i64 f2.Params,.sl (f2.Slots.map OV),.sl (f2.Code.map OU)]]⟩)),(7,some (g.2,⟨false,false,1,3,s.1.map OK⟩)),(8192,some (0,⟨false,true,2,91,[.agg [.sl (c1.list.map eU8),.int .i64 c1.at_]]⟩))]) (body:=fun s=>UE f2 s3 c1 s.1 s.2) (s:=(([] : List Int),0)) (_,_) ((hE ⟨rfl,r,r,r,r,trivial⟩ ⟨rfl,r,r,trivial⟩))<|?_
 rintro ⟨l4,k5⟩ ⟨v4x1,v7x1⟩ nn
 try dsimp only
 unfold UE
 exact B

def Afk (b : Int × Mk) : D:=.int .u64 b.1
def Afj (b : Int × Mk) : List D:=[Pl b.2]
noncomputable def Yr : Dw.Spec:=OT [(0,(2,91))] .val QD QC (fun a=>Tj a) Afk Afj
theorem AaP : OR Tryz.prog 38 Yr:=by
 refine fn2 1 (OX (l:=[(21,Pz)]) (by simp [PC])) Tryz.func38<|?_
 intro a
 unfold Tj
 exact B

def Ud (a : Mk × OJ × Int × (List Int)) : List D:=[Pl a.1,PO a.2.1,.int .i64 a.2.2.1,.sl (a.2.2.2.map OK)]
def Uc (ds : List D) : Mk × OJ × Int × (List Int):=(RN (ds.getD 0 .top),RV (ds.getD 1 .top),uI (ds.getD 2 .top),(uL uI) (ds.getD 3 .top))
theorem Aep (a : Mk × OJ × Int × (List Int)) : Uc (Ud a) = a:=by simp [Uc,Ud,uI,PQ (u:=uI) (en:=OK) (fun _=>rfl)]
instance : Pn Ud Uc:=⟨Aep⟩
def Afm (b : (List OM) × Mk) : D:=.sl (b.1.map OU)
def Afl (b : (List OM) × Mk) : List D:=[Pl b.2]
noncomputable def Abm : Dw.Spec:=OT [(0,(2,91))] (.row 5 69) Ud Uc (fun a=>UC a.1 a.2.1 a.2.2.1 a.2.2.2) Afm Afl
theorem Aeq : OR Tryz.prog 70 Abm:=by
 refine fn2 4 (OX (l:=[(21,Pz),(46,Ys),(38,Yr)]) (by simp [PC,AaQ,AaP])) Tryz.func70<|?_
 rintro ⟨c1,f2,i3,params4⟩
 unfold UC
 refine A 9 ?_
 refine bD fun r5 hr5=>?_
 refine A 15 ?_
 refine bD fun r6 hr6=>?_
 refine A 4 ?_
 refine bC (E:=fun (_s : Unit) (_g : Unit)=>[(9,.int .i64 r5.1)]) (O:=fun _ _=>[(8192,some (0,⟨false,true,2,91,[.agg [.sl (r6.2.list.map eU8),.int .i64 r6.2.at_]]⟩))]) (j:=fun _=>Xh r5 r6) ?_ ?_
 ·refine sC (E:=fun (s : Bool) (g : Nat)=>[(0,.optr 8192 0 0 0),(2,.int .i64 i3),(3,.sl (params4.map OK)),(5,.optr 5 g 0 0),(9,.int .i64 r5.1),(10,.int .i64 (f2.Slots.length : Int)),(11,.int .i64 r6.1),(23,.bool s)]) (O:=fun _ g=>[(5,some (g,⟨false,true,3,40,[.agg [.int .i64 f2.Params,.sl (f2.Slots.map OV),.sl (f2.Code.map OU)]]⟩)),(8192,some (0,⟨false,true,2,91,[.agg [.sl (r6.2.list.map eU8),.int .i64 r6.2.at_]]⟩))]) (j:=fun s=>Ry r6 f2 r5 params4 i3 s) ?_ ?_
  ·exact B
  ·rintro x7 v5x1 nn
   try dsimp only
   unfold Ry
   refine cD r ?_ ?_
   ·refine A 4 ?_
    refine bD fun r8 hr8=>?_
    refine A 3 ?_
    refine bS ([(OM.mk 16 r8.1 r5.1 0 0)] : List OM) OU r r r (by simp) r r r<|?_
    exact B
   ·refine sC (E:=fun (s : Bool) (g : Nat)=>[(0,.optr 8192 0 0 0),(2,.int .i64 i3),(3,.sl (params4.map OK)),(5,.optr 5 g 0 0),(9,.int .i64 r5.1),(10,.int .i64 (f2.Slots.length : Int)),(11,.int .i64 r6.1),(36,.bool s)]) (O:=fun _ g=>[(5,some (g,⟨false,true,3,40,[.agg [.int .i64 f2.Params,.sl (f2.Slots.map OV),.sl (f2.Code.map OU)]]⟩)),(8192,some (0,⟨false,true,2,91,[.agg [.sl (r6.2.list.map eU8),.int .i64 r6.2.at_]]⟩))]) (j:=fun s=>Rz r6 f2 r5 params4 i3 s) ?_ ?_
    ·exact B
    ·rintro x9 v5x2 nn
     try dsimp only
     unfold Rz
     refine cD r ?_ ?_
     ·refine A 5 ?_
      refine bD fun r10 hr10=>?_
      refine A 2 ?_
      refine bS ([(OM.mk 15 r5.1 r10.1 0 0)] : List OM) OU r r r (by simp) r r r<|?_
      exact B
     ·refine sC (E:=fun (s : Bool) (g : Nat)=>[(0,.optr 8192 0 0 0),(2,.int .i64 i3),(3,.sl (params4.map OK)),(5,.optr 5 g 0 0),(9,.int .i64 r5.1),(10,.int .i64 (f2.Slots.length : Int)),(11,.int .i64 r6.1),(49,.bool s)]) (O:=fun _ g=>[(5,some (g,⟨false,true,3,40,[.agg [.int .i64 f2.Params,.sl (f2.Slots.map OV),.sl (f2.Code.map OU)]]⟩)),(8192,some (0,⟨false,true,2,91,[.agg [.sl (r6.2.list.map eU8),.int .i64 r6.2.at_]]⟩))]) (j:=fun s=>RA r6 f2 r5 params4 i3 s) ?_ ?_
      ·exact B
      ·rintro x11 v5x3 nn
       try dsimp only
       unfold RA
       refine cD r ?_ ?_
       ·refine A 4 ?_
        refine bD fun r12 hr12=>?_
        refine A 9 ?_
        refine bD fun r13 hr13=>?_
        refine A 3 ?_
        refine bS ([(OM.mk 17 r13.1 r12.1 0 0)] : List OM) OU r r r (by simp) r r r<|?_
        exact B
       ·refine A 7 ?_
        refine cD r ?_ ?_
        ·refine A 4 ?_
         refine bD fun r14 hr14=>?_
         refine A 2 ?_
         refine bS ([(OM.mk 0 r5.1 0 0 r14.1)] : List OM) OU r r r (by simp) r r r<|?_
         exact B
        ·refine A 7 ?_
         refine cD r ?_ ?_
         ·refine A 3 ?_
          refine bD fun r15 hr15=>?_
          refine A 4 ?_
          refine bD fun r16 hr16=>?_
          refine A 2 ?_
          refine bD fun r17 hr17=>?_
          refine A 2 ?_
          refine bS ([(OM.mk (IntKind.i64.wrap (2 + r15.1)) r5.1 r16.1 r17.1 0)] : List OM) OU r r r (by simp) r r r<|?_
          exact B
         ·refine A 7 ?_
          refine cD r ?_ ?_
          ·refine A 4 ?_
           refine bS ([(OM.mk 14 r5.1 0 0 0)] : List OM) OU r r r (by simp) r r r<|?_
           exact B
          ·refine A 7 ?_
           refine cD r ?_ ?_
           ·refine A 2 ?_
            refine bS ([13,12,1] : List Int) OK r r r (by simp) r r r<|?_
            refine A 1 ?_
            refine bD fun r18 hr18=>?_
            refine A 2 ?_
            refine bD fun x_e19 hx_e19=>?_
            refine A 3 ?_
            refine bS ([(OM.mk x_e19 r5.1 0 0 0)] : List OM) OU r r r (by simp) r r r<|?_
            exact B
           ·refine sC (E:=fun (s : Bool) (g : Nat)=>[(0,.optr 8192 0 0 0),(2,.int .i64 i3),(3,.sl (params4.map OK)),(5,.optr 5 g 0 0),(9,.int .i64 r5.1),(11,.int .i64 r6.1),(104,.bool s)]) (O:=fun _ g=>[(5,some (g,⟨false,true,3,40,[.agg [.int .i64 f2.Params,.sl (f2.Slots.map OV),.sl (f2.Code.map OU)]]⟩)),(8192,some (0,⟨false,true,2,91,[.agg [.sl (r6.2.list.map eU8),.int .i64 r6.2.at_]]⟩))]) (j:=fun s=>RB r6 f2 r5 params4 i3 s) ?_ ?_
            ·exact B
            ·rintro x20 v5x4 nn
             try dsimp only
             unfold RB
             refine cD r ?_ ?_
             ·refine A 6 ?_
              refine bD fun r21 hr21=>?_
              refine A 2 ?_
              refine bS ([(OM.mk 19 r5.1 r21.1 0 0)] : List OM) OU r r r (by simp) r r r<|?_
              exact B
             ·refine sC (E:=fun (s : Bool) (_g : Unit)=>[(0,.optr 8192 0 0 0),(2,.int .i64 i3),(3,.sl (params4.map OK)),(9,.int .i64 r5.1),(119,.bool s)]) (O:=fun _ _=>[(8192,some (0,⟨false,true,2,91,[.agg [.sl (r6.2.list.map eU8),.int .i64 r6.2.at_]]⟩))]) (j:=fun s=>RC r6 params4 i3 r5 s) ?_ ?_
              ·exact B
              ·rintro x22 ⟨⟩ nn
               try dsimp only
               unfold RC
               refine cD r ?_ ?_
               ·refine A 10 ?_
                refine bD fun r23 hr23=>?_
                refine A 17 ?_
                refine lP (E:=fun (s : (List Int) × Int × (List OM) × Int) (g : Nat)=>[(0,.optr 8192 0 0 0),(3,.sl (params4.map OK)),(13,.int .i64 (IntKind.i64.wrap ((IntKind.i64.wrap (i3 + 1)) + r23.1))),(14,.osl 14 g 0 s.2.2.1.length),(15,.int .i64 s.2.2.2)]) (O:=fun s g=>[(14,some (g,⟨false,false,5,69,s.2.2.1.map OU⟩)),(8192,some (0,⟨false,true,2,91,[.agg [.sl (s.1.map eU8),.int .i64 s.2.1]]⟩))]) (body:=fun s=>UD params4 i3 r23 s.1 s.2.1 s.2.2.1 s.2.2.2) (s:=(r23.2.list,r23.2.at_,([] : List OM),0)) _ ((hE ⟨rfl,r,r,r,r,trivial⟩ ⟨rfl,r,trivial⟩))<|?_
                rintro ⟨c24,c25,out26,a27⟩ v14x6 nn
                try dsimp only
                unfold UD
                refine A 6 ?_
                refine bD fun x_x28 hx_x28=>?_
                refine A 5 ?_
                refine cD r ?_ ?_
                ·refine A 7 ?_
                 refine bD fun r29 hr29=>?_
                 refine A 4 ?_
                 refine cD r ?_ ?_
                 ·refine A 4 ?_
                  refine bD fun r30 hr30=>?_
                  refine A 2 ?_
                  refine bS ([(OM.mk 18 a27 r30.1 0 0)] : List OM) OU r r r (by simp) r r r<|?_
                  exact B
                 ·exact B
                ·refine A 10 ?_
                 refine bS ([(OM.mk 22 (IntKind.i64.wrap ((IntKind.i64.wrap (i3 + 1)) + r23.1)) 0 0 0)] : List OM) OU r r r (by simp) r r r<|?_
                 exact B
               ·exact B
 ·rintro ⟨⟩ ⟨⟩ nn
  try dsimp only
  unfold Xh
  refine A 4 ?_
  refine bS ([(OM.mk 14 r5.1 0 0 0)] : List OM) OU r r r (by simp) r r r<|?_
  exact B

def Si (a : Mk × Int × (List Int) × Int) : List D:=[Pl a.1,.int .i64 a.2.1,.sl (a.2.2.1.map OK),.int .i64 a.2.2.2]
def Sh (ds : List D) : Mk × Int × (List Int) × Int:=(RN (ds.getD 0 .top),uI (ds.getD 1 .top),(uL uI) (ds.getD 2 .top),uI (ds.getD 3 .top))
theorem Acy (a : Mk × Int × (List Int) × Int) : Sh (Si a) = a:=by simp [Sh,Si,uI,PQ (u:=uI) (en:=OK) (fun _=>rfl)]
instance : Pn Si Sh:=⟨Acy⟩
def Zt (b : OJ × Mk) : D:=PO b.1
def AcT (b : OJ × Mk) : List D:=[Pl b.2]
noncomputable def Zu : Dw.Spec:=OT [(0,(2,91))] .val Si Sh (fun a=>Sp a.1 a.2.1 a.2.2.1 a.2.2.2) Zt AcT
theorem Acz : OR Tryz.prog 40 Zu:=by
 refine fn2 4 (OX (l:=[(69,AaO),(21,Pz),(70,Abm),(38,Yr)]) (by simp [Aed,PC,Aeq,AaP])) Tryz.func40<|?_
 rintro ⟨c1,i2,params3,most4⟩
 unfold Sp
 refine A 9 ?_
 refine bD fun x_x5 hx_x5=>?_
 refine A 3 ?_
 refine bD fun r6 hr6=>?_
 refine A 18 ?_
 refine lP (E:=fun (s : (List Int) × Int × (List OM) × Int) (g : Nat × Nat × Nat × Nat)=>[(0,.optr 8192 0 0 0),(1,.int .i64 i2),(2,.sl (params3.map OK)),(3,.int .i64 most4),(8,.optr 8 g.1 0 0),(9,.optr 9 g.2.1 0 0),(10,.osl 10 g.2.2.1 0 s.2.2.1.length),(11,.int .i64 s.2.2.2)]) (O:=fun s g=>[(8,some (g.1,⟨false,true,3,40,[.agg [.int .i64 0,.nils,.nils]]⟩)),(9,some (g.2.1,⟨false,true,3,40,[.agg [.int .i64 x_x5,.osl 21 g.2.2.2 0 r6.1.length,.nils]]⟩)),(10,some (g.2.2.1,⟨false,false,5,69,s.2.2.1.map OU⟩)),(21,some (g.2.2.2,⟨false,false,2,67,r6.1.map OV⟩)),(8192,some (0,⟨false,true,2,91,[.agg [.sl (s.1.map eU8),.int .i64 s.2.1]]⟩))]) (body:=fun s=>SL r6 most4 x_x5 i2 params3 s.1 s.2.1 s.2.2.1 s.2.2.2) (s:=(r6.2.list,r6.2.at_,([] : List OM),0)) (_,_,_,_) ((hE ⟨rfl,r,r,r,r,r,r,r,trivial⟩ ⟨rfl,r,r,r,r,trivial⟩))<|?_
 rintro ⟨c7,c8,code9,s10⟩ ⟨v8x1,v9x1,v10x1,v21x1⟩ nn
 try dsimp only
 unfold SL
 refine A 10 ?_
 refine cD r ?_ ?_
 ·refine A 7 ?_
  refine bD fun r11 hr11=>?_
  refine A 4 ?_
  refine cD r ?_ ?_
  ·refine A 4 ?_
   refine bD fun r12 hr12=>?_
   refine A 2 ?_
   refine bS ([(OM.mk 16 s10 r12.1 0 0)] : List OM) OU r r r (by simp) r r r<|?_
   exact B
  ·exact B
 ·refine A 11 ?_
  refine bD fun r13 hr13=>?_
  refine A 5 ?_
  refine lP (E:=fun (s : (List Int) × Int × (List OM) × (List Pb) × Int) (g : Nat × Nat × Nat)=>[(0,.optr 8192 0 0 0),(1,.int .i64 i2),(2,.sl (params3.map OK)),(8,.optr 8 g.1 0 0),(9,.optr 9 g.2.1 0 0),(10,.osl 10 g.2.2 0 s.2.2.1.length),(12,.int .i64 s.2.2.2.2)]) (O:=fun s g=>[(8,some (g.1,⟨false,true,3,40,[.agg [.int .i64 0,.nils,.nils]]⟩)),(9,some (g.2.1,⟨false,true,3,40,[.agg [.int .i64 x_x5,.sl (s.2.2.2.1.map OV),.nils]]⟩)),(10,some (g.2.2,⟨false,false,5,69,s.2.2.1.map OU⟩)),(8192,some (0,⟨false,true,2,91,[.agg [.sl (s.1.map eU8),.int .i64 s.2.1]]⟩))]) (body:=fun s=>SM x_x5 i2 params3 s.1 s.2.1 s.2.2.1 s.2.2.2.1 s.2.2.2.2) (s:=(r13.2.list,r13.2.at_,code9,r6.1,r13.1)) (_,_,_) ((Aav [(21,some (_,⟨true,false,2,67,r6.1.map OV⟩))] ⟨⟨_,_,r,r,r⟩,trivial⟩ ⟨(Pq r),(Pq r),(Pq r),(Pq r),(Pq r),(Pq r),(Pq r),trivial⟩ ⟨(.inl r),(.inr ⟨_,_,_,_,r,r,r,r,Zi r ⟨(Uv r),(Xf (l:=r6.1) (en:=OV) r r r (by simp)),(Uv r),trivial⟩⟩),(.inl r),(.inl r),trivial⟩))<|?_
  rintro ⟨c14,c15,code16,f17,n18⟩ ⟨v8x2,v9x2,v10x2⟩ nn
  try dsimp only
  unfold SM
  refine A 7 ?_
  refine cD r ?_ ?_
  ·refine A 11 ?_
   refine bD fun r19 hr19=>?_
   refine A 8 ?_
   refine bD fun r20 hr20=>?_
   refine A 10 ?_
   refine cD r ?_ ?_
   ·refine A 3 ?_
    refine bD fun r21 hr21=>?_
    refine A 2 ?_
    refine bS ([(OM.mk 21 r21.1 (-1) 0 0)] : List OM) OU r r r (by simp) r r r<|?_
    exact B
   ·refine A 6 ?_
    refine cD r ?_ ?_
    ·refine A 3 ?_
     refine bD fun r22 hr22=>?_
     refine A 4 ?_
     refine cD r ?_ ?_
     ·refine A 3 ?_
      refine bS ([(OM.mk 20 (-1) 0 0 0)] : List OM) OU r r r (by simp) r r r<|?_
      exact B
     ·exact B
    ·exact B
  ·refine A 12 ?_
   refine sC (E:=fun (_s : (List Int) × Int × Int × Int) (g : Nat × Nat × Nat × Nat)=>[(0,.optr 8192 0 0 0),(8,.optr 8 g.1 0 0),(9,.optr 9 g.2.1 0 0),(10,.osl 10 g.2.2.1 0 code16.length),(13,.optr 13 g.2.2.2 0 0)]) (O:=fun s g=>[(8,some (g.1,⟨false,true,3,40,[.agg [.int .i64 0,.nils,.nils]]⟩)),(9,some (g.2.1,⟨false,true,3,40,[.agg [.int .i64 x_x5,.sl (f17.map OV),.nils]]⟩)),(10,some (g.2.2.1,⟨false,false,5,69,code16.map OU⟩)),(13,some (g.2.2.2,⟨false,true,5,69,[.agg [.int .i64 s.2.2.1,.int .i64 0,.int .i64 0,.int .i64 0,.int .u64 s.2.2.2]]⟩)),(8192,some (0,⟨false,true,2,91,[.agg [.sl (s.1.map eU8),.int .i64 s.2.1]]⟩))]) (j:=fun s=>Qx code16 x_x5 f17 s.1 s.2.1 s.2.2.1 s.2.2.2) ?_ ?_
   ·exact B
   ·rintro ⟨c23,c24,end25,end26⟩ ⟨v8x3,v9x3,v10x3,v13x3⟩ nn
    try dsimp only
    unfold Qx
    refine A 4 ?_
    refine bS ([(OM.mk end25 0 0 0 end26)] : List OM) OU r r r (by simp) r r r<|cK fun hq=>aP (code16) (([(OM.mk end25 0 0 0 end26)] : List OM)) OU r r r r r r r (by simp) (Tt _ _ r) r r (by simp) (Sc _ _ r) (fun _=>r) r hq<|?_
    refine A 10 ?_
    refine lP (E:=fun (s : (List Int) × Int × (List OM) × Int) (g : Nat × Nat × Nat)=>[(0,.optr 8192 0 0 0),(8,.optr 8 g.1 0 0),(9,.optr 9 g.2.1 0 0),(10,.osl 10 g.2.2 0 s.2.2.1.length),(14,.int .i64 s.2.2.2)]) (O:=fun s g=>[(8,some (g.1,⟨false,true,3,40,[.agg [.int .i64 0,.nils,.nils]]⟩)),(9,some (g.2.1,⟨false,true,3,40,[.agg [.int .i64 x_x5,.sl (f17.map OV),.nils]]⟩)),(10,some (g.2.2,⟨false,false,5,69,s.2.2.1.map OU⟩)),(8192,some (0,⟨false,true,2,91,[.agg [.sl (s.1.map eU8),.int .i64 s.2.1]]⟩))]) (body:=fun s=>Ro x_x5 f17 s.1 s.2.1 s.2.2.1 s.2.2.2) (s:=(c23,c24,code16 ++ ([(OM.mk end25 0 0 0 end26)] : List OM),0)) (_,_,_) ((hE ⟨rfl,r,r,r,r,trivial⟩ ⟨rfl,r,r,r,trivial⟩))<|?_
    rintro ⟨c29,c30,code31,k32⟩ ⟨v8x4,v9x4,v10x4⟩ nn
    try dsimp only
    unfold Ro
    refine A 9 ?_
    refine cD r ?_ ?_
    ·refine A 8 ?_
     refine bD fun r33 hr33=>?_
     refine A 6 ?_
     refine sC (E:=fun (s : Int) (g : Nat × Nat × Nat)=>[(0,.optr 8192 0 0 0),(8,.optr 8 g.1 0 0),(9,.optr 9 g.2.1 0 0),(10,.osl 10 g.2.2 0 code31.length),(14,.int .i64 k32),(15,.int .i64 s)]) (O:=fun _ g=>[(8,some (g.1,⟨false,true,3,40,[.agg [.int .i64 0,.nils,.nils]]⟩)),(9,some (g.2.1,⟨false,true,3,40,[.agg [.int .i64 x_x5,.sl (f17.map OV),.nils]]⟩)),(10,some (g.2.2,⟨false,false,5,69,code31.map OU⟩)),(8192,some (0,⟨false,true,2,91,[.agg [.sl (r33.2.list.map eU8),.int .i64 r33.2.at_]]⟩))]) (j:=fun s=>PR k32 code31 r33 s) ?_ ?_
     ·exact B
     ·rintro to34 ⟨v8x5,v9x5,v10x5⟩ nn
      try dsimp only
      unfold PR
      refine A 1 ?_
      refine sC (E:=fun (s : Bool) (g : Nat × Nat × Nat)=>[(0,.optr 8192 0 0 0),(8,.optr 8 g.1 0 0),(9,.optr 9 g.2.1 0 0),(10,.osl 10 g.2.2 0 code31.length),(14,.int .i64 k32),(15,.int .i64 to34),(107,.bool s)]) (O:=fun _ g=>[(8,some (g.1,⟨false,true,3,40,[.agg [.int .i64 0,.nils,.nils]]⟩)),(9,some (g.2.1,⟨false,true,3,40,[.agg [.int .i64 x_x5,.sl (f17.map OV),.nils]]⟩)),(10,some (g.2.2,⟨false,false,5,69,code31.map OU⟩)),(8192,some (0,⟨false,true,2,91,[.agg [.sl (r33.2.list.map eU8),.int .i64 r33.2.at_]]⟩))]) (j:=fun s=>Rp k32 code31 r33 to34 s) ?_ ?_
      ·exact B
      ·rintro x35 ⟨v8x6,v9x6,v10x6⟩ nn
       try dsimp only
       unfold Rp
       refine cD r ?_ ?_
       ·refine A 6 ?_
        refine bD fun code_o38 hcode_o38=>sE (l:=code31) (en:=OU) (q':=(OM.mk code_o38.Op to34 code_o38.B code_o38.C code_o38.Imm)) r r r r r r r (by simp) hcode_o38 r r r r r<|?_
        exact B
       ·refine A 6 ?_
        refine bD fun code_e39 hcode_e39=>?_
        refine A 3 ?_
        refine Abw r ?_ ?_
        ·refine A 4 ?_
         refine bD fun code_e40 hcode_e40=>?_
         refine A 6 ?_
         refine cD r ?_ ?_
         ·refine A 6 ?_
          refine bD fun code_o41 hcode_o41=>sE (l:=code31) (en:=OU) (q':=(OM.mk code_o41.Op code_o41.A to34 code_o41.C code_o41.Imm)) r r r r r r r (by simp) hcode_o41 r r r r r<|?_
          exact B
         ·exact B
        ·exact B
    ·refine A 19 ?_
     refine Uq (b:=((OJ.mk x_x5 f17 code31),(Mk.mk c29 c30))) r ?_ r r ?_ (by first | rfl | (simp only [OH]; rfl) | (simp only [OI]; rfl) | (simp only [OH,OI]; rfl) | simp [Zt,PO])
     all_goals first|(simp;done)|(simp;omega)|rfl|(simp [Pv,PD];done)

def SK (a : Mk × Int × Int) : List D:=[Pl a.1,.int .i64 a.2.1,.int .i64 a.2.2]
def SJ (ds : List D) : Mk × Int × Int:=(RN (ds.getD 0 .top),uI (ds.getD 1 .top),uI (ds.getD 2 .top))
theorem AcR (a : Mk × Int × Int) : SJ (SK a) = a:=by simp [SJ,SK,uI]
instance : Pn SK SJ:=⟨AcR⟩
def Adu (b : Pf × Mk) : D:=Ss b.1
def Adt (b : Pf × Mk) : List D:=[Pl b.2]
noncomputable def ZJ : Dw.Spec:=OT [(0,(2,91))] .val SK SJ (fun a=>Ta a.1 a.2.1 a.2.2) Adu Adt
theorem AcS : OR Tryz.prog 20 ZJ:=by
 refine fn2 3 (OX (l:=[(21,Pz),(40,Zu)]) (by simp [PC,Acz])) Tryz.func20<|?_
 rintro ⟨c1,funcs2,most3⟩
 unfold Ta
 refine A 16 ?_
 refine bD fun r4 hr4=>?_
 refine A 5 ?_
 refine lP (E:=fun (s : (List Int) × Int × (List Int) × Int) (g : Nat × Nat)=>[(0,.optr 8192 0 0 0),(2,.int .i64 most3),(6,.optr 6 g.1 0 0),(7,.osl 7 g.2 0 s.2.2.1.length),(8,.int .i64 s.2.2.2)]) (O:=fun s g=>[(6,some (g.1,⟨false,true,1,26,[.agg [.nils]]⟩)),(7,some (g.2,⟨false,false,1,3,s.2.2.1.map OK⟩)),(8192,some (0,⟨false,true,2,91,[.agg [.sl (s.1.map eU8),.int .i64 s.2.1]]⟩))]) (body:=fun s=>Tf most3 s.1 s.2.1 s.2.2.1 s.2.2.2) (s:=(r4.2.list,r4.2.at_,([0] : List Int),r4.1)) (_,_) ((hE ⟨rfl,r,r,r,r,trivial⟩ ⟨rfl,r,r,trivial⟩))<|?_
 rintro ⟨c5,c6,params7,n8⟩ ⟨v6x1,v7x1⟩ nn
 try dsimp only
 unfold Tf
 refine A 7 ?_
 refine cD r ?_ ?_
 ·exact B
 ·refine A 17 ?_
  refine lP (E:=fun (s : (List Int) × Int × (List OJ) × Int × (List Int)) (g : Nat × Nat)=>[(0,.optr 8192 0 0 0),(2,.int .i64 most3),(6,.optr 6 g.1 0 0),(7,.sl (s.2.2.2.2.map OK)),(9,.optr 9 g.2 0 0),(10,.int .i64 s.2.2.2.1)]) (O:=fun s g=>[(6,some (g.1,⟨false,true,1,26,[.agg [.nils]]⟩)),(9,some (g.2,⟨false,true,1,26,[.agg [.sl (s.2.2.1.map PO)]]⟩)),(8192,some (0,⟨false,true,2,91,[.agg [.sl (s.1.map eU8),.int .i64 s.2.1]]⟩))]) (body:=fun s=>Tg most3 s.1 s.2.1 s.2.2.1 s.2.2.2.1 s.2.2.2.2) (s:=(c5,c6,[],0,params7)) (_,_) ((Aav [(7,some (_,⟨true,false,1,3,params7.map OK⟩))] ⟨⟨_,_,r,r,r⟩,trivial⟩ ⟨(Pq r),(Pq r),(Pq r),(Zs (Xf (l:=params7) (en:=OK) r r r (by simp))),(Pq r),(Pq r),trivial⟩ ⟨(.inl r),(.inr ⟨_,_,_,_,r,r,r,r,Zi r ⟨(Xe PO r),trivial⟩⟩),(.inl r),trivial⟩))<|?_
  rintro ⟨c10,c11,p12,i13,params14⟩ ⟨v6x2,v9x2⟩ nn
  try dsimp only
  unfold Tg
  refine A 9 ?_
  refine cD r ?_ ?_
  ·refine A 13 ?_
   refine bD fun r15 hr15=>?_
   refine A 1 ?_
   refine bS ([r15.1] : List OJ) PO r r r (by simp) r r r<|?_
   refine A 16 ?_
   exact wf [11] fun _=>B
  ·exact B

def AjI (b : (List Int)) : D:=.sl (b.map OK)
noncomputable def AbN : Dw.Spec:=OT [] (.row 1 3) Wf We (fun a=>XH a.1 a.2) AjI noE
theorem AdM : OR Tryz.prog 51 AbN:=by
 refine fn2 2 (Pm) Tryz.func51<|?_
 rintro ⟨f1,k2⟩
 unfold XH
 refine A 6 ?_
 refine sC (E:=fun (_s : Unit) (g : Nat)=>[(1,.int .i64 k2),(2,.optr 2 g 0 0)]) (O:=fun _ g=>[(2,some (g,⟨false,true,3,40,[.agg [.int .i64 f1.Params,.sl (f1.Slots.map OV),.sl (f1.Code.map OU)]]⟩))]) (j:=fun _=>YV f1 k2) ?_ ?_
 ·exact B
 ·rintro ⟨⟩ v2x1 nn
  try dsimp only
  unfold YV
  refine A 5 ?_
  refine bD fun x_x3 hx_x3=>?_
  refine A 20 ?_
  refine cD r ?_ ?_
  ·exact B
  ·refine sC (E:=fun (s : Bool) (g : Nat)=>[(1,.int .i64 k2),(5,.optr 5 g 0 0),(21,.int .i64 x_x3.Op),(27,.bool s)]) (O:=fun _ g=>[(5,some (g,⟨false,true,5,69,[.agg [.int .i64 x_x3.Op,.int .i64 x_x3.A,.int .i64 x_x3.B,.int .i64 x_x3.C,.int .u64 x_x3.Imm]]⟩))]) (j:=fun s=>QX x_x3 k2 s) ?_ ?_
   ·exact B
   ·rintro x4 v5x2 nn
    try dsimp only
    unfold QX
    refine cD r ?_ ?_
    ·exact B
    ·refine A 6 ?_
     refine cD r ?_ ?_
     ·refine A 11 ?_
      refine cD r ?_ ?_
      ·refine A 6 ?_
       refine bS ([x_x3.B,IntKind.i64.wrap (k2 + 1)] : List Int) OK r r r (by simp) r r r<|?_
       exact B
      ·refine A 10 ?_
       refine cD r ?_ ?_
       ·refine A 6 ?_
        refine bS ([IntKind.i64.wrap (k2 + 1),x_x3.B] : List Int) OK r r r (by simp) r r r<|?_
        exact B
       ·exact B
     ·exact B

def Afu (b : Bool) : D:=.bool b
noncomputable def Yw : Dw.Spec:=OT [] .ground Qe Qd (fun a=>Rm a) Afu noE
theorem Aba : OR Tryz.prog 60 Yw:=by
 refine fn2 1 (Pm) Tryz.func60<|?_
 intro a
 unfold Rm
 exact B

def AgG (b : Int × Bool) : D:=.tup [.int .i64 b.1,.bool b.2]
noncomputable def Tq : Dw.Spec:=OT [] .ground Qe Qd (fun a=>QY a) AgG noE
theorem TW : OR Tryz.prog 61 Tq:=by
 refine fn2 1 (OX (l:=[(60,Yw)]) (by simp [Aba])) Tryz.func61<|?_
 intro a
 unfold QY
 exact B

def Ahu (b : (List Int)) : D:=.sl (b.map OK)
noncomputable def AaE : Dw.Spec:=OT [] (.row 1 3) Qz Qy (fun a=>Vx a.1 a.2) Ahu noE
theorem Acj : OR Tryz.prog 43 AaE:=by
 refine fn2 2 (Pm) Tryz.func43<|?_
 rintro ⟨s1,n2⟩
 unfold Vx
 refine A 17 ?_
 refine lP (E:=fun (s : (List Int) × Int) (g : Nat)=>[(0,.sl (s1.map OK)),(1,.int .i64 n2),(5,.osl 5 g 0 s.1.length),(6,.int .i64 s.2)]) (O:=fun s g=>[(5,some (g,⟨false,false,1,3,s.1.map OK⟩))]) (body:=fun s=>RT s1 n2 s.1 s.2) (s:=(([] : List Int),0)) _ ((hE ⟨rfl,r,r,r,trivial⟩ ⟨rfl,trivial⟩))<|?_
 rintro ⟨out3,i4⟩ v5x1 nn
 try dsimp only
 unfold RT
 exact B

def AjJ (b : (List Int)) : D:=.sl (b.map OK)
noncomputable def AbP : Dw.Spec:=OT [] (.row 1 3) Qe Qd (fun a=>TH a) AjJ noE
theorem AdN : OR Tryz.prog 63 AbP:=by
 refine fn2 1 (Pm) Tryz.func63<|?_
 intro a
 unfold TH
 exact B

def AjH (b : Bool) : D:=.bool b
noncomputable def AbM : Dw.Spec:=OT [] .ground PL PK (fun a=>UJ a) AjH noE
theorem AdK : OR Tryz.prog 71 AbM:=by
 refine fn2 1 (Pm) Tryz.func71<|?_
 intro a
 unfold UJ
 exact B

def Aks (b : (List Int)) : D:=.sl (b.map OK)
noncomputable def Wt : Dw.Spec:=OT [] (.row 1 3) Qz Qy (fun a=>Sa a.1 a.2) Aks noE
theorem Xm : OR Tryz.prog 42 Wt:=by
 refine fn2 2 (OX (l:=[(71,AbM)]) (by simp [AdK])) Tryz.func42<|?_
 rintro ⟨s1,n2⟩
 unfold Sa
 refine A 13 ?_
 refine bD fun r3 hr3=>?_
 refine A 12 ?_
 refine lP (E:=fun (s : (List Int) × Bool × Int) (g : Nat)=>[(0,.sl (s1.map OK)),(1,.int .i64 n2),(5,.osl 5 g 0 s.1.length),(6,.bool s.2.1),(7,.int .i64 s.2.2)]) (O:=fun s g=>[(5,some (g,⟨false,false,1,3,s.1.map OK⟩))]) (body:=fun s=>QP s1 n2 s.1 s.2.1 s.2.2) (s:=(([] : List Int),(!r3),0)) _ ((hE ⟨rfl,r,r,r,r,trivial⟩ ⟨rfl,trivial⟩))<|?_
 rintro ⟨out4,done5,i6⟩ v5x1 nn
 try dsimp only
 unfold QP
 refine A 9 ?_
 refine cD r ?_ ?_
 ·refine A 4 ?_
  refine sC (E:=fun (s : (List Int) × Bool) (g : Nat)=>[(0,.sl (s1.map OK)),(1,.int .i64 n2),(5,.osl 5 g 0 s.1.length),(6,.bool s.2),(7,.int .i64 i6)]) (O:=fun s g=>[(5,some (g,⟨false,false,1,3,s.1.map OK⟩))]) (j:=fun s=>RS s1 i6 s.1 s.2) ?_ ?_
  ·refine sC (E:=fun (s : Bool) (g : Nat)=>[(0,.sl (s1.map OK)),(1,.int .i64 n2),(5,.osl 5 g 0 out4.length),(6,.bool done5),(7,.int .i64 i6),(26,.bool s)]) (O:=fun _ g=>[(5,some (g,⟨false,false,1,3,out4.map OK⟩))]) (j:=fun s=>Tc s1 i6 n2 out4 done5 s) ?_ ?_
   ·exact B
   ·rintro x9 v5x2 nn
    try dsimp only
    unfold Tc
    exact B
  ·rintro ⟨out7,done8⟩ v5x3 nn
   try dsimp only
   unfold RS
   exact B
 ·exact B

def Aiu (b : (List Int)) : D:=.sl (b.map OK)
noncomputable def Wj : Dw.Spec:=OT [] (.row 1 3) QN QM (fun a=>SR a.1 a.2) Aiu noE
theorem XF : OR Tryz.prog 52 Wj:=by
 refine fn2 2 (OX (l:=[(42,Wt)]) (by simp [Xm])) Tryz.func52<|?_
 rintro ⟨a1,b2⟩
 unfold SR
 refine A 19 ?_
 refine lP (E:=fun (s : (List Int) × Int) (g : Nat)=>[(1,.sl (b2.map OK)),(5,.osl 5 g 0 s.1.length),(6,.int .i64 s.2)]) (O:=fun s g=>[(5,some (g,⟨false,false,1,3,s.1.map OK⟩))]) (body:=fun s=>TM b2 s.1 s.2) (s:=(([] : List Int) ++ a1,0)) _ ((hE ⟨rfl,r,r,trivial⟩ ⟨rfl,trivial⟩))<|?_
 rintro ⟨out3,i4⟩ v5x1 nn
 try dsimp only
 unfold TM
 exact B

def AkX (b : (List Int)) : D:=.sl (b.map OK)
noncomputable def Adz : Dw.Spec:=OT [] (.row 1 3) Ul Uk (fun a=>AaF a.1 a.2) AkX noE
theorem AfH : OR Tryz.prog 53 Adz:=by
 refine fn2 2 (OX (l:=[(61,Tq),(43,AaE),(63,AbP),(52,Wj)]) (by simp [TW,Acj,AdN,XF])) Tryz.func53<|?_
 intro a
 unfold AaF
 exact B

def AeH (b : OO) : D:=PX b
noncomputable def AeI : Dw.Spec:=OT [] .val Ps Pr (fun a=>ZZ a.1 a.2) AeH noE
theorem Aiz : OR Tryz.prog 27 AeI:=by
 refine fn2 2 (OX (l:=[(51,AbN),(53,Adz),(52,Wj)]) (by simp [AdM,AfH,XF])) Tryz.func27<|?_
 rintro ⟨f1,l2⟩
 unfold ZZ
 refine A 12 ?_
 refine cK fun hq=>AcG (α:=Int) r r r hq r<|?_
 refine A 4 ?_
 refine TJ (E:=[(2,.optr 2 _ 0 0),(3,.optr 3 _ 0 0),(4,.optr 4 _ 0 0),(5,.optr 5 _ 0 0)]) (O:=[(2,some (_,⟨false,true,3,40,[.agg [.int .i64 f1.Params,.sl (f1.Slots.map OV),.sl (f1.Code.map OU)]]⟩)),(3,some (_,⟨false,true,1,29,[.agg [.sl (l2.Out.map (eL OK))]]⟩)),(4,some (_,⟨false,true,1,29,[.agg [.nils]]⟩)),(5,some (_,⟨false,true,1,29,[.agg [.osl 13 _ 0 ((List.replicate (f1.Code.length : Int).toNat ([] : (List Int))).length)]]⟩)),(13,some (_,⟨false,false,1,30,(List.replicate (f1.Code.length : Int).toNat ([] : (List Int))).map (eL OK)⟩))]) ((Aev (g:=13) r (AfY (l:=List.replicate (f1.Code.length : Int).toNat ([] : (List Int))) OK (fun _ h=>List.eq_of_mem_replicate h)) (hE ⟨rfl,r,r,r,trivial⟩ ⟨rfl,r,r,r,r,trivial⟩))) fun nn=>?_
 refine A 7 ?_
 refine lP (E:=fun (s : (List (List Int)) × Int) (g : Nat × Nat × Nat × Nat × Nat)=>[(2,.optr 2 g.1 0 0),(3,.optr 3 g.2.1 0 0),(4,.optr 4 g.2.2.1 0 0),(5,.optr 5 g.2.2.2.1 0 0),(6,.int .i64 s.2)]) (O:=fun s g=>[(2,some (g.1,⟨false,true,3,40,[.agg [.int .i64 f1.Params,.sl (f1.Slots.map OV),.sl (f1.Code.map OU)]]⟩)),(3,some (g.2.1,⟨false,true,1,29,[.agg [.sl (l2.Out.map (eL OK))]]⟩)),(4,some (g.2.2.1,⟨false,true,1,29,[.agg [.nils]]⟩)),(5,some (g.2.2.2.1,⟨false,true,1,29,[.agg [.osl 13 g.2.2.2.2 0 s.1.length]]⟩)),(13,some (g.2.2.2.2,⟨false,false,1,30,s.1.map (eL OK)⟩))]) (body:=fun s=>Un f1 l2 s.1 s.2) (s:=(List.replicate (f1.Code.length : Int).toNat ([] : (List Int)),0)) (_,_,_,_,_) ((hE ⟨rfl,r,r,r,r,trivial⟩ ⟨rfl,r,r,r,r,trivial⟩))<|?_
 rintro ⟨x3,k4⟩ ⟨v2x1,v3x1,v4x1,v5x1,v13x1⟩ nn
 try dsimp only
 unfold Un
 refine A 10 ?_
 refine cD r ?_ ?_
 ·refine A 2 ?_
  refine bC (E:=fun (_s : (List (List Int))) (g : Nat × Nat × Nat × Nat × Nat)=>[(2,.optr 2 g.1 0 0),(3,.optr 3 g.2.1 0 0),(4,.optr 4 g.2.2.1 0 0),(5,.optr 5 g.2.2.2.1 0 0),(6,.int .i64 k4)]) (O:=fun s g=>[(2,some (g.1,⟨false,true,3,40,[.agg [.int .i64 f1.Params,.sl (f1.Slots.map OV),.sl (f1.Code.map OU)]]⟩)),(3,some (g.2.1,⟨false,true,1,29,[.agg [.sl (l2.Out.map (eL OK))]]⟩)),(4,some (g.2.2.1,⟨false,true,1,29,[.agg [.nils]]⟩)),(5,some (g.2.2.2.1,⟨false,true,1,29,[.agg [.osl 13 g.2.2.2.2 0 s.length]]⟩)),(13,some (g.2.2.2.2,⟨false,false,1,30,s.map (eL OK)⟩))]) (j:=fun s=>YX k4 s) ?_ ?_
  ·refine A 4 ?_
   refine bD fun r6 hr6=>?_
   refine A 10 ?_
   refine lP (E:=fun (s : (List (List Int)) × Int) (g : Nat × Nat × Nat × Nat × Nat × Nat)=>[(2,.optr 2 g.1 0 0),(3,.optr 3 g.2.1 0 0),(4,.optr 4 g.2.2.1 0 0),(5,.optr 5 g.2.2.2.1 0 0),(6,.int .i64 k4),(7,.osl 7 g.2.2.2.2.1 0 r6.length),(8,.int .i64 s.2)]) (O:=fun s g=>[(2,some (g.1,⟨false,true,3,40,[.agg [.int .i64 f1.Params,.sl (f1.Slots.map OV),.sl (f1.Code.map OU)]]⟩)),(3,some (g.2.1,⟨false,true,1,29,[.agg [.sl (l2.Out.map (eL OK))]]⟩)),(4,some (g.2.2.1,⟨false,true,1,29,[.agg [.nils]]⟩)),(5,some (g.2.2.2.1,⟨false,true,1,29,[.agg [.osl 13 g.2.2.2.2.2 0 s.1.length]]⟩)),(7,some (g.2.2.2.2.1,⟨false,false,1,3,r6.map OK⟩)),(13,some (g.2.2.2.2.2,⟨false,false,1,30,s.1.map (eL OK)⟩))]) (body:=fun s=>Uo r6 k4 f1 l2 s.1 s.2) (s:=(x3,0)) (_,_,_,_,_,_) ((hE ⟨rfl,r,r,r,r,r,r,trivial⟩ ⟨rfl,r,r,r,r,r,trivial⟩))<|?_
   rintro ⟨x7,i8⟩ ⟨v2x2,v3x2,v4x2,v5x2,v7x2,v13x2⟩ nn
   try dsimp only
   unfold Uo
   refine A 9 ?_
   refine cD r ?_ ?_
   ·refine A 9 ?_
    refine bD fun next_e9 hnext_e9=>?_
    refine A 12 ?_
    refine bD fun x_e10 hx_e10=>?_
    refine A 4 ?_
    refine bD fun x_x11 hx_x11=>?_
    refine A 5 ?_
    refine bD fun x_x12 hx_x12=>?_
    refine A 2 ?_
    refine bD fun r13 hr13=>?_
    refine A 1 ?_
    refine bD fun r14 hr14=>?_
    refine A 2 ?_
    refine bD fun x_o15 hx_o15=>sE (l:=x7) (en:=(eL OK)) (q':=r14) r r r r r r r (by simp) hx_o15 r r r (by simp [Pt,cells,setAt,eL]) r<|?_
    refine A 8 ?_
    exact xL (s:=(x7.set k4.toNat r14,IntKind.i64.wrap (i8 + 1))) (_,_,_,_,_,_) ((hE ⟨rfl,r,r,r,r,r,r,trivial⟩ ⟨rfl,r,r,(Eq.trans (b:=some (_,⟨false,true,1,29,[.agg [.osl 13 _ 0 x7.length]]⟩)) r (by simp)),r,r,trivial⟩))
   ·exact B
  ·rintro x5 ⟨v2x3,v3x3,v4x3,v5x3,v13x3⟩ nn
   try dsimp only
   unfold YX
   exact B
 ·refine A 12 ?_
  refine Uq (b:=(OO.mk x3)) r ?_ r r ?_ (by first | rfl | (simp only [OH]; rfl) | (simp only [OI]; rfl) | (simp only [OH,OI]; rfl) | simp [AeH,PX])
  all_goals first|(simp;done)|(simp;omega)|rfl|(simp [Pv,PD];done)

end Go.Proofs.YtpagjjmondojpaaGreatDoor
