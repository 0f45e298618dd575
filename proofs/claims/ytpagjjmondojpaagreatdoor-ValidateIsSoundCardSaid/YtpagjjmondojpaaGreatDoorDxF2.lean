/-
  Programs on typed data, and the proofs that the code does what they say; written by a program (dx.py).
-/
import Derived.Test.YtpagjjmondojpaaGreatDoorProg
import Derived.Test.YtpagjjmondojpaaGreatDoorDd
import Derived.KernelRfl
import Derived.Test.YtpagjjmondojpaaGreatDoorDxP
import Derived.Test.YtpagjjmondojpaaGreatDoorDxF1
namespace Go.Proofs.YtpagjjmondojpaaGreatDoor
open Go Go.Dw Go.Proofs
open Go.IntKind (i64)
set_option maxRecDepth 100000
set_option maxHeartbeats 40000000
open Go.Dw renaming PI -> bD,OV -> cK,Acu -> bS,Acs -> aP,TH -> sE,AaT -> cD,Agb -> xL,Wq -> hE,Acw -> lP,Xc -> sC,Wp -> bC,Apf -> mF,rf -> r
noncomputable section
def PN (a : Nz × NQ × NM) : List D:=[NP a.1,PO a.2.1,TL a.2.2]
def PL (ds : List D) : Nz × NQ × NM:=(QZ (ds.getD 0 .top),VQ (ds.getD 1 .top),AaW (ds.getD 2 .top))
theorem Agh (a : Nz × NQ × NM) : PL (PN a) = a:=by simp [PL,PN]
instance : Ol PN PL:=⟨Agh⟩
def AgY (b : Int × Int × Bool) : D:=.tup [Nx b.1,Nx b.2.1,.bool b.2.2]
def Acb : Dw.Spec:=NJ [] .ground PN PL (λa=>Tv a.1 a.2.1 a.2.2) AgY noE
def Aah : Dw.Spec:=AnE (specs []) 3 [(.t 6)] AqP
theorem Aet : NG Tryz.prog 29 Aah:=Arc (Od) Tryz.func29 (by decide) Asp Asq (by decide)
theorem Agi : NG Tryz.prog 10 Acb:=by
 refine fn2 3 (NO (l:=[(25,ZJ),(26,AbP),(29,Aah),(55,Ur)]) (by simp [AcN,Aeh,Aet,AaK])) Tryz.func10<|?_
 rintro ⟨f1,l2,r3⟩
 unfold Tv
 refine A 10 ?_
 refine sC (E:=λ(_s : Unit) (g : Nat × Nat × Nat)=>[(3,.optr 3 g.1 0 0),(4,.optr 4 g.2.1 0 0),(5,.optr 5 g.2.2 0 0)]) (O:=λ_ g=>[(3,dV g.1 3 40 (NP f1)),(4,dV g.2.1 1 29 (.agg [.sl (l2.Out.map (eL NH))])),(5,dV g.2.2 2 33 (.agg [.sl (r3.To.map NH),.sl (r3.Keep.map D.bool)]))]) (j:=λ_=>TI f1 r3 l2) ?_ ?_
 ·exact B
 ·rintro ⟨⟩ ⟨v3x1,v4x1,v5x1⟩ nn
  try dsimp only
  unfold TI
  refine A 5 ?_
  refine Asa (E:=λ(g : Nat)=>[(3,.optr 1003 g 0 0),(23,NP f1),(24,.agg [.sl (l2.Out.map (eL NH))]),(25,.agg [.sl (r3.To.map NH),.sl (r3.Keep.map D.bool)])]) (O:=λg=>[(1003,dV g 3 40 (NP f1))]) _ ((Anx (λg=>bif Nat.ble 4096 g then g + 20000 else g + 1000) (by rfl) (hE ⟨rfl,r,r,r,trivial⟩ ⟨rfl,trivial⟩)))<|?_
  rintro v1003x2 nn
  try dsimp only
  refine Arl (ds:=[NP f1,.agg [.sl (l2.Out.map (eL NH))],.agg [.sl (r3.To.map NH),.sl (r3.Keep.map D.bool)]]) (caps:=[]) (E:=[(0,NP f1),(1,.agg [.sl (l2.Out.map (eL NH))]),(2,.agg [.sl (r3.To.map NH),.sl (r3.Keep.map D.bool)])]) r r r r r r r r<|?_
  unfold AqP
  refine A 7 ?_
  refine QA (E:=[(3,.fptr (NP f1) 0),(4,.fptr (.agg [.sl (l2.Out.map (eL NH))]) 0),(5,.fptr (.agg [.sl (r3.To.map NH),.sl (r3.Keep.map D.bool)]) 0)]) (O:=[(1003,dV v1003x2 3 40 (NP f1))]) ((AaD (g:=3) r (by first | rfl | (simp [cells,frp,Oh,OK]; done)) (AaD (g:=4) r (by first | rfl | (simp [cells,frp,Oh,OK]; done)) (AaD (g:=5) r (by first | rfl | (simp [cells,frp,Oh,OK]; done)) (hE ⟨(by first | rfl | (simp [NW,frp]; done) | (simp [NW,frp,Oh]; done) | (simp [NW,frp,Oh,nbq]; done) | (simp [NW,lkO,frp,Oh,frO]; done) | (simp [NW,lkO,frp,Oh,frO]; rfl) | (simp [NW,lkO,frp,Oh,frO,nbq]; done)),(by first | rfl | (simp [NW,frp]; done) | (simp [NW,frp,Oh]; done) | (simp [NW,frp,Oh,nbq]; done) | (simp [NW,lkO,frp,Oh,frO]; done) | (simp [NW,lkO,frp,Oh,frO]; rfl) | (simp [NW,lkO,frp,Oh,frO,nbq]; done)),(by first | rfl | (simp [NW,frp]; done) | (simp [NW,frp,Oh]; done) | (simp [NW,frp,Oh,nbq]; done) | (simp [NW,lkO,frp,Oh,frO]; done) | (simp [NW,lkO,frp,Oh,frO]; rfl) | (simp [NW,lkO,frp,Oh,frO,nbq]; done)),trivial⟩ ⟨(by first | rfl | (simp [NW,frp]; done) | (simp [NW,frp,Oh]; done) | (simp [NW,frp,Oh,nbq]; done) | (simp [NW,lkO,frp,Oh,frO]; done) | (simp [NW,lkO,frp,Oh,frO]; rfl) | (simp [NW,lkO,frp,Oh,frO,nbq]; done)),trivial⟩))))) λnn=>?_
  refine A 2 ?_
  refine mF (caps:=[.fptr (NP f1) 0,.fptr (.agg [.sl (r3.To.map NH),.sl (r3.Keep.map D.bool)]) 0,.fptr (.agg [.sl (l2.Out.map (eL NH))]) 0]) r r (by simp [Acq])<|?_
  refine A 4 ?_
  refine Asb (d:=.clo 55 [.fptr (NP f1) 0,.fptr (.agg [.sl (r3.To.map NH),.sl (r3.Keep.map D.bool)]) 0,.fptr (.agg [.sl (l2.Out.map (eL NH))]) 0]) (E:=[(3,.optr 3 _ 0 0),(26,.clo 55 [.fptr (NP f1) 0,.fptr (.agg [.sl (r3.To.map NH),.sl (r3.Keep.map D.bool)]) 0,.fptr (.agg [.sl (l2.Out.map (eL NH))]) 0])]) (O:=[(3,dV _ 3 40 (NP f1))]) r (by first | rfl | (simp [Wo,Pn,rdA,raw,strip,QE,cells,QJ]; done) | (simp [Wo,Pn,rdA,raw,strip,QE,S.ge,S.go,look,Arm,cells,QJ]; done)) r ((AqS (E1:=[(3,.optr 1003 v1003x2 0 0),(26,.clo 55 [.fptr (NP f1) 0,.fptr (.agg [.sl (r3.To.map NH),.sl (r3.Keep.map D.bool)]) 0,.fptr (.agg [.sl (l2.Out.map (eL NH))]) 0])]) (O1:=[(1003,dV v1003x2 3 40 (NP f1))]) (hE ⟨rfl,r,trivial⟩ ⟨rfl,trivial⟩) (λ_=>Anx (λg=>bif Nat.ble 24096 g then g - 20000 else bif (Nat.ble 1000 g && Nat.blt g 4096) then g - 1000 else g) (by rfl) (hE ⟨rfl,r,trivial⟩ ⟨rfl,trivial⟩)))) λnn=>?_
  refine A 13 ?_
  refine lP (E:=λ(s : Int) (_g : Unit)=>[(9,.clo 55 [.fptr (NP f1) 0,.fptr (.agg [.sl (r3.To.map NH),.sl (r3.Keep.map D.bool)]) 0,.fptr (.agg [.sl (l2.Out.map (eL NH))]) 0]),(29,Nx (f1.Code.length : Int)),(30,Nx s)]) (O:=λ_ _=>[]) (body:=λs=>TG f1 r3 l2 s) (s:=0) () ((hE ⟨rfl,r,r,trivial⟩ trivial))<|?_
  rintro x6 ⟨⟩ nn
  try dsimp only
  unfold TG
  exact B

def AjU (b : Int) : D:=Nx b
def AaG : Dw.Spec:=NJ [] .ground PN PL (λa=>Su a.1 a.2.1 a.2.2) AjU noE
theorem Adr : NG Tryz.prog 8 AaG:=by
 refine fn2 3 (NO (l:=[(25,ZJ),(26,AbP),(10,Acb)]) (by simp [AcN,Aeh,Agi])) Tryz.func8<|?_
 intro a
 unfold Su
 exact B

def Abm (_a : Unit) : List D:=[]
def Abl (_ds : List D) : Unit:=()
theorem AkO (a : Unit) : Abl (Abm a) = a:=rfl
instance : Ol Abm Abl:=⟨AkO⟩
def AlZ (b : Bool) : D:=.bool b
def Agk : Dw.Spec:=NJ [] .ground Abm Abl (λ_a=>ZN) AlZ noE
theorem AkP : NG Tryz.prog 6 Agk:=by
 refine fn2 0 (NO (l:=[(8,AaG)]) (by simp [Adr])) Tryz.func6<|?_
 intro _
 unfold ZN
 refine A 9 ?_
 refine bS ([(NV.mk 8 8),(NV.mk 8 8)] : List NV) OM r r r (by simp) r r r<|?_
 refine A 4 ?_
 refine bS ([(NC.mk 16 0 0 0 0),(NC.mk 16 1 0 0 0),(NC.mk 15 0 0 0 0),(NC.mk 23 0 0 0 0)] : List NC) Oo r r r (by simp) r r r<|?_
 refine A 9 ?_
 refine bS (([] : List Int) : List Int) NH r r r (by simp) r r r<|bS (([] : List Int) : List Int) NH r r r (by simp) r r r<|bS ([([0] : List Int),([0] : List Int),([] : List Int),([] : List Int)] : List (List Int)) (eL NH) r r r (by simp) r (by simp [WB,eL] <;> rfl) r<|?_
 refine A 7 ?_
 refine bS ([true,true,true,true] : List Bool) D.bool r r r (by simp) r r r<|?_
 refine A 7 ?_
 refine bS ([0,1] : List Int) NH r r r (by simp) r r r<|?_
 refine A 2 ?_
 refine bD λr1 hr1=>?_
 refine A 3 ?_
 refine AbY r ?_ ?_
 ·refine A 2 ?_
  refine bS ([0,0] : List Int) NH r r r (by simp) r r r<|?_
  exact B
 ·exact B

def Abh (a : (List Int) × Int) : List D:=[.sl (a.1.map eU8),Nx a.2]
def Abg (ds : List D) : (List Int) × Int:=((uL uI) (ds.getD 0 .top),uI (ds.getD 1 .top))
theorem AoE (a : (List Int) × Int) : Abg (Abh a) = a:=by simp [Abg,Abh,uI,OY (u:=uI) (en:=eU8) (λ_=>rfl)]
instance : Ol Abh Abg:=⟨AoE⟩
def Apz (b : Mk) : D:=Oy b
def Akg : Dw.Spec:=NJ [] (.ptr 2 91) Abh Abg (λa=>AdJ a.1 a.2) Apz noE
theorem AoF : NG Tryz.prog 19 Akg:=by
 refine fn2 2 (Od) Tryz.func19<|?_
 intro a
 unfold AdJ
 exact B

def PK (a : Mk) : List D:=[Oy a]
def PJ (ds : List D) : Mk:=RH (ds.getD 0 .top)
theorem Ahc (a : Mk) : PJ (PK a) = a:=by simp [PJ,PK]
instance : Ol PK PJ:=⟨Ahc⟩
def Aij (b : Bool × Mk) : D:=.bool b.1
def Aii (b : Bool × Mk) : List D:=[Oy b.2]
def Adj : Dw.Spec:=NJ [(0,(2,91))] .val PK PJ (λa=>XG a) Aij Aii
theorem Ahd : NG Tryz.prog 41 Adj:=by
 refine fn2 1 (Od) Tryz.func41<|?_
 intro a
 unfold XG
 exact B

def Sh (a : Mk × Int) : List D:=[Oy a.1,Nx a.2]
def Sg (ds : List D) : Mk × Int:=(RH (ds.getD 0 .top),uI (ds.getD 1 .top))
theorem Ahg (a : Mk × Int) : Sg (Sh a) = a:=by simp [Sg,Sh,uI]
instance : Ol Sh Sg:=⟨Ahg⟩
def Aim (b : Int × Mk) : D:=Nx b.1
def Ail (b : Int × Mk) : List D:=[Oy b.2]
def OS : Dw.Spec:=NJ [(0,(2,91))] .val Sh Sg (λa=>NK a.1 a.2) Aim Ail
theorem OT : NG Tryz.prog 21 OS:=by
 refine fn2 2 (NO (l:=[(41,Adj)]) (by simp [Ahd])) Tryz.func21<|?_
 rintro ⟨c1,n2⟩
 unfold NK
 refine A 5 ?_
 refine sC (E:=λ(_s : (List Int) × Int) (_g : Unit)=>[(0,.optr 8192 0 0 0),(1,Nx n2)]) (O:=λs _=>[(8192,dV 0 2 91 (.agg [.sl (s.1.map eU8),Nx s.2]))]) (j:=λs=>UM n2 s.1 s.2) ?_ ?_
 ·exact B
 ·rintro ⟨c3,c4⟩ ⟨⟩ nn
  try dsimp only
  unfold UM
  refine A 10 ?_
  refine bD λx_x6 hx_x6=>?_
  refine A 15 ?_
  refine PM (i:=0) (es':=[.agg [.sl (c3.map eU8),Nx (i64.wrap (c4 + 1))]]) r r r r r r r (by first | trivial | (simp; done) | (simp; omega)) r r r r r r<|?_
  exact B

def Aio (b : NV × Mk) : D:=OM b.1
def Ain (b : NV × Mk) : List D:=[Oy b.2]
def Adl : Dw.Spec:=NJ [(0,(2,91))] .val PK PJ (λa=>UN a) Aio Ain
theorem Ahh : NG Tryz.prog 95 Adl:=by
 refine fn2 1 (NO (l:=[(21,OS)]) (by simp [OT])) Tryz.func95<|?_
 intro c1
 unfold UN
 refine A 7 ?_
 refine bS ([8,4,8,1,2,16,8] : List Int) NH r r r (by simp) r r r<|?_
 refine A 1 ?_
 refine bD λr2 hr2=>?_
 refine A 2 ?_
 refine bD λx_e3 hx_e3=>?_
 refine A 1 ?_
 refine bS ([8,4,1,8,16,2,32,64] : List Int) NH r r r (by simp) r r r<|?_
 exact B

def Ahj (b : (List NV) × Mk) : D:=.sl (b.1.map OM)
def Ahi (b : (List NV) × Mk) : List D:=[Oy b.2]
def AcF : Dw.Spec:=NJ [(0,(2,91))] (.row 2 67) Sh Sg (λa=>TZ a.1 a.2) Ahj Ahi
theorem AgP : NG Tryz.prog 69 AcF:=by
 refine fn2 2 (NO (l:=[(21,OS),(95,Adl)]) (by simp [OT,Ahh])) Tryz.func69<|?_
 rintro ⟨c1,most2⟩
 unfold TZ
 refine A 16 ?_
 refine bD λr3 hr3=>?_
 refine A 5 ?_
 refine lP (E:=λ(s : (List Int) × Int × (List NV) × Int) (g : Nat)=>[(0,.optr 8192 0 0 0),(5,.osl 5 g 0 s.2.2.1.length),(6,Nx s.2.2.2)]) (O:=λs g=>[(5,dW g 2 67 (s.2.2.1.map OM)),(8192,dV 0 2 91 (.agg [.sl (s.1.map eU8),Nx s.2.1]))]) (body:=λs=>Uh s.1 s.2.1 s.2.2.1 s.2.2.2) (s:=(r3.2.list,r3.2.at_,([] : List NV),r3.1)) _ ((hE ⟨rfl,r,r,trivial⟩ ⟨rfl,r,trivial⟩))<|?_
 rintro ⟨c4,c5,l6,n7⟩ v5x1 nn
 try dsimp only
 unfold Uh
 refine A 7 ?_
 refine cD r ?_ ?_
 ·refine A 7 ?_
  refine bD λr8 hr8=>?_
  refine A 1 ?_
  refine bS ([r8.1] : List NV) OM r r r (by simp) r r r<|?_
  exact B
 ·exact B

def Ul (a : Mk × Nz × Int) : List D:=[Oy a.1,NP a.2.1,Nx a.2.2]
def Uk (ds : List D) : Mk × Nz × Int:=(RH (ds.getD 0 .top),QZ (ds.getD 1 .top),uI (ds.getD 2 .top))
theorem Ahm (a : Mk × Nz × Int) : Uk (Ul a) = a:=by simp [Uk,Ul,uI]
instance : Ol Ul Uk:=⟨Ahm⟩
def Aiu (b : Int × Mk) : D:=Nx b.1
def Ait (b : Int × Mk) : List D:=[Oy b.2]
def ZH : Dw.Spec:=NJ [(0,(2,91))] .val Ul Uk (λa=>Tf a.1 a.2.1 a.2.2) Aiu Ait
theorem AcG : NG Tryz.prog 46 ZH:=by
 refine fn2 3 (NO (l:=[(21,OS)]) (by simp [OT])) Tryz.func46<|?_
 rintro ⟨c1,f2,s3⟩
 unfold Tf
 refine A 18 ?_
 refine lP (E:=λ(s : (List Int) × Int) (g : Nat × Nat)=>[(0,.optr 8192 0 0 0),(2,Nx s3),(4,.optr 4 g.1 0 0),(7,.osl 7 g.2 0 s.1.length),(8,Nx s.2)]) (O:=λs g=>[(4,dV g.1 3 40 (NP f2)),(7,dW g.2 1 3 (s.1.map NH)),(8192,dV 0 2 91 (.agg [.sl (c1.list.map eU8),Nx c1.at_]))]) (body:=λs=>UQ f2 s3 c1 s.1 s.2) (s:=(([] : List Int),0)) (_,_) ((hE ⟨rfl,r,r,r,r,trivial⟩ ⟨rfl,r,r,trivial⟩))<|?_
 rintro ⟨l4,k5⟩ ⟨v4x1,v7x1⟩ nn
 try dsimp only
 unfold UQ
 exact B

def Aiq (b : Int × Mk) : D:=Ob b.1
def Aip (b : Int × Mk) : List D:=[Oy b.2]
def VC : Dw.Spec:=NJ [(0,(2,91))] .val PK PJ (λa=>RK a) Aiq Aip
theorem Yl : NG Tryz.prog 38 VC:=by
 refine fn2 1 (NO (l:=[(21,OS)]) (by simp [OT])) Tryz.func38<|?_
 intro a
 unfold RK
 exact B

def Uj (a : Mk × Nz × Int × (List Int)) : List D:=[Oy a.1,NP a.2.1,Nx a.2.2.1,.sl (a.2.2.2.map NH)]
def Ui (ds : List D) : Mk × Nz × Int × (List Int):=(RH (ds.getD 0 .top),QZ (ds.getD 1 .top),uI (ds.getD 2 .top),(uL uI) (ds.getD 3 .top))
theorem Ahk (a : Mk × Nz × Int × (List Int)) : Ui (Uj a) = a:=by simp [Ui,Uj,uI,OY (u:=uI) (en:=NH) (λ_=>rfl)]
instance : Ol Uj Ui:=⟨Ahk⟩
def Ais (b : (List NC) × Mk) : D:=.sl (b.1.map Oo)
def Air (b : (List NC) × Mk) : List D:=[Oy b.2]
def Adm : Dw.Spec:=NJ [(0,(2,91))] (.row 5 69) Uj Ui (λa=>UO a.1 a.2.1 a.2.2.1 a.2.2.2) Ais Air
theorem Ahl : NG Tryz.prog 70 Adm:=by
 refine fn2 4 (NO (l:=[(21,OS),(46,ZH),(38,VC)]) (by simp [OT,AcG,Yl])) Tryz.func70<|?_
 rintro ⟨c1,f2,i3,params4⟩
 unfold UO
 refine A 9 ?_
 refine bD λr5 hr5=>?_
 refine A 15 ?_
 refine bD λr6 hr6=>?_
 refine A 4 ?_
 refine bC (E:=λ(_s : Unit) (_g : Unit)=>[(9,Nx r5.1)]) (O:=λ_ _=>[(8192,dV 0 2 91 (.agg [.sl (r6.2.list.map eU8),Nx r6.2.at_]))]) (j:=λ_=>Ym r5 r6) ?_ ?_
 ·refine sC (E:=λ(s : Bool) (g : Nat)=>[(0,.optr 8192 0 0 0),(2,Nx i3),(3,.sl (params4.map NH)),(5,.optr 5 g 0 0),(9,Nx r5.1),(10,Nx (f2.Slots.length : Int)),(11,Nx r6.1),(23,.bool s)]) (O:=λ_ g=>[(5,dV g 3 40 (NP f2)),(8192,dV 0 2 91 (.agg [.sl (r6.2.list.map eU8),Nx r6.2.at_]))]) (j:=λs=>Ro r6 f2 r5 params4 i3 s) ?_ ?_
  ·exact B
  ·rintro x7 v5x1 nn
   try dsimp only
   unfold Ro
   refine cD r ?_ ?_
   ·refine A 4 ?_
    refine bD λr8 hr8=>?_
    refine A 3 ?_
    refine bS ([(NC.mk 16 r8.1 r5.1 0 0)] : List NC) Oo r r r (by simp) r r r<|?_
    exact B
   ·refine sC (E:=λ(s : Bool) (g : Nat)=>[(0,.optr 8192 0 0 0),(2,Nx i3),(3,.sl (params4.map NH)),(5,.optr 5 g 0 0),(9,Nx r5.1),(10,Nx (f2.Slots.length : Int)),(11,Nx r6.1),(36,.bool s)]) (O:=λ_ g=>[(5,dV g 3 40 (NP f2)),(8192,dV 0 2 91 (.agg [.sl (r6.2.list.map eU8),Nx r6.2.at_]))]) (j:=λs=>Rp r6 f2 r5 params4 i3 s) ?_ ?_
    ·exact B
    ·rintro x9 v5x2 nn
     try dsimp only
     unfold Rp
     refine cD r ?_ ?_
     ·refine A 5 ?_
      refine bD λr10 hr10=>?_
      refine A 2 ?_
      refine bS ([(NC.mk 15 r5.1 r10.1 0 0)] : List NC) Oo r r r (by simp) r r r<|?_
      exact B
     ·refine sC (E:=λ(s : Bool) (g : Nat)=>[(0,.optr 8192 0 0 0),(2,Nx i3),(3,.sl (params4.map NH)),(5,.optr 5 g 0 0),(9,Nx r5.1),(10,Nx (f2.Slots.length : Int)),(11,Nx r6.1),(49,.bool s)]) (O:=λ_ g=>[(5,dV g 3 40 (NP f2)),(8192,dV 0 2 91 (.agg [.sl (r6.2.list.map eU8),Nx r6.2.at_]))]) (j:=λs=>Rq r6 f2 r5 params4 i3 s) ?_ ?_
      ·exact B
      ·rintro x11 v5x3 nn
       try dsimp only
       unfold Rq
       refine cD r ?_ ?_
       ·refine A 4 ?_
        refine bD λr12 hr12=>?_
        refine A 9 ?_
        refine bD λr13 hr13=>?_
        refine A 3 ?_
        refine bS ([(NC.mk 17 r13.1 r12.1 0 0)] : List NC) Oo r r r (by simp) r r r<|?_
        exact B
       ·refine A 7 ?_
        refine cD r ?_ ?_
        ·refine A 4 ?_
         refine bD λr14 hr14=>?_
         refine A 2 ?_
         refine bS ([(NC.mk 0 r5.1 0 0 r14.1)] : List NC) Oo r r r (by simp) r r r<|?_
         exact B
        ·refine A 7 ?_
         refine cD r ?_ ?_
         ·refine A 3 ?_
          refine bD λr15 hr15=>?_
          refine A 4 ?_
          refine bD λr16 hr16=>?_
          refine A 2 ?_
          refine bD λr17 hr17=>?_
          refine A 2 ?_
          refine bS ([(NC.mk (i64.wrap (2 + r15.1)) r5.1 r16.1 r17.1 0)] : List NC) Oo r r r (by simp) r r r<|?_
          exact B
         ·refine A 7 ?_
          refine cD r ?_ ?_
          ·refine A 4 ?_
           refine bS ([(NC.mk 14 r5.1 0 0 0)] : List NC) Oo r r r (by simp) r r r<|?_
           exact B
          ·refine A 7 ?_
           refine cD r ?_ ?_
           ·refine A 2 ?_
            refine bS ([13,12,1] : List Int) NH r r r (by simp) r r r<|?_
            refine A 1 ?_
            refine bD λr18 hr18=>?_
            refine A 2 ?_
            refine bD λx_e19 hx_e19=>?_
            refine A 3 ?_
            refine bS ([(NC.mk x_e19 r5.1 0 0 0)] : List NC) Oo r r r (by simp) r r r<|?_
            exact B
           ·refine sC (E:=λ(s : Bool) (g : Nat)=>[(0,.optr 8192 0 0 0),(2,Nx i3),(3,.sl (params4.map NH)),(5,.optr 5 g 0 0),(9,Nx r5.1),(11,Nx r6.1),(104,.bool s)]) (O:=λ_ g=>[(5,dV g 3 40 (NP f2)),(8192,dV 0 2 91 (.agg [.sl (r6.2.list.map eU8),Nx r6.2.at_]))]) (j:=λs=>Rr r6 f2 r5 params4 i3 s) ?_ ?_
            ·exact B
            ·rintro x20 v5x4 nn
             try dsimp only
             unfold Rr
             refine cD r ?_ ?_
             ·refine A 6 ?_
              refine bD λr21 hr21=>?_
              refine A 2 ?_
              refine bS ([(NC.mk 19 r5.1 r21.1 0 0)] : List NC) Oo r r r (by simp) r r r<|?_
              exact B
             ·refine sC (E:=λ(s : Bool) (_g : Unit)=>[(0,.optr 8192 0 0 0),(2,Nx i3),(3,.sl (params4.map NH)),(9,Nx r5.1),(119,.bool s)]) (O:=λ_ _=>[(8192,dV 0 2 91 (.agg [.sl (r6.2.list.map eU8),Nx r6.2.at_]))]) (j:=λs=>Rs r6 params4 i3 r5 s) ?_ ?_
              ·exact B
              ·rintro x22 ⟨⟩ nn
               try dsimp only
               unfold Rs
               refine cD r ?_ ?_
               ·refine A 10 ?_
                refine bD λr23 hr23=>?_
                refine A 17 ?_
                refine lP (E:=λ(s : (List Int) × Int × (List NC) × Int) (g : Nat)=>[(0,.optr 8192 0 0 0),(3,.sl (params4.map NH)),(13,Nx (i64.wrap ((i64.wrap (i3 + 1)) + r23.1))),(14,.osl 14 g 0 s.2.2.1.length),(15,Nx s.2.2.2)]) (O:=λs g=>[(14,dW g 5 69 (s.2.2.1.map Oo)),(8192,dV 0 2 91 (.agg [.sl (s.1.map eU8),Nx s.2.1]))]) (body:=λs=>UP params4 i3 r23 s.1 s.2.1 s.2.2.1 s.2.2.2) (s:=(r23.2.list,r23.2.at_,([] : List NC),0)) _ ((hE ⟨rfl,r,r,r,r,trivial⟩ ⟨rfl,r,trivial⟩))<|?_
                rintro ⟨c24,c25,out26,a27⟩ v14x6 nn
                try dsimp only
                unfold UP
                refine A 6 ?_
                refine bD λx_x28 hx_x28=>?_
                refine A 5 ?_
                refine cD r ?_ ?_
                ·refine A 7 ?_
                 refine bD λr29 hr29=>?_
                 refine A 4 ?_
                 refine cD r ?_ ?_
                 ·refine A 4 ?_
                  refine bD λr30 hr30=>?_
                  refine A 2 ?_
                  refine bS ([(NC.mk 18 a27 r30.1 0 0)] : List NC) Oo r r r (by simp) r r r<|?_
                  exact B
                 ·exact B
                ·refine A 10 ?_
                 refine bS ([(NC.mk 22 (i64.wrap ((i64.wrap (i3 + 1)) + r23.1)) 0 0 0)] : List NC) Oo r r r (by simp) r r r<|?_
                 exact B
               ·exact B
 ·rintro ⟨⟩ ⟨⟩ nn
  try dsimp only
  unfold Ym
  refine A 4 ?_
  refine bS ([(NC.mk 14 r5.1 0 0 0)] : List NC) Oo r r r (by simp) r r r<|?_
  exact B

def Sd (a : Mk × Int × (List Int) × Int) : List D:=[Oy a.1,Nx a.2.1,.sl (a.2.2.1.map NH),Nx a.2.2.2]
def Sc (ds : List D) : Mk × Int × (List Int) × Int:=(RH (ds.getD 0 .top),uI (ds.getD 1 .top),(uL uI) (ds.getD 2 .top),uI (ds.getD 3 .top))
theorem AeP (a : Mk × Int × (List Int) × Int) : Sc (Sd a) = a:=by simp [Sc,Sd,uI,OY (u:=uI) (en:=NH) (λ_=>rfl)]
instance : Ol Sd Sc:=⟨AeP⟩
def AaM (b : Nz × Mk) : D:=NP b.1
def Afl (b : Nz × Mk) : List D:=[Oy b.2]
def AaN : Dw.Spec:=NJ [(0,(2,91))] .val Sd Sc (λa=>Si a.1 a.2.1 a.2.2.1 a.2.2.2) AaM Afl
theorem AeQ : NG Tryz.prog 40 AaN:=by
 refine fn2 4 (NO (l:=[(69,AcF),(21,OS),(70,Adm),(38,VC)]) (by simp [AgP,OT,Ahl,Yl])) Tryz.func40<|?_
 rintro ⟨c1,i2,params3,most4⟩
 unfold Si
 refine A 9 ?_
 refine bD λx_x5 hx_x5=>?_
 refine A 3 ?_
 refine bD λr6 hr6=>?_
 refine A 18 ?_
 refine lP (E:=λ(s : (List Int) × Int × (List NC) × Int) (g : Nat × Nat × Nat × Nat)=>[(0,.optr 8192 0 0 0),(1,Nx i2),(2,.sl (params3.map NH)),(3,Nx most4),(8,.optr 8 g.1 0 0),(9,.optr 9 g.2.1 0 0),(10,.osl 10 g.2.2.1 0 s.2.2.1.length),(11,Nx s.2.2.2)]) (O:=λs g=>[(8,dV g.1 3 40 (.agg [Nx 0,.nils,.nils])),(9,dV g.2.1 3 40 (.agg [Nx x_x5,.osl 21 g.2.2.2 0 r6.1.length,.nils])),(10,dW g.2.2.1 5 69 (s.2.2.1.map Oo)),(21,dW g.2.2.2 2 67 (r6.1.map OM)),(8192,dV 0 2 91 (.agg [.sl (s.1.map eU8),Nx s.2.1]))]) (body:=λs=>SE r6 most4 x_x5 i2 params3 s.1 s.2.1 s.2.2.1 s.2.2.2) (s:=(r6.2.list,r6.2.at_,([] : List NC),0)) (_,_,_,_) ((hE ⟨rfl,r,r,r,r,r,r,r,trivial⟩ ⟨rfl,r,r,r,r,trivial⟩))<|?_
 rintro ⟨c7,c8,code9,s10⟩ ⟨v8x1,v9x1,v10x1,v21x1⟩ nn
 try dsimp only
 unfold SE
 refine A 10 ?_
 refine cD r ?_ ?_
 ·refine A 7 ?_
  refine bD λr11 hr11=>?_
  refine A 4 ?_
  refine cD r ?_ ?_
  ·refine A 4 ?_
   refine bD λr12 hr12=>?_
   refine A 2 ?_
   refine bS ([(NC.mk 16 s10 r12.1 0 0)] : List NC) Oo r r r (by simp) r r r<|?_
   exact B
  ·exact B
 ·refine A 11 ?_
  refine bD λr13 hr13=>?_
  refine A 5 ?_
  refine lP (E:=λ(s : (List Int) × Int × (List NC) × (List NV) × Int) (g : Nat × Nat × Nat)=>[(0,.optr 8192 0 0 0),(1,Nx i2),(2,.sl (params3.map NH)),(8,.optr 8 g.1 0 0),(9,.optr 9 g.2.1 0 0),(10,.osl 10 g.2.2 0 s.2.2.1.length),(12,Nx s.2.2.2.2)]) (O:=λs g=>[(8,dV g.1 3 40 (.agg [Nx 0,.nils,.nils])),(9,dV g.2.1 3 40 (.agg [Nx x_x5,.sl (s.2.2.2.1.map OM),.nils])),(10,dW g.2.2 5 69 (s.2.2.1.map Oo)),(8192,dV 0 2 91 (.agg [.sl (s.1.map eU8),Nx s.2.1]))]) (body:=λs=>SF x_x5 i2 params3 s.1 s.2.1 s.2.2.1 s.2.2.2.1 s.2.2.2.2) (s:=(r13.2.list,r13.2.at_,code9,r6.1,r13.1)) (_,_,_) ((Acd [(21,some (_,⟨true,false,2,67,r6.1.map OM⟩))] ⟨⟨_,_,r,r,r⟩,trivial⟩ ⟨(OI r),(OI r),(OI r),(OI r),(OI r),(OI r),(OI r),trivial⟩ ⟨(.inl r),(.inr ⟨_,_,_,_,r,r,r,r,AaA r ⟨(UF r),(Yh (l:=r6.1) (en:=OM) r r r (by simp)),(UF r),trivial⟩⟩),(.inl r),(.inl r),trivial⟩))<|?_
  rintro ⟨c14,c15,code16,f17,n18⟩ ⟨v8x2,v9x2,v10x2⟩ nn
  try dsimp only
  unfold SF
  refine A 7 ?_
  refine cD r ?_ ?_
  ·refine A 11 ?_
   refine bD λr19 hr19=>?_
   refine A 8 ?_
   refine bD λr20 hr20=>?_
   refine A 10 ?_
   refine cD r ?_ ?_
   ·refine A 3 ?_
    refine bD λr21 hr21=>?_
    refine A 2 ?_
    refine bS ([(NC.mk 21 r21.1 (-1) 0 0)] : List NC) Oo r r r (by simp) r r r<|?_
    exact B
   ·refine A 6 ?_
    refine cD r ?_ ?_
    ·refine A 3 ?_
     refine bD λr22 hr22=>?_
     refine A 4 ?_
     refine cD r ?_ ?_
     ·refine A 3 ?_
      refine bS ([(NC.mk 20 (-1) 0 0 0)] : List NC) Oo r r r (by simp) r r r<|?_
      exact B
     ·exact B
    ·exact B
  ·refine A 12 ?_
   refine sC (E:=λ(_s : (List Int) × Int × Int × Int) (g : Nat × Nat × Nat × Nat)=>[(0,.optr 8192 0 0 0),(8,.optr 8 g.1 0 0),(9,.optr 9 g.2.1 0 0),(10,.osl 10 g.2.2.1 0 code16.length),(13,.optr 13 g.2.2.2 0 0)]) (O:=λs g=>[(8,dV g.1 3 40 (.agg [Nx 0,.nils,.nils])),(9,dV g.2.1 3 40 (.agg [Nx x_x5,.sl (f17.map OM),.nils])),(10,dW g.2.2.1 5 69 (code16.map Oo)),(13,dV g.2.2.2 5 69 (.agg [Nx s.2.2.1,Nx 0,Nx 0,Nx 0,Ob s.2.2.2])),(8192,dV 0 2 91 (.agg [.sl (s.1.map eU8),Nx s.2.1]))]) (j:=λs=>Qe code16 x_x5 f17 s.1 s.2.1 s.2.2.1 s.2.2.2) ?_ ?_
   ·exact B
   ·rintro ⟨c23,c24,end25,end26⟩ ⟨v8x3,v9x3,v10x3,v13x3⟩ nn
    try dsimp only
    unfold Qe
    refine A 4 ?_
    refine bS ([(NC.mk end25 0 0 0 end26)] : List NC) Oo r r r (by simp) r r r<|cK λhq=>aP (code16) (([(NC.mk end25 0 0 0 end26)] : List NC)) Oo r r r r r r r (by simp) (QW _ _ r) r r (by simp) (Qz _ _ r) (λ_=>r) r hq<|?_
    refine A 10 ?_
    refine lP (E:=λ(s : (List Int) × Int × (List NC) × Int) (g : Nat × Nat × Nat)=>[(0,.optr 8192 0 0 0),(8,.optr 8 g.1 0 0),(9,.optr 9 g.2.1 0 0),(10,.osl 10 g.2.2 0 s.2.2.1.length),(14,Nx s.2.2.2)]) (O:=λs g=>[(8,dV g.1 3 40 (.agg [Nx 0,.nils,.nils])),(9,dV g.2.1 3 40 (.agg [Nx x_x5,.sl (f17.map OM),.nils])),(10,dW g.2.2 5 69 (s.2.2.1.map Oo)),(8192,dV 0 2 91 (.agg [.sl (s.1.map eU8),Nx s.2.1]))]) (body:=λs=>Ra x_x5 f17 s.1 s.2.1 s.2.2.1 s.2.2.2) (s:=(c23,c24,code16 ++ ([(NC.mk end25 0 0 0 end26)] : List NC),0)) (_,_,_) ((hE ⟨rfl,r,r,r,r,trivial⟩ ⟨rfl,r,r,r,trivial⟩))<|?_
    rintro ⟨c29,c30,code31,k32⟩ ⟨v8x4,v9x4,v10x4⟩ nn
    try dsimp only
    unfold Ra
    refine A 9 ?_
    refine cD r ?_ ?_
    ·refine A 8 ?_
     refine bD λr33 hr33=>?_
     refine A 6 ?_
     refine sC (E:=λ(s : Int) (g : Nat × Nat × Nat)=>[(0,.optr 8192 0 0 0),(8,.optr 8 g.1 0 0),(9,.optr 9 g.2.1 0 0),(10,.osl 10 g.2.2 0 code31.length),(14,Nx k32),(15,Nx s)]) (O:=λ_ g=>[(8,dV g.1 3 40 (.agg [Nx 0,.nils,.nils])),(9,dV g.2.1 3 40 (.agg [Nx x_x5,.sl (f17.map OM),.nils])),(10,dW g.2.2 5 69 (code31.map Oo)),(8192,dV 0 2 91 (.agg [.sl (r33.2.list.map eU8),Nx r33.2.at_]))]) (j:=λs=>Pq k32 code31 r33 s) ?_ ?_
     ·exact B
     ·rintro to34 ⟨v8x5,v9x5,v10x5⟩ nn
      try dsimp only
      unfold Pq
      refine A 1 ?_
      refine sC (E:=λ(s : Bool) (g : Nat × Nat × Nat)=>[(0,.optr 8192 0 0 0),(8,.optr 8 g.1 0 0),(9,.optr 9 g.2.1 0 0),(10,.osl 10 g.2.2 0 code31.length),(14,Nx k32),(15,Nx to34),(107,.bool s)]) (O:=λ_ g=>[(8,dV g.1 3 40 (.agg [Nx 0,.nils,.nils])),(9,dV g.2.1 3 40 (.agg [Nx x_x5,.sl (f17.map OM),.nils])),(10,dW g.2.2 5 69 (code31.map Oo)),(8192,dV 0 2 91 (.agg [.sl (r33.2.list.map eU8),Nx r33.2.at_]))]) (j:=λs=>Rc k32 code31 r33 to34 s) ?_ ?_
      ·exact B
      ·rintro x35 ⟨v8x6,v9x6,v10x6⟩ nn
       try dsimp only
       unfold Rc
       refine cD r ?_ ?_
       ·refine A 6 ?_
        refine bD λcode_o38 hcode_o38=>sE (l:=code31) (en:=Oo) (q':=(NC.mk code_o38.Op to34 code_o38.B code_o38.C code_o38.Imm)) r r r r r r r (by simp) hcode_o38 r r r r r<|?_
        exact B
       ·refine A 6 ?_
        refine bD λcode_e39 hcode_e39=>?_
        refine A 3 ?_
        refine AbY r ?_ ?_
        ·refine A 4 ?_
         refine bD λcode_e40 hcode_e40=>?_
         refine A 6 ?_
         refine cD r ?_ ?_
         ·refine A 6 ?_
          refine bD λcode_o41 hcode_o41=>sE (l:=code31) (en:=Oo) (q':=(NC.mk code_o41.Op code_o41.A to34 code_o41.C code_o41.Imm)) r r r r r r r (by simp) hcode_o41 r r r r r<|?_
          exact B
         ·exact B
        ·exact B
    ·refine A 19 ?_
     refine Uz (b:=((Nz.mk x_x5 f17 code31),(Mk.mk c29 c30))) r ?_ r r ?_ (by first | rfl | (simp only [Nw]; rfl) | (simp only [NA]; rfl) | (simp only [Nw,NA]; rfl) | simp [AaM,NP])
     all_goals first|(simp;done)|(simp;omega)|rfl|(simp [OK,OP];done)

def SC (a : Mk × Int × Int) : List D:=[Oy a.1,Nx a.2.1,Nx a.2.2]
def SB (ds : List D) : Mk × Int × Int:=(RH (ds.getD 0 .top),uI (ds.getD 1 .top),uI (ds.getD 2 .top))
theorem Afj (a : Mk × Int × Int) : SB (SC a) = a:=by simp [SB,SC,uI]
instance : Ol SC SB:=⟨Afj⟩
def AfP (b : NN × Mk) : D:=QT b.1
def AfO (b : NN × Mk) : List D:=[Oy b.2]
def Abf : Dw.Spec:=NJ [(0,(2,91))] .val SC SB (λa=>SW a.1 a.2.1 a.2.2) AfP AfO
theorem Afk : NG Tryz.prog 20 Abf:=by
 refine fn2 3 (NO (l:=[(21,OS),(40,AaN)]) (by simp [OT,AeQ])) Tryz.func20<|?_
 rintro ⟨c1,funcs2,most3⟩
 unfold SW
 refine A 16 ?_
 refine bD λr4 hr4=>?_
 refine A 5 ?_
 refine lP (E:=λ(s : (List Int) × Int × (List Int) × Int) (g : Nat × Nat)=>[(0,.optr 8192 0 0 0),(2,Nx most3),(6,.optr 6 g.1 0 0),(7,.osl 7 g.2 0 s.2.2.1.length),(8,Nx s.2.2.2)]) (O:=λs g=>[(6,dV g.1 1 26 (.agg [.nils])),(7,dW g.2 1 3 (s.2.2.1.map NH)),(8192,dV 0 2 91 (.agg [.sl (s.1.map eU8),Nx s.2.1]))]) (body:=λs=>Tb most3 s.1 s.2.1 s.2.2.1 s.2.2.2) (s:=(r4.2.list,r4.2.at_,([0] : List Int),r4.1)) (_,_) ((hE ⟨rfl,r,r,r,r,trivial⟩ ⟨rfl,r,r,trivial⟩))<|?_
 rintro ⟨c5,c6,params7,n8⟩ ⟨v6x1,v7x1⟩ nn
 try dsimp only
 unfold Tb
 refine A 7 ?_
 refine cD r ?_ ?_
 ·exact B
 ·refine A 17 ?_
  refine lP (E:=λ(s : (List Int) × Int × (List Nz) × Int × (List Int)) (g : Nat × Nat)=>[(0,.optr 8192 0 0 0),(2,Nx most3),(6,.optr 6 g.1 0 0),(7,.sl (s.2.2.2.2.map NH)),(9,.optr 9 g.2 0 0),(10,Nx s.2.2.2.1)]) (O:=λs g=>[(6,dV g.1 1 26 (.agg [.nils])),(9,dV g.2 1 26 (.agg [.sl (s.2.2.1.map NP)])),(8192,dV 0 2 91 (.agg [.sl (s.1.map eU8),Nx s.2.1]))]) (body:=λs=>Tc most3 s.1 s.2.1 s.2.2.1 s.2.2.2.1 s.2.2.2.2) (s:=(c5,c6,[],0,params7)) (_,_) ((Acd [(7,some (_,⟨true,false,1,3,params7.map NH⟩))] ⟨⟨_,_,r,r,r⟩,trivial⟩ ⟨(OI r),(OI r),(OI r),(AaJ (Yh (l:=params7) (en:=NH) r r r (by simp))),(OI r),(OI r),trivial⟩ ⟨(.inl r),(.inr ⟨_,_,_,_,r,r,r,r,AaA r ⟨(Yg NP r),trivial⟩⟩),(.inl r),trivial⟩))<|?_
  rintro ⟨c10,c11,p12,i13,params14⟩ ⟨v6x2,v9x2⟩ nn
  try dsimp only
  unfold Tc
  refine A 9 ?_
  refine cD r ?_ ?_
  ·refine A 13 ?_
   refine bD λr15 hr15=>?_
   refine A 1 ?_
   refine bS ([r15.1] : List Nz) NP r r r (by simp) r r r<|?_
   refine A 16 ?_
   exact wf [11] λ_=>B
  ·exact B

def Aoa (b : (List Int)) : D:=.sl (b.map NH)
def AdZ : Dw.Spec:=NJ [] (.row 1 3) Xg Xf (λa=>YX a.1 a.2) Aoa noE
theorem Agy : NG Tryz.prog 51 AdZ:=by
 refine fn2 2 (Od) Tryz.func51<|?_
 rintro ⟨f1,k2⟩
 unfold YX
 refine A 6 ?_
 refine sC (E:=λ(_s : Unit) (g : Nat)=>[(1,Nx k2),(2,.optr 2 g 0 0)]) (O:=λ_ g=>[(2,dV g 3 40 (NP f1))]) (j:=λ_=>Aap f1 k2) ?_ ?_
 ·exact B
 ·rintro ⟨⟩ v2x1 nn
  try dsimp only
  unfold Aap
  refine A 5 ?_
  refine bD λx_x3 hx_x3=>?_
  refine A 20 ?_
  refine cD r ?_ ?_
  ·exact B
  ·refine sC (E:=λ(s : Bool) (g : Nat)=>[(1,Nx k2),(5,.optr 5 g 0 0),(21,Nx x_x3.Op),(27,.bool s)]) (O:=λ_ g=>[(5,dV g 5 69 (Oo x_x3))]) (j:=λs=>QC x_x3 k2 s) ?_ ?_
   ·exact B
   ·rintro x4 v5x2 nn
    try dsimp only
    unfold QC
    refine cD r ?_ ?_
    ·exact B
    ·refine A 6 ?_
     refine cD r ?_ ?_
     ·refine A 11 ?_
      refine cD r ?_ ?_
      ·refine A 6 ?_
       refine bS ([x_x3.B,i64.wrap (k2 + 1)] : List Int) NH r r r (by simp) r r r<|?_
       exact B
      ·refine A 10 ?_
       refine cD r ?_ ?_
       ·refine A 6 ?_
        refine bS ([i64.wrap (k2 + 1),x_x3.B] : List Int) NH r r r (by simp) r r r<|?_
        exact B
       ·exact B
     ·exact B

def AiJ (b : Bool) : D:=.bool b
def ZK : Dw.Spec:=NJ [] .ground PC PA (λa=>QY a) AiJ noE
theorem AcV : NG Tryz.prog 60 ZK:=by
 refine fn2 1 (Od) Tryz.func60<|?_
 intro a
 unfold QY
 exact B

def Akk (b : Int × Bool) : D:=.tup [Nx b.1,.bool b.2]
def Tk : Dw.Spec:=NJ [] .ground PC PA (λa=>QD a) Akk noE
theorem Ub : NG Tryz.prog 61 Tk:=by
 refine fn2 1 (NO (l:=[(60,ZK)]) (by simp [AcV])) Tryz.func61<|?_
 intro a
 unfold QD
 exact B

def Alf (b : (List Int)) : D:=.sl (b.map NH)
def Acn : Dw.Spec:=NJ [] (.row 1 3) Qg Qf (λa=>Wg a.1 a.2) Alf noE
theorem AeB : NG Tryz.prog 43 Acn:=by
 refine fn2 2 (Od) Tryz.func43<|?_
 rintro ⟨s1,n2⟩
 unfold Wg
 refine A 17 ?_
 refine lP (E:=λ(s : (List Int) × Int) (g : Nat)=>[(0,.sl (s1.map NH)),(1,Nx n2),(5,.osl 5 g 0 s.1.length),(6,Nx s.2)]) (O:=λs g=>[(5,dW g 1 3 (s.1.map NH))]) (body:=λs=>RQ s1 n2 s.1 s.2) (s:=(([] : List Int),0)) _ ((hE ⟨rfl,r,r,r,trivial⟩ ⟨rfl,trivial⟩))<|?_
 rintro ⟨out3,i4⟩ v5x1 nn
 try dsimp only
 unfold RQ
 exact B

def Aob (b : (List Int)) : D:=.sl (b.map NH)
def Aeb : Dw.Spec:=NJ [] (.row 1 3) PC PA (λa=>TF a) Aob noE
theorem Agz : NG Tryz.prog 63 Aeb:=by
 refine fn2 1 (Od) Tryz.func63<|?_
 intro a
 unfold TF
 exact B

def AnV (b : Bool) : D:=.bool b
def AdV : Dw.Spec:=NJ [] .ground OH OG (λa=>Vc a) AnV noE
theorem Agt : NG Tryz.prog 71 AdV:=by
 refine fn2 1 (Od) Tryz.func71<|?_
 intro a
 unfold Vc
 exact B

def AoV (b : (List Int)) : D:=.sl (b.map NH)
def Xw : Dw.Spec:=NJ [] (.row 1 3) Qg Qf (λa=>RW a.1 a.2) AoV noE
theorem Yx : NG Tryz.prog 42 Xw:=by
 refine fn2 2 (NO (l:=[(71,AdV)]) (by simp [Agt])) Tryz.func42<|?_
 rintro ⟨s1,n2⟩
 unfold RW
 refine A 13 ?_
 refine bD λr3 hr3=>?_
 refine A 12 ?_
 refine lP (E:=λ(s : (List Int) × Bool × Int) (g : Nat)=>[(0,.sl (s1.map NH)),(1,Nx n2),(5,.osl 5 g 0 s.1.length),(6,.bool s.2.1),(7,Nx s.2.2)]) (O:=λs g=>[(5,dW g 1 3 (s.1.map NH))]) (body:=λs=>Qt s1 n2 s.1 s.2.1 s.2.2) (s:=(([] : List Int),(!r3),0)) _ ((hE ⟨rfl,r,r,r,r,trivial⟩ ⟨rfl,trivial⟩))<|?_
 rintro ⟨out4,done5,i6⟩ v5x1 nn
 try dsimp only
 unfold Qt
 refine A 9 ?_
 refine cD r ?_ ?_
 ·refine A 4 ?_
  refine sC (E:=λ(s : (List Int) × Bool) (g : Nat)=>[(0,.sl (s1.map NH)),(1,Nx n2),(5,.osl 5 g 0 s.1.length),(6,.bool s.2),(7,Nx i6)]) (O:=λs g=>[(5,dW g 1 3 (s.1.map NH))]) (j:=λs=>RP s1 i6 s.1 s.2) ?_ ?_
  ·refine sC (E:=λ(s : Bool) (g : Nat)=>[(0,.sl (s1.map NH)),(1,Nx n2),(5,.osl 5 g 0 out4.length),(6,.bool done5),(7,Nx i6),(26,.bool s)]) (O:=λ_ g=>[(5,dW g 1 3 (out4.map NH))]) (j:=λs=>SY s1 i6 n2 out4 done5 s) ?_ ?_
   ·exact B
   ·rintro x9 v5x2 nn
    try dsimp only
    unfold SY
    exact B
  ·rintro ⟨out7,done8⟩ v5x3 nn
   try dsimp only
   unfold RP
   exact B
 ·exact B

def Amu (b : (List Int)) : D:=.sl (b.map NH)
def Xk : Dw.Spec:=NJ [] (.row 1 3) Qr Qq (λa=>SJ a.1 a.2) Amu noE
theorem YR : NG Tryz.prog 52 Xk:=by
 refine fn2 2 (NO (l:=[(42,Xw)]) (by simp [Yx])) Tryz.func52<|?_
 rintro ⟨a1,b2⟩
 unfold SJ
 refine A 19 ?_
 refine lP (E:=λ(s : (List Int) × Int) (g : Nat)=>[(1,.sl (b2.map NH)),(5,.osl 5 g 0 s.1.length),(6,Nx s.2)]) (O:=λs g=>[(5,dW g 1 3 (s.1.map NH))]) (body:=λs=>TO b2 s.1 s.2) (s:=(([] : List Int) ++ a1,0)) _ ((hE ⟨rfl,r,r,trivial⟩ ⟨rfl,trivial⟩))<|?_
 rintro ⟨out3,i4⟩ v5x1 nn
 try dsimp only
 unfold TO
 exact B

def ApK (b : (List Int)) : D:=.sl (b.map NH)
def Agd : Dw.Spec:=NJ [] (.row 1 3) Uv Uu (λa=>Aco a.1 a.2) ApK noE
theorem Ajd : NG Tryz.prog 53 Agd:=by
 refine fn2 2 (NO (l:=[(61,Tk),(43,Acn),(63,Aeb),(52,Xk)]) (by simp [Ub,AeB,Agz,YR])) Tryz.func53<|?_
 intro a
 unfold Aco
 exact B

def AhK (b : NQ) : D:=PO b
def AhL : Dw.Spec:=NJ [] .val OQ OO (λa=>AbE a.1 a.2) AhK noE
theorem AmC : NG Tryz.prog 27 AhL:=by
 refine fn2 2 (NO (l:=[(51,AdZ),(53,Agd),(52,Xk)]) (by simp [Agy,Ajd,YR])) Tryz.func27<|?_
 rintro ⟨f1,l2⟩
 unfold AbE
 refine A 12 ?_
 refine cK λhq=>AeY (α:=Int) r r r hq r<|?_
 refine A 4 ?_
 refine QA (E:=[(2,.optr 2 _ 0 0),(3,.optr 3 _ 0 0),(4,.optr 4 _ 0 0),(5,.optr 5 _ 0 0)]) (O:=[(2,dV _ 3 40 (NP f1)),(3,dV _ 1 29 (.agg [.sl (l2.Out.map (eL NH))])),(4,dV _ 1 29 (.agg [.nils])),(5,dV _ 1 29 (.agg [.osl 13 _ 0 ((List.replicate (f1.Code.length : Int).toNat ([] : (List Int))).length)])),(13,dW _ 1 30 ((List.replicate (f1.Code.length : Int).toNat ([] : (List Int))).map (eL NH)))]) ((Aho (g:=13) r (Ajr (l:=List.replicate (f1.Code.length : Int).toNat ([] : (List Int))) NH (λ_ h=>List.eq_of_mem_replicate h)) (hE ⟨rfl,r,r,r,trivial⟩ ⟨rfl,r,r,r,r,trivial⟩))) λnn=>?_
 refine A 7 ?_
 refine lP (E:=λ(s : (List (List Int)) × Int) (g : Nat × Nat × Nat × Nat × Nat)=>[(2,.optr 2 g.1 0 0),(3,.optr 3 g.2.1 0 0),(4,.optr 4 g.2.2.1 0 0),(5,.optr 5 g.2.2.2.1 0 0),(6,Nx s.2)]) (O:=λs g=>[(2,dV g.1 3 40 (NP f1)),(3,dV g.2.1 1 29 (.agg [.sl (l2.Out.map (eL NH))])),(4,dV g.2.2.1 1 29 (.agg [.nils])),(5,dV g.2.2.2.1 1 29 (.agg [.osl 13 g.2.2.2.2 0 s.1.length])),(13,dW g.2.2.2.2 1 30 (s.1.map (eL NH)))]) (body:=λs=>Ux f1 l2 s.1 s.2) (s:=(List.replicate (f1.Code.length : Int).toNat ([] : (List Int)),0)) (_,_,_,_,_) ((hE ⟨rfl,r,r,r,r,trivial⟩ ⟨rfl,r,r,r,r,trivial⟩))<|?_
 rintro ⟨x3,k4⟩ ⟨v2x1,v3x1,v4x1,v5x1,v13x1⟩ nn
 try dsimp only
 unfold Ux
 refine A 10 ?_
 refine cD r ?_ ?_
 ·refine A 2 ?_
  refine bC (E:=λ(_s : (List (List Int))) (g : Nat × Nat × Nat × Nat × Nat)=>[(2,.optr 2 g.1 0 0),(3,.optr 3 g.2.1 0 0),(4,.optr 4 g.2.2.1 0 0),(5,.optr 5 g.2.2.2.1 0 0),(6,Nx k4)]) (O:=λs g=>[(2,dV g.1 3 40 (NP f1)),(3,dV g.2.1 1 29 (.agg [.sl (l2.Out.map (eL NH))])),(4,dV g.2.2.1 1 29 (.agg [.nils])),(5,dV g.2.2.2.1 1 29 (.agg [.osl 13 g.2.2.2.2 0 s.length])),(13,dW g.2.2.2.2 1 30 (s.map (eL NH)))]) (j:=λs=>Aar k4 s) ?_ ?_
  ·refine A 4 ?_
   refine bD λr6 hr6=>?_
   refine A 10 ?_
   refine lP (E:=λ(s : (List (List Int)) × Int) (g : Nat × Nat × Nat × Nat × Nat × Nat)=>[(2,.optr 2 g.1 0 0),(3,.optr 3 g.2.1 0 0),(4,.optr 4 g.2.2.1 0 0),(5,.optr 5 g.2.2.2.1 0 0),(6,Nx k4),(7,.osl 7 g.2.2.2.2.1 0 r6.length),(8,Nx s.2)]) (O:=λs g=>[(2,dV g.1 3 40 (NP f1)),(3,dV g.2.1 1 29 (.agg [.sl (l2.Out.map (eL NH))])),(4,dV g.2.2.1 1 29 (.agg [.nils])),(5,dV g.2.2.2.1 1 29 (.agg [.osl 13 g.2.2.2.2.2 0 s.1.length])),(7,dW g.2.2.2.2.1 1 3 (r6.map NH)),(13,dW g.2.2.2.2.2 1 30 (s.1.map (eL NH)))]) (body:=λs=>Uy r6 k4 f1 l2 s.1 s.2) (s:=(x3,0)) (_,_,_,_,_,_) ((hE ⟨rfl,r,r,r,r,r,r,trivial⟩ ⟨rfl,r,r,r,r,r,trivial⟩))<|?_
   rintro ⟨x7,i8⟩ ⟨v2x2,v3x2,v4x2,v5x2,v7x2,v13x2⟩ nn
   try dsimp only
   unfold Uy
   refine A 9 ?_
   refine cD r ?_ ?_
   ·refine A 9 ?_
    refine bD λnext_e9 hnext_e9=>?_
    refine A 12 ?_
    refine bD λx_e10 hx_e10=>?_
    refine A 4 ?_
    refine bD λx_x11 hx_x11=>?_
    refine A 5 ?_
    refine bD λx_x12 hx_x12=>?_
    refine A 2 ?_
    refine bD λr13 hr13=>?_
    refine A 1 ?_
    refine bD λr14 hr14=>?_
    refine A 2 ?_
    refine bD λx_o15 hx_o15=>sE (l:=x7) (en:=(eL NH)) (q':=r14) r r r r r r r (by simp) hx_o15 r r r (by simp [Pl,cells,eL]) r<|?_
    refine A 8 ?_
    exact xL (s:=(x7.set k4.toNat r14,i64.wrap (i8 + 1))) (_,_,_,_,_,_) ((hE ⟨rfl,r,r,r,r,r,r,trivial⟩ ⟨rfl,r,r,(Eq.trans (b:=dV _ 1 29 (.agg [.osl 13 _ 0 x7.length])) r (by simp)),r,r,trivial⟩))
   ·exact B
  ·rintro x5 ⟨v2x3,v3x3,v4x3,v5x3,v13x3⟩ nn
   try dsimp only
   unfold Aar
   exact B
 ·refine A 12 ?_
  refine Uz (b:=(NQ.mk x3)) r ?_ r r ?_ (by first | rfl | (simp only [Nw]; rfl) | (simp only [NA]; rfl) | (simp only [Nw,NA]; rfl) | simp [AhK,PO])
  all_goals first|(simp;done)|(simp;omega)|rfl|(simp [OK,OP];done)

end
end Go.Proofs.YtpagjjmondojpaaGreatDoor
