/-
  Programs on typed data, and the proofs that the code does what they say; written by a program (dx.py).
-/
import Derived.Test.YtpagjjmondojpaaGreatDoorProg
import Derived.Test.YtpagjjmondojpaaGreatDoorDd
import Derived.KernelRfl
import Derived.Test.YtpagjjmondojpaaGreatDoorDxP
import Derived.Test.YtpagjjmondojpaaGreatDoorDxF4
import Derived.Test.YtpagjjmondojpaaGreatDoorDxF5
namespace Go.Proofs.YtpagjjmondojpaaGreatDoor
open Go Go.Dw Go.Proofs
open Go.IntKind (i64 u64)
set_option maxRecDepth 100000
set_option maxHeartbeats 40000000
open Go.Dw renaming PI -> bD,OV -> cK,Acu -> bS,Acs -> aP,TH -> sE,Aae -> iO,AaT -> cD,Wq -> hE,Acw -> lP,Xc -> sC,rf -> r
noncomputable section
def AgW (_b : NI) : D:=.tup []
def AgV (b : NI) : List D:=[Pp b]
def Uq : Dw.Spec:=NJ [(0,(27,117))] .val QS QQ (λa=>Qj a.1 a.2) AgW AgV
theorem WH : NG Tryz.prog 67 Uq:=by
 refine fn2 2 (Od) Tryz.func67<|?_
 rintro ⟨m1,kind2⟩
 unfold Qj
 refine A 7 ?_
 refine PM (i:=0) (es':=[.agg ([.sl (m1.p.Funcs.map NP)] ++ (cells (Oq m1.regs) ++ [.sl (m1.acts.map NR),.sl (m1.input.map Pt),Nx m1.deep,.bool m1.done,Nx kind2,Ob m1.out.Code,Ob m1.out.Result.Lo,Ob m1.out.Result.Hi,.sl (m1.out.Trace.map Oe),Nx m1.out.Steps]))]) r r r r r r r (by first | trivial | (simp; done) | (simp; omega)) r r r r r r<|?_
 refine A 2 ?_
 refine PM (i:=0) (es':=[.agg ([.sl (m1.p.Funcs.map NP)] ++ (cells (Oq m1.regs) ++ [.sl (m1.acts.map NR),.sl (m1.input.map Pt),Nx m1.deep,.bool true,Nx kind2,Ob m1.out.Code,Ob m1.out.Result.Lo,Ob m1.out.Result.Hi,.sl (m1.out.Trace.map Oe),Nx m1.out.Steps]))]) r r r r r r r (by first | trivial | (simp; done) | (simp; omega)) r r r r r r<|?_
 exact B

def SL (a : NI × NL) : List D:=[Pp a.1,Pv a.2]
def SK (ds : List D) : NI × NL:=(TV (ds.getD 0 .top),XC (ds.getD 1 .top))
theorem Aft (a : NI × NL) : SK (SL a) = a:=by simp [SK,SL]
instance : Ol SL SK:=⟨Aft⟩
def AfY (b : NF × NI) : D:=Oe b.1
def AfX (b : NF × NI) : List D:=[Pp b.2]
def Aby : Dw.Spec:=NJ [(0,(27,117))] .val SL SK (λa=>PD a.1 a.2) AfY AfX
theorem Afu : NG Tryz.prog 123 Aby:=by
 refine fn2 2 (NO (l:=[(67,Uq)]) (by simp [WH])) Tryz.func123<|?_
 intro a
 unfold PD
 exact B

def RO (a : NF × Int) : List D:=[Oe a.1,Nx a.2]
def RN (ds : List D) : NF × Int:=(Ta (ds.getD 0 .top),uI (ds.getD 1 .top))
theorem AkX (a : NF × Int) : RN (RO a) = a:=by simp [RN,RO,uI]
instance : Ol RO RN:=⟨AkX⟩
def Amd (b : (List Int)) : D:=.sl (b.map eU8)
def Agn : Dw.Spec:=NJ [] (.row 1 5) RO RN (λa=>ZQ a.1 a.2) Amd noE
theorem AkY : NG Tryz.prog 143 Agn:=by
 refine fn2 2 (NO (l:=[(128,AdS)]) (by simp [Agp])) Tryz.func143<|?_
 rintro ⟨x1,size2⟩
 unfold ZQ
 refine A 18 ?_
 refine lP (E:=λ(s : (List Int) × Int) (g : Nat × Nat)=>[(1,Nx size2),(2,.optr 2 g.1 0 0),(5,.osl 5 g.2 0 s.1.length),(6,Nx s.2)]) (O:=λs g=>[(2,dV g.1 2 57 (.agg [Ob x1.Lo,Ob x1.Hi])),(5,dW g.2 1 5 (s.1.map eU8))]) (body:=λs=>YK size2 x1 s.1 s.2) (s:=(([] : List Int),0)) (_,_) ((hE ⟨rfl,r,r,r,trivial⟩ ⟨rfl,r,trivial⟩))<|?_
 rintro ⟨out3,k4⟩ ⟨v2x1,v5x1⟩ nn
 try dsimp only
 unfold YK
 refine sC (E:=λ(_s : Unit) (g : Nat × Nat)=>[(1,Nx size2),(2,.optr 2 g.1 0 0),(5,.osl 5 g.2 0 out3.length),(6,Nx k4),(10,Nx k4),(11,Nx size2),(12,.bool (decide (k4 < size2)))]) (O:=λ_ g=>[(2,dV g.1 2 57 (.agg [Ob x1.Lo,Ob x1.Hi])),(5,dW g.2 1 5 (out3.map eU8))]) (j:=λ_=>YL k4 out3 x1) ?_ ?_
 ·exact B
 ·rintro ⟨⟩ ⟨v2x2,v5x2⟩ nn
  try dsimp only
  unfold YL
  exact B

def AiB (b : NF) : D:=Oe b
def Ado : Dw.Spec:=NJ [] .ground US UR (λa=>UZ a) AiB noE
theorem Ahw : NG Tryz.prog 142 Ado:=by
 refine fn2 1 (Od) Tryz.func142<|?_
 intro b1
 unfold UZ
 refine A 17 ?_
 refine lP (E:=λ(s : Int × Int × Int) (g : Nat × Nat)=>[(0,.sl (b1.map eU8)),(2,.optr 2 g.1 0 0),(3,.optr 3 g.2 0 0),(4,Nx s.2.2)]) (O:=λs g=>[(2,dV g.1 2 57 (.agg [Ob 0,Ob 0])),(3,dV g.2 2 57 (.agg [Ob s.1,Ob s.2.1]))]) (body:=λs=>Va b1 s.1 s.2.1 s.2.2) (s:=(0,0,0)) (_,_) ((hE ⟨rfl,r,r,r,trivial⟩ ⟨rfl,r,trivial⟩))<|?_
 rintro ⟨x2,x3,k4⟩ ⟨v2x1,v3x1⟩ nn
 try dsimp only
 unfold Va
 refine sC (E:=λ(_s : Unit) (g : Nat × Nat)=>[(0,.sl (b1.map eU8)),(2,.optr 2 g.1 0 0),(3,.optr 3 g.2 0 0),(4,Nx k4),(10,Nx k4),(11,.bool (decide (k4 < 16)))]) (O:=λ_ g=>[(2,dV g.1 2 57 (.agg [Ob 0,Ob 0])),(3,dV g.2 2 57 (.agg [Ob x2,Ob x3]))]) (j:=λ_=>Vb k4 b1 x2 x3) ?_ ?_
 ·exact B
 ·rintro ⟨⟩ ⟨v2x2,v3x2⟩ nn
  try dsimp only
  unfold Vb
  exact B

def Ajv (b : NF) : D:=Oe b
def AdT : Dw.Spec:=NJ [] .ground RO RN (λa=>TN a.1 a.2) Ajv noE
theorem AiC : NG Tryz.prog 124 AdT:=by
 refine fn2 2 (NO (l:=[(143,Agn),(142,Ado)]) (by simp [AkY,Ahw])) Tryz.func124<|?_
 intro a
 unfold TN
 exact B

def RS (a : NI × NC) : List D:=[Pp a.1,Oo a.2]
def RR (ds : List D) : NI × NC:=(TV (ds.getD 0 .top),AbQ (ds.getD 1 .top))
theorem Aeq (a : NI × NC) : RR (RS a) = a:=by simp [RR,RS]
instance : Ol RS RR:=⟨Aeq⟩
def AeZ (b : Bool × NI) : D:=.bool b.1
def AeX (b : Bool × NI) : List D:=[Pp b.2]
def ZW : Dw.Spec:=NJ [(0,(27,117))] .val RS RR (λa=>Ov a.1 a.2) AeZ AeX
theorem Aes : NG Tryz.prog 93 ZW:=by
 refine fn2 2 (NO (l:=[(123,Aby),(124,AdT)]) (by simp [Afu,AiC])) Tryz.func93<|?_
 rintro ⟨m1,x2⟩
 unfold Ov
 refine A 24 ?_
 refine bD λx_x3 hx_x3=>?_
 refine A 15 ?_
 refine bD λx_x4 hx_x4=>?_
 refine A 6 ?_
 refine sC (E:=λ(_s : NI × (List NL) × (List NL)) (g : Nat)=>[(0,.optr 8192 0 0 0),(5,Nx (i64.wrap ((m1.acts.length : Int) - 1))),(6,.optr 6 g 0 0)]) (O:=λs g=>[(6,dV g 4 142 (.agg [Nx x_x3.f,Nx x_x3.at_,.sl (s.2.1.map Pv),.sl (s.2.2.map Pv)])),(8192,dV 0 27 117 (Pp s.1))]) (j:=λs=>Ow m1 x_x3 s.1 s.2.1 s.2.2) ?_ ?_
 ·refine A 13 ?_
  refine cD r ?_ ?_
  ·refine A 7 ?_
   refine bD λx_x8 hx_x8=>?_
   refine A 2 ?_
   refine bD λr9 hr9=>?_
   refine A 14 ?_
   refine cD r ?_ ?_
   ·refine A 7 ?_
    refine cK λhq=>OZ r r r hq<|bD λo10 ho10=>AhO (q:=o10) (q':=r9.1) (l:=r9.2.regs.toList) (c:=λq=>cells (Oe q)) (j:=x2.A.toNat) (z':=.agg ([.sl (r9.2.p.Funcs.map NP)] ++ (cells (Oq (r9.2.regs.set x2.A.toNat r9.1)) ++ [.sl (r9.2.acts.map NR),.sl (r9.2.input.map Pt),Nx r9.2.deep,.bool r9.2.done,Nx r9.2.out.Kind,Ob r9.2.out.Code,Ob r9.2.out.Result.Lo,Ob r9.2.out.Result.Hi,.sl (r9.2.out.Trace.map Oe),Nx r9.2.out.Steps]))) 1 17 (λ_=>r) r r r r r r r r r ho10 r (congrArg (λl : List _=>D.agg (List.take 1 _ ++ (l.flatMap _ ++ List.drop 17 _))) (QF r9.2.regs x2.A.toNat r9.1).symm) r r (by first | trivial | (simp; done) | (simp; omega))<|?_
    exact B
   ·exact B
  ·refine A 6 ?_
   refine cD r ?_ ?_
   ·refine A 19 ?_
    refine cK λhq=>OZ r r r hq<|bD λe11 he11=>TD (q:=e11) (l:=m1.regs.toList) (c:=λq=>cells (Oe q)) (j:=x2.B.toNat) 1 17 (λ_=>r) r r r r r r r he11 r<|?_
    refine A 4 ?_
    refine bD λx_x12 hx_x12=>?_
    refine A 3 ?_
    refine bD λr13 hr13=>?_
    refine A 3 ?_
    refine bD λx_o14 hx_o14=>sE (l:=([] : List NL) ++ x_x3.slots) (en:=Pv) (q':=(NL.mk r13 true)) r r r r r r r (by simp) hx_o14 r r r r r<|?_
    refine A 2 ?_
    exact wf [62] λ_=>B
   ·refine A 6 ?_
    refine cD r ?_ ?_
    ·refine A 7 ?_
     refine bD λx_x15 hx_x15=>?_
     refine A 2 ?_
     refine bD λr16 hr16=>?_
     refine A 14 ?_
     refine cD r ?_ ?_
     ·refine A 17 ?_
      refine bD λx_o17 hx_o17=>sE (l:=([] : List NL) ++ x_x3.slots) (en:=Pv) (q':=(NL.mk r16.1 true)) r r r r r r r (by simp) hx_o17 r r r r r<|?_
      refine A 2 ?_
      exact wf [102] λ_=>B
     ·exact B
    ·refine A 6 ?_
     refine cD r ?_ ?_
     ·refine A 19 ?_
      refine cK λhq=>OZ r r r hq<|bD λe18 he18=>TD (q:=e18) (l:=m1.regs.toList) (c:=λq=>cells (Oe q)) (j:=x2.B.toNat) 1 17 (λ_=>r) r r r r r r r he18 r<|?_
      refine A 2 ?_
      refine bD λx_o19 hx_o19=>sE (l:=([] : List NL) ++ x_x3.args) (en:=Pv) (q':=(NL.mk e18 true)) r r r r r r r (by simp) hx_o19 r r r r r<|?_
      refine A 2 ?_
      exact wf [115] λ_=>B
     ·refine A 6 ?_
      refine cD r ?_ ?_
      ·refine A 9 ?_
       refine bD λx_x20 hx_x20=>?_
       refine A 5 ?_
       refine bD λx_x21 hx_x21=>?_
       refine A 2 ?_
       refine bD λr22 hr22=>?_
       refine A 14 ?_
       refine cD r ?_ ?_
       ·refine A 7 ?_
        refine cK λhq=>OZ r r r hq<|bD λo23 ho23=>AhO (q:=o23) (q':=r22.1) (l:=r22.2.regs.toList) (c:=λq=>cells (Oe q)) (j:=x2.A.toNat) (z':=.agg ([.sl (r22.2.p.Funcs.map NP)] ++ (cells (Oq (r22.2.regs.set x2.A.toNat r22.1)) ++ [.sl (r22.2.acts.map NR),.sl (r22.2.input.map Pt),Nx r22.2.deep,.bool r22.2.done,Nx r22.2.out.Kind,Ob r22.2.out.Code,Ob r22.2.out.Result.Lo,Ob r22.2.out.Result.Hi,.sl (r22.2.out.Trace.map Oe),Nx r22.2.out.Steps]))) 1 17 (λ_=>r) r r r r r r r r r ho23 r (congrArg (λl : List _=>D.agg (List.take 1 _ ++ (l.flatMap _ ++ List.drop 17 _))) (QF r22.2.regs x2.A.toNat r22.1).symm) r r (by first | trivial | (simp; done) | (simp; omega))<|?_
        exact B
       ·exact B
      ·exact B
 ·rintro ⟨m5,a6,a7⟩ v6x1 nn
  try dsimp only
  unfold Ow
  refine A 16 ?_
  refine bD λl_o24 hl_o24=>sE (l:=([] : List NB) ++ m5.acts) (en:=NR) (q':=(NB.mk x_x3.f x_x3.at_ a6 a7)) r r r r r r r (by simp) hl_o24 r r r r r<|?_
  refine A 8 ?_
  refine ZD (l:=(([] : List NB) ++ m5.acts).set ((i64.wrap ((m1.acts.length : Int) - 1)).toNat) (NB.mk x_x3.f x_x3.at_ a6 a7)) (en:=NR) (z':=.agg ([.sl (m5.p.Funcs.map NP)] ++ (cells (Oq m5.regs) ++ [.row 4 142 (((([] : List NB) ++ m5.acts).set ((i64.wrap ((m1.acts.length : Int) - 1)).toNat) (NB.mk x_x3.f x_x3.at_ a6 a7)).map NR),.sl (m5.input.map Pt),Nx m5.deep,.bool m5.done,Nx m5.out.Kind,Ob m5.out.Code,Ob m5.out.Result.Lo,Ob m5.out.Result.Hi,.sl (m5.out.Trace.map Oe),Nx m5.out.Steps]))) r r r (by simp) r r (λ_=>r) r r<|?_
  refine A 1 ?_
  refine QA (E:=[]) (O:=[(8192,dV 0 27 117 (.agg ([.sl (m5.p.Funcs.map NP)] ++ (cells (Oq m5.regs) ++ [.sl (((([] : List NB) ++ m5.acts).set ((i64.wrap ((m1.acts.length : Int) - 1)).toNat) (NB.mk x_x3.f x_x3.at_ a6 a7)).map NR),.sl (m5.input.map Pt),Nx m5.deep,.bool m5.done,Nx m5.out.Kind,Ob m5.out.Code,Ob m5.out.Result.Lo,Ob m5.out.Result.Hi,.sl (m5.out.Trace.map Oe),Nx m5.out.Steps]))))]) ((Aex (g:=8192) r (AhT (by repeat' first | exact FrL.nil | apply FrL.row (AcO λ_=>rfl) | apply FrL.same)) (hE trivial ⟨rfl,trivial⟩))) λnn=>?_
  exact B

def QN (a : NF × NF) : List D:=[Oe a.1,Oe a.2]
def QM (ds : List D) : NF × NF:=(Ta (ds.getD 0 .top),Ta (ds.getD 1 .top))
theorem Amg (a : NF × NF) : QM (QN a) = a:=by simp [QM,QN]
instance : Ol QN QM:=⟨Amg⟩
def AnP (b : NF) : D:=Oe b
def Ahy : Dw.Spec:=NJ [] .ground QN QM (λa=>Adv a.1 a.2) AnP noE
theorem Amh : NG Tryz.prog 125 Ahy:=by
 refine fn2 2 (Od) Tryz.func125<|?_
 intro a
 unfold Adv
 exact B

def Wa (a : NF) : List D:=[Oe a]
def VZ (ds : List D) : NF:=Ta (ds.getD 0 .top)
theorem Ame (a : NF) : VZ (Wa a) = a:=by simp [VZ,Wa]
instance : Ol Wa VZ:=⟨Ame⟩
def AnM (b : NF) : D:=Oe b
def Ahx : Dw.Spec:=NJ [] .ground Wa VZ (λa=>Adu a) AnM noE
theorem Amf : NG Tryz.prog 126 Ahx:=by
 refine fn2 1 (Od) Tryz.func126<|?_
 intro a
 unfold Adu
 exact B

def AoR (b : Int) : D:=Ob b
def AcA : Dw.Spec:=NJ [] .ground RO RN (λa=>Ww a.1 a.2) AoR noE
theorem AdU : NG Tryz.prog 154 AcA:=by
 refine fn2 2 (Od) Tryz.func154<|?_
 intro a
 unfold Ww
 exact B

def AoS (b : NF) : D:=Oe b
def AeV : Dw.Spec:=NJ [] .ground RO RN (λa=>AaU a.1 a.2) AoS noE
theorem AhA : NG Tryz.prog 155 AeV:=by
 refine fn2 2 (Od) Tryz.func155<|?_
 intro a
 unfold AaU
 exact B

def AoN (b : NF) : D:=Oe b
def Acz : Dw.Spec:=NJ [] .ground QN QM (λa=>Wv a.1 a.2) AoN noE
theorem AdQ : NG Tryz.prog 144 Acz:=by
 refine fn2 2 (NO (l:=[(154,AcA),(155,AeV)]) (by simp [AdU,AhA])) Tryz.func144<|?_
 rintro ⟨x1,y2⟩
 unfold Wv
 refine A 24 ?_
 refine lP (E:=λ(s : Int × Int × Int × Int) (g : Nat × Nat × Nat × Nat)=>[(2,.optr 2 g.1 0 0),(3,.optr 3 g.2.1 0 0),(4,.optr 4 g.2.2.1 0 0),(5,.optr 5 g.2.2.2 0 0),(6,Ob s.2.2.1),(7,Nx s.2.2.2)]) (O:=λs g=>[(2,dV g.1 2 57 (.agg [Ob x1.Lo,Ob x1.Hi])),(3,dV g.2.1 2 57 (.agg [Ob y2.Lo,Ob y2.Hi])),(4,dV g.2.2.1 2 57 (.agg [Ob 0,Ob 0])),(5,dV g.2.2.2 2 57 (.agg [Ob s.1,Ob s.2.1]))]) (body:=λs=>Abo x1 y2 s.1 s.2.1 s.2.2.1 s.2.2.2) (s:=(0,0,0,0)) (_,_,_,_) ((hE ⟨rfl,r,r,r,r,r,trivial⟩ ⟨rfl,r,r,r,trivial⟩))<|?_
 rintro ⟨out3,out4,carry5,k6⟩ ⟨v2x1,v3x1,v4x1,v5x1⟩ nn
 try dsimp only
 unfold Abo
 exact B

def AoQ (b : NF) : D:=Oe b
def AeU : Dw.Spec:=NJ [] .ground QN QM (λa=>AaS a.1 a.2) AoQ noE
theorem Ahz : NG Tryz.prog 145 AeU:=by
 refine fn2 2 (NO (l:=[(144,Acz)]) (by simp [AdQ])) Tryz.func145<|?_
 intro a
 unfold AaS
 exact B

def Amj (b : NF) : D:=Oe b
def Adb : Dw.Spec:=NJ [] .ground Wa VZ (λa=>Xu a) Amj noE
theorem Afp : NG Tryz.prog 156 Adb:=by
 refine fn2 1 (Od) Tryz.func156<|?_
 intro a
 unfold Xu
 exact B

def AoP (b : NF) : D:=Oe b
def AiY : Dw.Spec:=NJ [] .ground QN QM (λa=>AcR a.1 a.2) AoP noE
theorem AnO : NG Tryz.prog 146 AiY:=by
 refine fn2 2 (NO (l:=[(156,Adb),(154,AcA),(144,Acz)]) (by simp [Afp,AdU,AdQ])) Tryz.func146<|?_
 rintro ⟨x1,y2⟩
 unfold AcR
 refine A 19 ?_
 refine lP (E:=λ(s : Int × Int × Int) (g : Nat × Nat × Nat × Nat)=>[(2,.optr 2 g.1 0 0),(3,.optr 3 g.2.1 0 0),(4,.optr 4 g.2.2.1 0 0),(5,.optr 5 g.2.2.2 0 0),(6,Nx s.2.2)]) (O:=λs g=>[(2,dV g.1 2 57 (.agg [Ob x1.Lo,Ob x1.Hi])),(3,dV g.2.1 2 57 (.agg [Ob y2.Lo,Ob y2.Hi])),(4,dV g.2.2.1 2 57 (.agg [Ob 0,Ob 0])),(5,dV g.2.2.2 2 57 (.agg [Ob s.1,Ob s.2.1]))]) (body:=λs=>Abq y2 x1 s.1 s.2.1 s.2.2) (s:=(0,0,127)) (_,_,_,_) ((hE ⟨rfl,r,r,r,r,trivial⟩ ⟨rfl,r,r,r,trivial⟩))<|?_
 rintro ⟨out3,out4,k5⟩ ⟨v2x1,v3x1,v4x1,v5x1⟩ nn
 try dsimp only
 unfold Abq
 exact B

def AnN (b : Bool) : D:=.bool b
def AdR : Dw.Spec:=NJ [] .ground QN QM (λa=>YM a.1 a.2) AnN noE
theorem Ago : NG Tryz.prog 149 AdR:=by
 refine fn2 2 (Od) Tryz.func149<|?_
 intro a
 unfold YM
 exact B

def AoO (b : NF) : D:=Oe b
def AiX : Dw.Spec:=NJ [] .ground QN QM (λa=>AaR a.1 a.2) AoO noE
theorem AnL : NG Tryz.prog 147 AiX:=by
 refine fn2 2 (NO (l:=[(156,Adb),(154,AcA),(149,AdR),(145,AeU),(155,AeV)]) (by simp [Afp,AdU,Ago,Ahz,AhA])) Tryz.func147<|?_
 rintro ⟨x1,y2⟩
 unfold AaR
 refine A 20 ?_
 refine lP (E:=λ(s : Int × Int × Int × Int × Int) (g : Nat × Nat × Nat × Nat × Nat)=>[(2,.optr 2 g.1 0 0),(3,.optr 3 g.2.1 0 0),(4,.optr 4 g.2.2.1 0 0),(5,.optr 5 g.2.2.2.1 0 0),(6,.optr 6 g.2.2.2.2 0 0),(7,Nx s.2.2.2.2)]) (O:=λs g=>[(2,dV g.1 2 57 (.agg [Ob x1.Lo,Ob x1.Hi])),(3,dV g.2.1 2 57 (.agg [Ob y2.Lo,Ob y2.Hi])),(4,dV g.2.2.1 2 57 (.agg [Ob 0,Ob 0])),(5,dV g.2.2.2.1 2 57 (.agg [Ob s.1,Ob s.2.1])),(6,dV g.2.2.2.2 2 57 (.agg [Ob s.2.2.1,Ob s.2.2.2.1]))]) (body:=λs=>Abp x1 y2 s.1 s.2.1 s.2.2.1 s.2.2.2.1 s.2.2.2.2) (s:=(0,0,0,0,127)) (_,_,_,_,_) ((hE ⟨rfl,r,r,r,r,r,trivial⟩ ⟨rfl,r,r,r,r,trivial⟩))<|?_
 rintro ⟨out3,out4,rest5,rest6,k7⟩ ⟨v2x1,v3x1,v4x1,v5x1,v6x1⟩ nn
 try dsimp only
 unfold Abp
 refine A 7 ?_
 refine cD r ?_ ?_
 ·refine A 16 ?_
  refine bD λr8 hr8=>?_
  refine A 10 ?_
  refine bD λr9 hr9=>?_
  refine A 6 ?_
  refine sC (E:=λ(s : Bool) (g : Nat × Nat × Nat × Nat × Nat)=>[(2,.optr 2 g.1 0 0),(3,.optr 3 g.2.1 0 0),(4,.optr 4 g.2.2.1 0 0),(5,.optr 5 g.2.2.2.1 0 0),(6,.optr 6 g.2.2.2.2 0 0),(7,Nx k7),(32,.bool s)]) (O:=λ_ g=>[(2,dV g.1 2 57 (.agg [Ob x1.Lo,Ob x1.Hi])),(3,dV g.2.1 2 57 (.agg [Ob y2.Lo,Ob y2.Hi])),(4,dV g.2.2.1 2 57 (.agg [Ob 0,Ob 0])),(5,dV g.2.2.2.1 2 57 (.agg [Ob out3,Ob out4])),(6,dV g.2.2.2.2 2 57 (.agg [Ob (u64.wrap ((BitVec.ofInt u64.bits r8.Lo ||| BitVec.ofInt u64.bits r9).toNat)),Ob r8.Hi]))]) (j:=λs=>VY r8 r9 y2 out3 out4 k7 s) ?_ ?_
  ·exact B
  ·rintro x10 ⟨v2x2,v3x2,v4x2,v5x2,v6x2⟩ nn
   try dsimp only
   unfold VY
   exact B
 ·exact B

def XK (a : Bool) : List D:=[.bool a]
def XJ (ds : List D) : Bool:=uBo (ds.getD 0 .top)
theorem AkZ (a : Bool) : XJ (XK a) = a:=by simp [XJ,XK,uBo]
instance : Ol XK XJ:=⟨AkZ⟩
def Ami (b : NF) : D:=Oe b
def Agq : Dw.Spec:=NJ [] .ground XK XJ (λa=>Xt a) Ami noE
theorem Ala : NG Tryz.prog 148 Agq:=by
 refine fn2 1 (Od) Tryz.func148<|?_
 intro a
 unfold Xt
 exact B

def XI (a : Int × NF × NF) : List D:=[Nx a.1,Oe a.2.1,Oe a.2.2]
def XH (ds : List D) : Int × NF × NF:=(uI (ds.getD 0 .top),Ta (ds.getD 1 .top),Ta (ds.getD 2 .top))
theorem AkV (a : Int × NF × NF) : XH (XI a) = a:=by simp [XH,XI,uI]
instance : Ol XI XH:=⟨AkV⟩
def Amc (b : NF × Bool) : D:=.tup [Oe b.1,.bool b.2]
def Agm : Dw.Spec:=NJ [] .val XI XH (λa=>ZP a.1 a.2.1 a.2.2) Amc noE
theorem AkW : NG Tryz.prog 127 Agm:=by
 refine fn2 3 (NO (l:=[(144,Acz),(145,AeU),(146,AiY),(147,AiX),(149,AdR),(148,Agq)]) (by simp [AdQ,Ahz,AnO,AnL,Ago,Ala])) Tryz.func127<|?_
 intro a
 unfold ZP
 exact B

def XO (a : NC × OB × (List Int) × (List NF)) : List D:=[Oo a.1,Oq a.2.1,.sl (a.2.2.1.map Pt),.sl (a.2.2.2.map Oe)]
def XN (ds : List D) : NC × OB × (List Int) × (List NF):=(AbQ (ds.getD 0 .top),Agf (ds.getD 1 .top),(uL uI) (ds.getD 2 .top),(uL Ta) (ds.getD 3 .top))
theorem Alk (a : NC × OB × (List Int) × (List NF)) : XN (XO a) = a:=by simp [XN,XO,OY (u:=uI) (en:=Pt) (λ_=>rfl),OY (u:=Ta) (en:=Oe) Agg]
instance : Ol XO XN:=⟨Alk⟩
def Agw (b : OB × (List Int) × (List NF) × Bool) : D:=.tup [Oq b.1,.sl (b.2.1.map Pt),.sl (b.2.2.1.map Oe),.bool b.2.2.2]
def Agx : Dw.Spec:=NJ [] .val XO XN (λa=>Xy a.1 a.2.1 a.2.2.1 a.2.2.2) Agw noE
theorem Alm : NG Tryz.prog 94 Agx:=by
 refine fn2 4 (NO (l:=[(125,Ahy),(126,Ahx),(127,Agm)]) (by simp [Amh,Amf,AkW])) Tryz.func94<|?_
 rintro ⟨x1,r2,input3,trace4⟩
 unfold Xy
 refine A 24 ?_
 refine cD r ?_ ?_
 ·refine A 6 ?_
  refine cK λhq=>OZ r r r hq<|bD λo5 ho5=>Xb (q:=o5) (q':=(NF.mk x1.Imm 0)) (l:=r2.toList) (c:=λq=>cells (Oe q)) (j:=x1.A.toNat) (z':=Oq (r2.set x1.A.toNat (NF.mk x1.Imm 0))) 0 16 (λ_=>r) r r r r r r r r r ho5 r (congrArg (λl : List _=>D.agg (List.take 0 _ ++ (l.flatMap _ ++ List.drop 16 _))) (QF r2 x1.A.toNat (NF.mk x1.Imm 0)).symm)<|?_
  exact B
 ·refine A 6 ?_
  refine cD r ?_ ?_
  ·refine A 5 ?_
   refine cK λhq=>OZ r r r hq<|bD λe6 he6=>TD (q:=e6) (l:=r2.toList) (c:=λq=>cells (Oe q)) (j:=x1.B.toNat) 0 16 (λ_=>r) r r r r r r r he6 r<|cK λhq=>OZ r r r hq<|bD λo7 ho7=>Xb (q:=o7) (q':=e6) (l:=r2.toList) (c:=λq=>cells (Oe q)) (j:=x1.A.toNat) (z':=Oq (r2.set x1.A.toNat e6)) 0 16 (λ_=>r) r r r r r r r r r ho7 r (congrArg (λl : List _=>D.agg (List.take 0 _ ++ (l.flatMap _ ++ List.drop 16 _))) (QF r2 x1.A.toNat e6).symm)<|?_
   exact B
  ·refine A 6 ?_
   refine cD r ?_ ?_
   ·refine A 5 ?_
    refine cK λhq=>OZ r r r hq<|bD λe8 he8=>TD (q:=e8) (l:=r2.toList) (c:=λq=>cells (Oe q)) (j:=x1.B.toNat) 0 16 (λ_=>r) r r r r r r r he8 r<|?_
    refine A 2 ?_
    refine cK λhq=>OZ r r r hq<|bD λe9 he9=>TD (q:=e9) (l:=r2.toList) (c:=λq=>cells (Oe q)) (j:=x1.C.toNat) 0 16 (λ_=>r) r r r r r r r he9 r<|bD λr10 hr10=>?_
    refine A 1 ?_
    refine cK λhq=>OZ r r r hq<|bD λo11 ho11=>Xb (q:=o11) (q':=r10) (l:=r2.toList) (c:=λq=>cells (Oe q)) (j:=x1.A.toNat) (z':=Oq (r2.set x1.A.toNat r10)) 0 16 (λ_=>r) r r r r r r r r r ho11 r (congrArg (λl : List _=>D.agg (List.take 0 _ ++ (l.flatMap _ ++ List.drop 16 _))) (QF r2 x1.A.toNat r10).symm)<|?_
    exact B
   ·refine A 6 ?_
    refine cD r ?_ ?_
    ·refine A 5 ?_
     refine cK λhq=>OZ r r r hq<|bD λe12 he12=>TD (q:=e12) (l:=r2.toList) (c:=λq=>cells (Oe q)) (j:=x1.B.toNat) 0 16 (λ_=>r) r r r r r r r he12 r<|bD λr13 hr13=>?_
     refine A 1 ?_
     refine cK λhq=>OZ r r r hq<|bD λo14 ho14=>Xb (q:=o14) (q':=r13) (l:=r2.toList) (c:=λq=>cells (Oe q)) (j:=x1.A.toNat) (z':=Oq (r2.set x1.A.toNat r13)) 0 16 (λ_=>r) r r r r r r r r r ho14 r (congrArg (λl : List _=>D.agg (List.take 0 _ ++ (l.flatMap _ ++ List.drop 16 _))) (QF r2 x1.A.toNat r13).symm)<|?_
     exact B
    ·refine A 6 ?_
     refine cD r ?_ ?_
     ·refine A 5 ?_
      refine cK λhq=>OZ r r r hq<|bD λo15 ho15=>Xb (q:=o15) (q':=(NF.mk 0 0)) (l:=r2.toList) (c:=λq=>cells (Oe q)) (j:=x1.A.toNat) (z':=Oq (r2.set x1.A.toNat (NF.mk 0 0))) 0 16 (λ_=>r) r r r r r r r r r ho15 r (congrArg (λl : List _=>D.agg (List.take 0 _ ++ (l.flatMap _ ++ List.drop 16 _))) (QF r2 x1.A.toNat (NF.mk 0 0)).symm)<|?_
      refine A 9 ?_
      refine cD r ?_ ?_
      ·refine A 5 ?_
       refine bD λx_x16 hx_x16=>?_
       refine A 3 ?_
       refine cK λhq=>OZ r r r hq<|bD λo17 ho17=>Xb (q:=o17) (q':=(NF.mk x_x16 0)) (l:=(r2.set x1.A.toNat (NF.mk 0 0)).toList) (c:=λq=>cells (Oe q)) (j:=x1.A.toNat) (z':=Oq ((r2.set x1.A.toNat (NF.mk 0 0)).set x1.A.toNat (NF.mk x_x16 0))) 0 16 (λ_=>r) r r r r r r r r r ho17 r (congrArg (λl : List _=>D.agg (List.take 0 _ ++ (l.flatMap _ ++ List.drop 16 _))) (QF (r2.set x1.A.toNat (NF.mk 0 0)) x1.A.toNat (NF.mk x_x16 0)).symm)<|?_
       exact B
      ·exact B
     ·refine A 6 ?_
      refine cD r ?_ ?_
      ·refine A 2 ?_
       refine cK λhq=>aP (([] : List NF)) (trace4) Oe r r r r r r r (by simp) r r r (by simp) r (λ_=>r) r hq<|?_
       refine A 2 ?_
       refine cK λhq=>OZ r r r hq<|bD λe18 he18=>TD (q:=e18) (l:=r2.toList) (c:=λq=>cells (Oe q)) (j:=x1.A.toNat) 0 16 (λ_=>r) r r r r r r r he18 r<|bS ([e18] : List NF) Oe r r r (by simp) r r r<|cK λhq=>aP (([] : List NF) ++ trace4) (([e18] : List NF)) Oe r r r r r r r (by simp) (QW _ _ r) r r (by simp) (Qz _ _ r) (λ_=>r) r hq<|?_
       refine A 16 ?_
       refine Rb (b:=(r2,input3,(([] : List NF) ++ trace4) ++ ([e18] : List NF),false)) r ?_ r r ?_ (by first | rfl | (simp only [Nw]; rfl) | (simp only [NA]; rfl) | (simp only [Nw,NA]; rfl) | simp [Agw,Oq]) (by decide)
       all_goals first|(simp;done)|(simp;omega)|rfl|(simp [OK,OP];done)
      ·refine A 6 ?_
       refine cK λhq=>OZ r r r hq<|bD λe19 he19=>TD (q:=e19) (l:=r2.toList) (c:=λq=>cells (Oe q)) (j:=x1.B.toNat) 0 16 (λ_=>r) r r r r r r r he19 r<|?_
       refine A 2 ?_
       refine cK λhq=>OZ r r r hq<|bD λe20 he20=>TD (q:=e20) (l:=r2.toList) (c:=λq=>cells (Oe q)) (j:=x1.C.toNat) 0 16 (λ_=>r) r r r r r r r he20 r<|bD λr21 hr21=>?_
       refine A 16 ?_
       refine cD r ?_ ?_
       ·exact B
       ·refine A 6 ?_
        refine cK λhq=>OZ r r r hq<|bD λo22 ho22=>Xb (q:=o22) (q':=r21.1) (l:=r2.toList) (c:=λq=>cells (Oe q)) (j:=x1.A.toNat) (z':=Oq (r2.set x1.A.toNat r21.1)) 0 16 (λ_=>r) r r r r r r r r r ho22 r (congrArg (λl : List _=>D.agg (List.take 0 _ ++ (l.flatMap _ ++ List.drop 16 _))) (QF r2 x1.A.toNat r21.1).symm)<|?_
        exact B

def SN (a : NI) : List D:=[Pp a]
def SM (ds : List D) : NI:=TV (ds.getD 0 .top)
theorem Afv (a : NI) : SM (SN a) = a:=by simp [SM,SN]
instance : Ol SN SM:=⟨Afv⟩
def Aga (_b : NI) : D:=.tup []
def AfZ (b : NI) : List D:=[Pp b]
def Abz : Dw.Spec:=NJ [(0,(27,117))] .val SN SM (λa=>NX a) Aga AfZ
theorem Afw : NG Tryz.prog 68 Abz:=by
 refine fn2 1 (NO (l:=[(66,Wh),(67,Uq),(93,ZW),(94,Agx)]) (by simp [ZV,WH,Aes,Alm])) Tryz.func68<|?_
 intro m1
 unfold NX
 refine A 17 ?_
 refine cK λhq=>aP (([] : List NB)) (m1.acts) NR r r r r r r r (by simp) r r r (by simp) r (λ_=>r) r hq<|?_
 refine A 7 ?_
 refine cK λhq=>iO (l:=([] : List NB) ++ m1.acts) (en:=NR) r r r r r hq<|bD λl_e2 hl_e2=>?_
 refine A 14 ?_
 refine bD λx_x3 hx_x3=>?_
 refine A 5 ?_
 refine bD λx_x4 hx_x4=>?_
 refine A 17 ?_
 refine PM (i:=0) (es':=[.agg ([.sl (m1.p.Funcs.map NP)] ++ (cells (Oq m1.regs) ++ [.sl (m1.acts.map NR),.sl (m1.input.map Pt),Nx m1.deep,.bool m1.done,Nx m1.out.Kind,Ob m1.out.Code,Ob m1.out.Result.Lo,Ob m1.out.Result.Hi,.sl (m1.out.Trace.map Oe),Nx (i64.wrap (m1.out.Steps + 1))]))]) r r r r r r r (by first | trivial | (simp; done) | (simp; omega)) r r r r r r<|?_
 refine A 11 ?_
 refine sC (E:=λ(_s : Int) (g : Nat × Nat × Nat)=>[(0,.optr 8192 0 0 0),(2,Nx (i64.wrap ((m1.acts.length : Int) - 1))),(3,.osl 3 g.1 0 ((([] : List NB) ++ m1.acts).length)),(4,.optr 4 g.2.1 0 0),(5,.optr 5 g.2.2 0 0)]) (O:=λs g=>[(3,dW g.1 4 142 ((([] : List NB) ++ m1.acts).map NR)),(4,dV g.2.1 4 142 (.agg [Nx l_e2.f,Nx s,.sl (l_e2.slots.map Pv),.sl (l_e2.args.map Pv)])),(5,dV g.2.2 5 69 (Oo x_x4)),(8192,dV 0 27 117 (.agg ([.sl (m1.p.Funcs.map NP)] ++ (cells (Oq m1.regs) ++ [.sl (m1.acts.map NR),.sl (m1.input.map Pt),Nx m1.deep,.bool m1.done,Nx m1.out.Kind,Ob m1.out.Code,Ob m1.out.Result.Lo,Ob m1.out.Result.Hi,.sl (m1.out.Trace.map Oe),Nx (i64.wrap (m1.out.Steps + 1))]))))]) (j:=λs=>OA m1 x_x4 l_e2 s) ?_ ?_
 ·refine A 13 ?_
  refine cD r ?_ ?_
  ·exact B
  ·refine A 6 ?_
   refine cD r ?_ ?_
   ·refine A 7 ?_
    refine cK λhq=>OZ r r r hq<|?_
    refine A 1 ?_
    refine bD λe6 he6=>AoZ (q:=e6) (l:=m1.regs.toList) (c:=λq=>cells (Oe q)) (j:=x_x4.A.toNat) 1 17 0 (λ_=>r) r r r r r r r r he6 r<|?_
    exact B
   ·exact B
 ·rintro a5 ⟨v3x1,v4x1,v5x1⟩ nn
  try dsimp only
  unfold OA
  refine A 5 ?_
  refine cK λhq=>iO (l:=([] : List NB) ++ m1.acts) (en:=NR) r r r r r hq<|bD λl_o7 hl_o7=>sE (l:=([] : List NB) ++ m1.acts) (en:=NR) (q':=(NB.mk l_e2.f a5 l_e2.slots l_e2.args)) r r r r r r r (by simp) hl_o7 r r r r r<|?_
  refine A 8 ?_
  refine ZD (l:=(([] : List NB) ++ m1.acts).set ((i64.wrap ((m1.acts.length : Int) - 1)).toNat) (NB.mk l_e2.f a5 l_e2.slots l_e2.args)) (en:=NR) (z':=.agg ([.sl (m1.p.Funcs.map NP)] ++ (cells (Oq m1.regs) ++ [.row 4 142 (((([] : List NB) ++ m1.acts).set ((i64.wrap ((m1.acts.length : Int) - 1)).toNat) (NB.mk l_e2.f a5 l_e2.slots l_e2.args)).map NR),.sl (m1.input.map Pt),Nx m1.deep,.bool m1.done,Nx m1.out.Kind,Ob m1.out.Code,Ob m1.out.Result.Lo,Ob m1.out.Result.Hi,.sl (m1.out.Trace.map Oe),Nx (i64.wrap (m1.out.Steps + 1))]))) r r r (by simp) r r (λ_=>r) r r<|?_
  refine A 1 ?_
  refine QA (E:=[(0,.optr 8192 0 0 0),(2,Nx (i64.wrap ((m1.acts.length : Int) - 1))),(5,.optr 5 _ 0 0)]) (O:=[(5,dV _ 5 69 (Oo x_x4)),(8192,dV 0 27 117 (.agg ([.sl (m1.p.Funcs.map NP)] ++ (cells (Oq m1.regs) ++ [.sl (((([] : List NB) ++ m1.acts).set ((i64.wrap ((m1.acts.length : Int) - 1)).toNat) (NB.mk l_e2.f a5 l_e2.slots l_e2.args)).map NR),.sl (m1.input.map Pt),Nx m1.deep,.bool m1.done,Nx m1.out.Kind,Ob m1.out.Code,Ob m1.out.Result.Lo,Ob m1.out.Result.Hi,.sl (m1.out.Trace.map Oe),Nx (i64.wrap (m1.out.Steps + 1))]))))]) ((Aex (g:=8192) r (AhT (by repeat' first | exact FrL.nil | apply FrL.row (AcO λ_=>rfl) | apply FrL.same)) (hE ⟨rfl,r,r,trivial⟩ ⟨rfl,r,trivial⟩))) λnn=>?_
  refine A 7 ?_
  refine sC (E:=λ(s : Bool) (g : Nat)=>[(0,.optr 8192 0 0 0),(2,Nx (i64.wrap ((m1.acts.length : Int) - 1))),(5,.optr 5 g 0 0),(79,Nx x_x4.Op),(116,.bool s)]) (O:=λ_ g=>[(5,dV g 5 69 (Oo x_x4)),(8192,dV 0 27 117 (.agg ([.sl (m1.p.Funcs.map NP)] ++ (cells (Oq m1.regs) ++ [.sl (((([] : List NB) ++ m1.acts).set ((i64.wrap ((m1.acts.length : Int) - 1)).toNat) (NB.mk l_e2.f a5 l_e2.slots l_e2.args)).map NR),.sl (m1.input.map Pt),Nx m1.deep,.bool m1.done,Nx m1.out.Kind,Ob m1.out.Code,Ob m1.out.Result.Lo,Ob m1.out.Result.Hi,.sl (m1.out.Trace.map Oe),Nx (i64.wrap (m1.out.Steps + 1))]))))]) (j:=λs=>OJ m1 l_e2 a5 x_x4 s) ?_ ?_
  ·exact B
  ·rintro x8 v5x2 nn
   try dsimp only
   unfold OJ
   refine cD r ?_ ?_
   ·exact B
   ·refine A 6 ?_
    refine cD r ?_ ?_
    ·exact B
    ·refine A 6 ?_
     refine cD r ?_ ?_
     ·refine A 8 ?_
      refine cK λhq=>Adf (l:=(([] : List NB) ++ m1.acts).set ((i64.wrap ((m1.acts.length : Int) - 1)).toNat) (NB.mk l_e2.f a5 l_e2.slots l_e2.args)) (en:=NR) r r r (λ_=>r) r hq<|cK λhq=>aP (([] : List NB)) (((([] : List NB) ++ m1.acts).set ((i64.wrap ((m1.acts.length : Int) - 1)).toNat) (NB.mk l_e2.f a5 l_e2.slots l_e2.args)).take (i64.wrap ((m1.acts.length : Int) - 1)).toNat) NR r r r r r r r (by simp) r r r (by simp) r (λ_=>r) r hq<|?_
      refine A 2 ?_
      refine ZD (l:=([] : List NB) ++ (((([] : List NB) ++ m1.acts).set ((i64.wrap ((m1.acts.length : Int) - 1)).toNat) (NB.mk l_e2.f a5 l_e2.slots l_e2.args)).take (i64.wrap ((m1.acts.length : Int) - 1)).toNat)) (en:=NR) (z':=.agg ([.sl (m1.p.Funcs.map NP)] ++ (cells (Oq m1.regs) ++ [.row 4 142 ((([] : List NB) ++ (((([] : List NB) ++ m1.acts).set ((i64.wrap ((m1.acts.length : Int) - 1)).toNat) (NB.mk l_e2.f a5 l_e2.slots l_e2.args)).take (i64.wrap ((m1.acts.length : Int) - 1)).toNat)).map NR),.sl (m1.input.map Pt),Nx m1.deep,.bool m1.done,Nx m1.out.Kind,Ob m1.out.Code,Ob m1.out.Result.Lo,Ob m1.out.Result.Hi,.sl (m1.out.Trace.map Oe),Nx (i64.wrap (m1.out.Steps + 1))]))) r r r r r r (λ_=>r) r r<|?_
      refine A 1 ?_
      refine QA (E:=[(0,.optr 8192 0 0 0),(2,Nx (i64.wrap ((m1.acts.length : Int) - 1)))]) (O:=[(8192,dV 0 27 117 (.agg ([.sl (m1.p.Funcs.map NP)] ++ (cells (Oq m1.regs) ++ [.sl ((([] : List NB) ++ (((([] : List NB) ++ m1.acts).set ((i64.wrap ((m1.acts.length : Int) - 1)).toNat) (NB.mk l_e2.f a5 l_e2.slots l_e2.args)).take (i64.wrap ((m1.acts.length : Int) - 1)).toNat)).map NR),.sl (m1.input.map Pt),Nx m1.deep,.bool m1.done,Nx m1.out.Kind,Ob m1.out.Code,Ob m1.out.Result.Lo,Ob m1.out.Result.Hi,.sl (m1.out.Trace.map Oe),Nx (i64.wrap (m1.out.Steps + 1))]))))]) ((Aex (g:=8192) r (AhT (by repeat' first | exact FrL.nil | apply FrL.row (AcO λ_=>rfl) | apply FrL.same)) (hE ⟨rfl,r,trivial⟩ ⟨rfl,trivial⟩))) λnn=>?_
      refine A 6 ?_
      refine cD r ?_ ?_
      ·refine A 3 ?_
       refine bD λr10 hr10=>?_
       refine A 8 ?_
       refine OZ r r r (by decide)<|?_
       refine A 4 ?_
       refine PM (i:=0) (es':=[.agg ([.sl (r10.p.Funcs.map NP)] ++ (cells (Oq r10.regs) ++ [.sl (r10.acts.map NR),.sl (r10.input.map Pt),Nx r10.deep,.bool r10.done,Nx r10.out.Kind,Ob r10.out.Code,Ob r10.regs.a0.Lo,Ob r10.regs.a0.Hi,.sl (r10.out.Trace.map Oe),Nx r10.out.Steps]))]) r r r r r r r (by first | trivial | (simp; done) | (simp; omega)) r r r r r r<|?_
       exact B
      ·exact B
     ·refine A 6 ?_
      refine cD r ?_ ?_
      ·refine A 3 ?_
       refine bD λr11 hr11=>?_
       refine A 10 ?_
       refine PM (i:=0) (es':=[.agg ([.sl (r11.p.Funcs.map NP)] ++ (cells (Oq r11.regs) ++ [.sl (r11.acts.map NR),.sl (r11.input.map Pt),Nx r11.deep,.bool r11.done,Nx r11.out.Kind,Ob x_x4.Imm,Ob r11.out.Result.Lo,Ob r11.out.Result.Hi,.sl (r11.out.Trace.map Oe),Nx r11.out.Steps]))]) r r r r r r r (by first | trivial | (simp; done) | (simp; omega)) r r r r r r<|?_
       exact B
      ·refine A 5 ?_
       refine bD λr12 hr12=>?_
       refine A 3 ?_
       refine cD r ?_ ?_
       ·exact B
       ·refine A 26 ?_
        refine bD λr13 hr13=>?_
        refine A 8 ?_
        refine PM (i:=0) (es':=[.agg ([.sl (r12.2.p.Funcs.map NP)] ++ (cells (Oq r13.1) ++ [.sl (r12.2.acts.map NR),.sl (r12.2.input.map Pt),Nx r12.2.deep,.bool r12.2.done,Nx r12.2.out.Kind,Ob r12.2.out.Code,Ob r12.2.out.Result.Lo,Ob r12.2.out.Result.Hi,.sl (r12.2.out.Trace.map Oe),Nx r12.2.out.Steps]))]) r r r r r r r (by first | trivial | (simp; done) | (simp; omega)) r r r r r r<|?_
        refine A 2 ?_
        refine PM (i:=0) (es':=[.agg ([.sl (r12.2.p.Funcs.map NP)] ++ (cells (Oq r13.1) ++ [.sl (r12.2.acts.map NR),.sl (r13.2.1.map Pt),Nx r12.2.deep,.bool r12.2.done,Nx r12.2.out.Kind,Ob r12.2.out.Code,Ob r12.2.out.Result.Lo,Ob r12.2.out.Result.Hi,.sl (r12.2.out.Trace.map Oe),Nx r12.2.out.Steps]))]) r r r r r r r (by first | trivial | (simp; done) | (simp; omega)) r r r r r r<|?_
        refine A 3 ?_
        refine PM (i:=0) (es':=[.agg ([.sl (r12.2.p.Funcs.map NP)] ++ (cells (Oq r13.1) ++ [.sl (r12.2.acts.map NR),.sl (r13.2.1.map Pt),Nx r12.2.deep,.bool r12.2.done,Nx r12.2.out.Kind,Ob r12.2.out.Code,Ob r12.2.out.Result.Lo,Ob r12.2.out.Result.Hi,.sl (r13.2.2.1.map Oe),Nx r12.2.out.Steps]))]) r r r r r r r (by first | trivial | (simp; done) | (simp; omega)) r r r r r r<|?_
        exact B

end
end Go.Proofs.YtpagjjmondojpaaGreatDoor
