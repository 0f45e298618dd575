/-
  Programs on typed data, and the proofs that the code does what they say; written by a program (dx.py).
-/
import Derived.Test.YtcppfbhmhlhncaaDoorProg
import Derived.Test.YtcppfbhmhlhncaaDoorDd
import Derived.KernelRfl
import Derived.Test.YtcppfbhmhlhncaaDoorDxP
import Derived.Test.YtcppfbhmhlhncaaDoorDxF1
import Derived.Test.YtcppfbhmhlhncaaDoorDxF2
import Derived.Test.YtcppfbhmhlhncaaDoorDxF3
namespace Go.Proofs.YtcppfbhmhlhncaaDoor
open Go Go.Dw Go.Proofs
set_option maxRecDepth 100000
set_option maxHeartbeats 40000000
open Go.Dw renaming Rt -> bD,Xg -> bS,XL -> cD,Wh -> hE,YT -> lP,WH -> sC,VY -> bC,rf -> r
def AaP (b:(List UInt8)):D:=.str b
noncomputable def Yk:Dw.Spec:=Ql [] .ground SV SU (λa=>Ur a) AaP noE
theorem Aaq:Qi Tryd.prog 25 Yk:=by
 refine fn2 1 (Qw (l:=[(39,YF),(40,Xb),(24,Xs),(38,VG)]) (by simp[AaL,Zj,YE,Xa])) Tryd.func25<|?_
 intro x1
 unfold Ur
 refine A 10 ?_
 refine bD λr2 hr2=>?_
 refine A 11 ?_
 refine cD r ?_ ?_
 ·exact B
 ·refine A 6 ?_
  refine bD λr3 hr3=>?_
  refine A 12 ?_
  refine sC (E:=λ(s:(List UInt8)) (g:Nat)=>[(1,.optr 1 g 0 0),(3,.str s),(5,.bool r3.2.1),(6,.bool r3.2.2.1),(7,.bool r3.2.2.2)]) (O:=λ_ g=>[(1,dV g 5 54 (Pr x1))]) (j:=λs=>TY r3 x1 s) ?_ ?_
  ·exact B
  ·rintro s4 v1x1 nn
   try dsimp only
   unfold TY
   refine sC (E:=λ(s:(List UInt8)) (g:Nat)=>[(1,.optr 1 g 0 0),(3,.str s),(6,.bool r3.2.2.1),(7,.bool r3.2.2.2)]) (O:=λ_ g=>[(1,dV g 5 54 (Pr x1))]) (j:=λs=>TZ r3 x1 s) ?_ ?_
   ·exact B
   ·rintro s5 v1x2 nn
    try dsimp only
    unfold TZ
    refine sC (E:=λ(s:(List UInt8)) (g:Nat)=>[(1,.optr 1 g 0 0),(3,.str s),(7,.bool r3.2.2.2)]) (O:=λ_ g=>[(1,dV g 5 54 (Pr x1))]) (j:=λs=>Ua r3 x1 s) ?_ ?_
    ·exact B
    ·rintro s6 v1x3 nn
     try dsimp only
     unfold Ua
     exact B

def Yp (b:(List UInt8)):D:=.str b
noncomputable def VN:Dw.Spec:=Ql [] .ground RM RL (λa=>SS a) Yp noE
theorem XW:Qi Tryd.prog 9 VN:=by
 refine fn2 1 (Qw (l:=[(24,Xs),(25,Yk)]) (by simp[YE,Aaq])) Tryd.func9<|?_
 intro t1
 unfold SS
 refine A 10 ?_
 refine bD λr2 hr2=>?_
 refine A 13 ?_
 refine lP (E:=λ(s:(List UInt8)×Int) (g:Nat)=>[(1,.optr 1 g 0 0),(3,.str s.1),(4,Lo s.2)]) (O:=λ_ g=>[(1,dV g 2 25 (.agg [Lo t1.Align,.sl (t1.Frames.map Qm)]))]) (body:=λs=>Ri t1 s.1 s.2) (s:=((([97,108,105,103,110,32])++r2)++([10]),0)) _ ((hE ⟨rfl,r,r,trivial⟩ ⟨rfl,trivial⟩))<|?_
 rintro⟨s3,i4⟩ v1x1 nn
 try dsimp only
 unfold Ri
 refine A 10 ?_
 refine cD r ?_ ?_
 ·refine A 2 ?_
  refine bC (E:=λ(s:(List UInt8)) (g:Nat)=>[(1,.optr 1 g 0 0),(3,.str s),(4,Lo i4)]) (O:=λ_ g=>[(1,dV g 2 25 (.agg [Lo t1.Align,.sl (t1.Frames.map Qm)]))]) (j:=λs=>SZ i4 s) ?_ ?_
  ·refine A 5 ?_
   refine bD λx_x6 hx_x6=>?_
   refine A 11 ?_
   refine bD λr7 hr7=>?_
   refine A 5 ?_
   refine bD λr8 hr8=>?_
   refine A 13 ?_
   refine lP (E:=λ(s:(List UInt8)×Int) (g:Nat×Nat)=>[(1,.optr 1 g.1 0 0),(3,.str s.1),(4,Lo i4),(5,.optr 5 g.2 0 0),(6,Lo s.2)]) (O:=λ_ g=>[(1,dV g.1 2 25 (.agg [Lo t1.Align,.sl (t1.Frames.map Qm)])),(5,dV g.2 3 28 (Qm x_x6))]) (body:=λs=>Rj x_x6 i4 s.1 s.2) (s:=(s3++((((([102,114,97,109,101,32])++r7)++([32]))++r8)++([10])),0)) (_,_) ((hE ⟨rfl,r,r,r,r,trivial⟩ ⟨rfl,r,trivial⟩))<|?_
   rintro⟨s9,k10⟩ ⟨v1x3,v5x3⟩ nn
   try dsimp only
   unfold Rj
   exact B
  ·rintro s5 v1x2 nn
   try dsimp only
   unfold SZ
   exact B
 ·exact B

def Aap (b:(List UInt8)):D:=.str b
noncomputable def XH:Dw.Spec:=Ql [] .ground Qy Qx (λa=>UN a) Aap noE
theorem ZM:Qi Tryd.prog 11 XH:=by
 refine fn2 1 (RE) Tryd.func11<|?_
 intro a
 unfold UN
 exact B

def RA (a:(List Int)×Pw×Int):List D:=[.sl (a.1.map eU8),RF a.2.1,Lo a.2.2]
def Rz (ds:List D):(List Int)×Pw×Int:=((uL uI) (ds.getD 0 .top),XM (ds.getD 1 .top),uI (ds.getD 2 .top))
theorem Uc (a:(List Int)×Pw×Int):Rz (RA a)=a:=by simp[Rz,RA,uI,VJ (u:=uI) (en:=eU8) (λ_=>rfl)]
instance:QW RA Rz:=⟨Uc⟩
def Ws (b:Bool):D:=.bool b
noncomputable def Wu:Dw.Spec:=Ql [] .ground RA Rz (λa=>Rr a.1 a.2.1 a.2.2) Ws noE
theorem Wl:Qi Tryd.prog 3 Wu:=by
 refine fn2 3 (Qw (l:=[(4,Ya),(5,ZB),(6,VM),(7,Vb),(8,VI),(9,VN),(10,VH),(11,XH)]) (by simp[ZZ,Abu,XU,Xi,XJ,XW,Xe,ZM])) Tryd.func3<|?_
 rintro⟨codes1,raw2,n3⟩
 unfold Rr
 refine A 14 ?_
 refine sC (E:=λ(s:Int) (g:Nat)=>[(0,.sl (codes1.map eU8)),(2,Lo n3),(4,.optr 4 g 0 0),(7,Lo s)]) (O:=λ_ g=>[(4,dV g 2 25 (.agg [Lo raw2.Align,.sl (raw2.Frames.map Qm)]))]) (j:=λs=>QH codes1 raw2 n3 s) ?_ ?_
 ·refine A 6 ?_
  refine lP (E:=λ(s:Int×Int) (g:Nat)=>[(0,.sl (codes1.map eU8)),(2,Lo n3),(4,.optr 4 g 0 0),(7,Lo s.1),(8,Lo s.2)]) (O:=λ_ g=>[(4,dV g 2 25 (.agg [Lo raw2.Align,.sl (raw2.Frames.map Qm)]))]) (body:=λs=>RB raw2 codes1 n3 s.1 s.2) (s:=((raw2.Frames.length:Int),0)) _ ((hE ⟨rfl,r,r,r,r,trivial⟩ ⟨rfl,trivial⟩))<|?_
  rintro⟨size18,i19⟩ v4x5 nn
  try dsimp only
  unfold RB
  refine sC (E:=λ(_s:Unit) (g:Nat)=>[(0,.sl (codes1.map eU8)),(2,Lo n3),(4,.optr 4 g 0 0),(7,Lo size18),(8,Lo i19),(23,Lo size18),(24,.bool (decide (size18<=300)))]) (O:=λ_ g=>[(4,dV g 2 25 (.agg [Lo raw2.Align,.sl (raw2.Frames.map Qm)]))]) (j:=λ_=>RD raw2 i19 size18) ?_ ?_
  ·exact B
  ·rintro⟨⟩ v4x6 nn
   try dsimp only
   unfold RD
   exact B
 ·rintro size4 v4x1 nn
  try dsimp only
  unfold QH
  refine sC (E:=λ(_s:Unit) (g:Nat)=>[(0,.sl (codes1.map eU8)),(2,Lo n3),(4,.optr 4 g 0 0)]) (O:=λ_ g=>[(4,dV g 2 25 (.agg [Lo raw2.Align,.sl (raw2.Frames.map Qm)]))]) (j:=λ_=>RC codes1 raw2 n3) ?_ ?_
  ·exact B
  ·rintro⟨⟩ v4x2 nn
   try dsimp only
   unfold RC
   refine A 3 ?_
   refine bD λr5 hr5=>?_
   refine A 7 ?_
   refine bD λr6 hr6=>?_
   refine A 12 ?_
   refine bD λr7 hr7=>?_
   refine A 1 ?_
   refine bS ([raw2,r6.1,r7.1]:List Pw) RF r r r (by simp) r r r<|?_
   refine A 5 ?_
   refine lP (E:=λ(s:Int) (g:Nat)=>[(2,Lo n3),(54,.osl 54 g 0 (([raw2,r6.1,r7.1]:List Pw).length)),(55,Lo (([raw2,r6.1,r7.1]:List Pw).length:Int)),(56,Lo s)]) (O:=λ_ g=>[(54,dW g 2 25 (([raw2,r6.1,r7.1]:List Pw).map RF))]) (body:=λs=>Rg raw2 r6 r7 n3 s) (s:=0) _ ((hE ⟨rfl,r,r,r,trivial⟩ ⟨rfl,trivial⟩))<|?_
   rintro x8 v54x3 nn
   try dsimp only
   unfold Rg
   refine A 6 ?_
   refine cD r ?_ ?_
   ·exact B
   ·refine A 12 ?_
    refine lP (E:=λ(s:Int) (_g:Unit)=>[(2,Lo n3),(13,Lo s)]) (O:=λ_ _=>[]) (body:=λs=>Rh n3 s) (s:=(-1)) () ((hE ⟨rfl,r,trivial⟩ trivial))<|?_
    rintro k12 ⟨⟩ nn
    try dsimp only
    unfold Rh
    exact B

end Go.Proofs.YtcppfbhmhlhncaaDoor
