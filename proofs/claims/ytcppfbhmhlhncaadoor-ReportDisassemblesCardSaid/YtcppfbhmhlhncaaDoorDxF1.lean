/-
  Programs on typed data, and the proofs that the code does what they say; written by a program (dx.py).
-/
import Derived.Test.YtcppfbhmhlhncaaDoorProg
import Derived.Test.YtcppfbhmhlhncaaDoorDd
import Derived.KernelRfl
import Derived.Test.YtcppfbhmhlhncaaDoorDxP
namespace Go.Proofs.YtcppfbhmhlhncaaDoor
open Go Go.Dw Go.Proofs
open Go.IntKind (i64)
set_option maxRecDepth 100000
set_option maxHeartbeats 40000000
open Go.Dw renaming Rt -> bD,QD -> cK,Xg -> bS,YS -> aP,Ut -> sE,XL -> cD,Abq -> xL,Wh -> hE,YT -> lP,WH -> sC,VY -> bC,rf -> r
noncomputable section
def Qy (a:Int):List D:=[Lo a]
def Qx (ds:List D):Int:=uI (ds.getD 0 .top)
theorem Zx (a:Int):Qx (Qy a)=a:=by simp[Qx,Qy,uI]
instance:QW Qy Qx:=⟨Zx⟩
def ZN (b:(List UInt8)):D:=.str b
def VH:Dw.Spec:=Ql [] .ground Qy Qx (λa=>Ss a) ZN noE
theorem Xe:Qi Tryd.prog 10 VH:=by
 refine fn2 1 (RE) Tryd.func10<|?_
 intro a
 unfold Ss
 exact B

def VC (_a:Unit):List D:=[]
def VB (_ds:List D):Unit:=()
theorem ZY (a:Unit):VB (VC a)=a:=rfl
instance:QW VC VB:=⟨ZY⟩
def AaD (b:Bool):D:=.bool b
def Ya:Dw.Spec:=Ql [] .ground VC VB (λa=>Wb) AaD noE
theorem ZZ:Qi Tryd.prog 4 Ya:=by
 refine fn2 0 (Qw (l:=[(10,VH)]) (by simp[Xe])) Tryd.func4<|?_
 intro _
 unfold Wb
 exact B

def Vy (a:(List Int)×Int):List D:=[.sl (a.1.map eU8),Lo a.2]
def Vx (ds:List D):(List Int)×Int:=((uL uI) (ds.getD 0 .top),uI (ds.getD 1 .top))
theorem Abt (a:(List Int)×Int):Vx (Vy a)=a:=by simp[Vx,Vy,uI,VJ (u:=uI) (en:=eU8) (λ_=>rfl)]
instance:QW Vy Vx:=⟨Abt⟩
def AbW (b:BS):D:=Qz b
def ZB:Dw.Spec:=Ql [] (.ptr 2 39) Vy Vx (λa=>WV a.1 a.2) AbW noE
theorem Abu:Qi Tryd.prog 5 ZB:=by
 refine fn2 2 (RE) Tryd.func5<|?_
 intro a
 unfold WV
 exact B

def Ro (a:BS):List D:=[Qz a]
def Rn (ds:List D):BS:=SJ (ds.getD 0 .top)
theorem Ys (a:BS):Rn (Ro a)=a:=by simp[Rn,Ro]
instance:QW Ro Rn:=⟨Ys⟩
def YX (b:Bool×BS):D:=.bool b.1
def YW (b:Bool×BS):List D:=[Qz b.2]
def Wx:Dw.Spec:=Ql [(0,(2,39))] .val Ro Rn (λa=>Uu a) YX YW
theorem Yt:Qi Tryd.prog 31 Wx:=by
 refine fn2 1 (RE) Tryd.func31<|?_
 intro a
 unfold Uu
 exact B

def Sx (a:BS×Int):List D:=[Qz a.1,Lo a.2]
def Sw (ds:List D):BS×Int:=(SJ (ds.getD 0 .top),uI (ds.getD 1 .top))
theorem Yu (a:BS×Int):Sw (Sx a)=a:=by simp[Sw,Sx,uI]
instance:QW Sx Sw:=⟨Yu⟩
def YZ (b:Int×BS):D:=Lo b.1
def YY (b:Int×BS):List D:=[Qz b.2]
def QL:Dw.Spec:=Ql [(0,(2,39))] .val Sx Sw (λa=>Pl a.1 a.2) YZ YY
theorem QO:Qi Tryd.prog 16 QL:=by
 refine fn2 2 (Qw (l:=[(31,Wx)]) (by simp[Yt])) Tryd.func16<|?_
 rintro⟨c1,n2⟩
 unfold Pl
 refine A 5 ?_
 refine sC (E:=λ(_s:(List Int)×Int) (_g:Unit)=>[(0,.optr 8192 0 0 0),(1,Lo n2)]) (O:=λs _=>[(8192,dV 0 2 39 (.agg [.sl (s.1.map eU8),Lo s.2]))]) (j:=λs=>Tl n2 s.1 s.2) ?_ ?_
 ·exact B
 ·rintro⟨c3,c4⟩ ⟨⟩ nn
  try dsimp only
  unfold Tl
  refine A 10 ?_
  refine bD λx_x5 hx_x5=>?_
  refine A 15 ?_
  refine Zo (i:=0) (es':=[.agg [.sl (c3.map eU8),Lo (i64.wrap (c4+1))]]) r r r r r r r (by first|trivial|(simp;done)|(simp;omega)) r r r r r r<|?_
  exact B

def Zb (b:Qu×BS):D:=Ry b.1
def Za (b:Qu×BS):List D:=[Qz b.2]
def Wy:Dw.Spec:=Ql [(0,(2,39))] .val Ro Rn (λa=>Tm a) Zb Za
theorem Yv:Qi Tryd.prog 55 Wy:=by
 refine fn2 1 (Qw (l:=[(16,QL)]) (by simp[QO])) Tryd.func55<|?_
 intro c1
 unfold Tm
 refine A 7 ?_
 refine bS ([8,4,8,1,2,16,8]:List Int) Rq r r r (by simp) r r r<|?_
 refine A 1 ?_
 refine bD λr2 hr2=>?_
 refine A 2 ?_
 refine bD λx_e3 hx_e3=>?_
 refine A 1 ?_
 refine bS ([8,4,1,8,16,2,32,64]:List Int) Rq r r r (by simp) r r r<|?_
 exact B

def Yx (b:(List Qu)×BS):D:=.sl (b.1.map Ry)
def Yw (b:(List Qu)×BS):List D:=[Qz b.2]
def Wg:Dw.Spec:=Ql [(0,(2,39))] (.row 2 101) Sx Sw (λa=>Tb a.1 a.2) Yx Yw
theorem Yn:Qi Tryd.prog 41 Wg:=by
 refine fn2 2 (Qw (l:=[(16,QL),(55,Wy)]) (by simp[QO,Yv])) Tryd.func41<|?_
 rintro⟨c1,most2⟩
 unfold Tb
 refine A 16 ?_
 refine bD λr3 hr3=>?_
 refine A 5 ?_
 refine lP (E:=λ(s:(List Int)×Int×(List Qu)×Int) (g:Nat)=>[(0,.optr 8192 0 0 0),(5,.osl 5 g 0 s.2.2.1.length),(6,Lo s.2.2.2)]) (O:=λs g=>[(5,dW g 2 101 (s.2.2.1.map Ry)),(8192,dV 0 2 39 (.agg [.sl (s.1.map eU8),Lo s.2.1]))]) (body:=λs=>Te s.1 s.2.1 s.2.2.1 s.2.2.2) (s:=(r3.2.list,r3.2.at_,([]:List Qu),r3.1)) _ ((hE ⟨rfl,r,r,trivial⟩ ⟨rfl,r,trivial⟩))<|?_
 rintro⟨c4,c5,l6,n7⟩ v5x1 nn
 try dsimp only
 unfold Te
 refine A 7 ?_
 refine cD r ?_ ?_
 ·refine A 7 ?_
  refine bD λr8 hr8=>?_
  refine A 1 ?_
  refine bS ([r8.1]:List Qu) Ry r r r (by simp) r r r<|?_
  exact B
 ·exact B

def Ti (a:BS×Qo×Int):List D:=[Qz a.1,Sn a.2.1,Lo a.2.2]
def Th (ds:List D):BS×Qo×Int:=(SJ (ds.getD 0 .top),XZ (ds.getD 1 .top),uI (ds.getD 2 .top))
theorem YA (a:BS×Qo×Int):Th (Ti a)=a:=by simp[Th,Ti,uI]
instance:QW Ti Th:=⟨YA⟩
def Zh (b:Int×BS):D:=Lo b.1
def Zg (b:Int×BS):List D:=[Qz b.2]
def WA:Dw.Spec:=Ql [(0,(2,39))] .val Ti Th (λa=>Tp a.1 a.2.1 a.2.2) Zh Zg
theorem YB:Qi Tryd.prog 56 WA:=by
 refine fn2 3 (Qw (l:=[(16,QL)]) (by simp[QO])) Tryd.func56<|?_
 rintro⟨c1,f2,s3⟩
 unfold Tp
 refine A 18 ?_
 refine lP (E:=λ(s:(List Int)×Int) (g:Nat×Nat)=>[(0,.optr 8192 0 0 0),(2,Lo s3),(4,.optr 4 g.1 0 0),(7,.osl 7 g.2 0 s.1.length),(8,Lo s.2)]) (O:=λs g=>[(4,dV g.1 3 74 (Sn f2)),(7,dW g.2 1 3 (s.1.map Rq)),(8192,dV 0 2 39 (.agg [.sl (c1.list.map eU8),Lo c1.at_]))]) (body:=λs=>Tq f2 s3 c1 s.1 s.2) (s:=(([]:List Int),0)) (_,_) ((hE ⟨rfl,r,r,r,r,trivial⟩ ⟨rfl,r,r,trivial⟩))<|?_
 rintro⟨l4,k5⟩ ⟨v4x1,v7x1⟩ nn
 try dsimp only
 unfold Tq
 exact B

def Zd (b:Int×BS):D:=UI b.1
def Zc (b:Int×BS):List D:=[Qz b.2]
def TJ:Dw.Spec:=Ql [(0,(2,39))] .val Ro Rn (λa=>Sm a) Zd Zc
theorem UJ:Qi Tryd.prog 18 TJ:=by
 refine fn2 1 (Qw (l:=[(16,QL)]) (by simp[QO])) Tryd.func18<|?_
 intro a
 unfold Sm
 exact B

def Tg (a:BS×Qo×Int×(List Int)):List D:=[Qz a.1,Sn a.2.1,Lo a.2.2.1,.sl (a.2.2.2.map Rq)]
def Tf (ds:List D):BS×Qo×Int×(List Int):=(SJ (ds.getD 0 .top),XZ (ds.getD 1 .top),uI (ds.getD 2 .top),(uL uI) (ds.getD 3 .top))
theorem Yy (a:BS×Qo×Int×(List Int)):Tf (Tg a)=a:=by simp[Tf,Tg,uI,VJ (u:=uI) (en:=Rq) (λ_=>rfl)]
instance:QW Tg Tf:=⟨Yy⟩
def Zf (b:(List Ed)×BS):D:=.sl (b.1.map Pr)
def Ze (b:(List Ed)×BS):List D:=[Qz b.2]
def Wz:Dw.Spec:=Ql [(0,(2,39))] (.row 5 54) Tg Tf (λa=>Tn a.1 a.2.1 a.2.2.1 a.2.2.2) Zf Ze
theorem Yz:Qi Tryd.prog 42 Wz:=by
 refine fn2 4 (Qw (l:=[(16,QL),(56,WA),(18,TJ)]) (by simp[QO,YB,UJ])) Tryd.func42<|?_
 rintro⟨c1,f2,i3,params4⟩
 unfold Tn
 refine A 9 ?_
 refine bD λr5 hr5=>?_
 refine A 15 ?_
 refine bD λr6 hr6=>?_
 refine A 4 ?_
 refine bC (E:=λ(_s:Unit) (_g:Unit)=>[(9,Lo r5.1)]) (O:=λ_ _=>[(8192,dV 0 2 39 (.agg [.sl (r6.2.list.map eU8),Lo r6.2.at_]))]) (j:=λ_=>UK r5 r6) ?_ ?_
 ·refine sC (E:=λ(s:Bool) (g:Nat)=>[(0,.optr 8192 0 0 0),(2,Lo i3),(3,.sl (params4.map Rq)),(5,.optr 5 g 0 0),(9,Lo r5.1),(10,Lo (f2.Slots.length:Int)),(11,Lo r6.1),(23,.bool s)]) (O:=λ_ g=>[(5,dV g 3 74 (Sn f2)),(8192,dV 0 2 39 (.agg [.sl (r6.2.list.map eU8),Lo r6.2.at_]))]) (j:=λs=>RX r6 f2 r5 params4 i3 s) ?_ ?_
  ·exact B
  ·rintro x7 v5x2 nn
   try dsimp only
   unfold RX
   refine cD r ?_ ?_
   ·refine A 4 ?_
    refine bD λr8 hr8=>?_
    refine A 3 ?_
    refine bS ([(Ed.mk 16 r8.1 r5.1 0 0)]:List Ed) Pr r r r (by simp) r r r<|?_
    exact B
   ·refine sC (E:=λ(s:Bool) (g:Nat)=>[(0,.optr 8192 0 0 0),(2,Lo i3),(3,.sl (params4.map Rq)),(5,.optr 5 g 0 0),(9,Lo r5.1),(10,Lo (f2.Slots.length:Int)),(11,Lo r6.1),(36,.bool s)]) (O:=λ_ g=>[(5,dV g 3 74 (Sn f2)),(8192,dV 0 2 39 (.agg [.sl (r6.2.list.map eU8),Lo r6.2.at_]))]) (j:=λs=>RY r6 f2 r5 params4 i3 s) ?_ ?_
    ·exact B
    ·rintro x9 v5x3 nn
     try dsimp only
     unfold RY
     refine cD r ?_ ?_
     ·refine A 5 ?_
      refine bD λr10 hr10=>?_
      refine A 2 ?_
      refine bS ([(Ed.mk 15 r5.1 r10.1 0 0)]:List Ed) Pr r r r (by simp) r r r<|?_
      exact B
     ·refine sC (E:=λ(s:Bool) (g:Nat)=>[(0,.optr 8192 0 0 0),(2,Lo i3),(3,.sl (params4.map Rq)),(5,.optr 5 g 0 0),(9,Lo r5.1),(10,Lo (f2.Slots.length:Int)),(11,Lo r6.1),(49,.bool s)]) (O:=λ_ g=>[(5,dV g 3 74 (Sn f2)),(8192,dV 0 2 39 (.agg [.sl (r6.2.list.map eU8),Lo r6.2.at_]))]) (j:=λs=>RZ r6 f2 r5 params4 i3 s) ?_ ?_
      ·exact B
      ·rintro x11 v5x4 nn
       try dsimp only
       unfold RZ
       refine cD r ?_ ?_
       ·refine A 4 ?_
        refine bD λr12 hr12=>?_
        refine A 9 ?_
        refine bD λr13 hr13=>?_
        refine A 3 ?_
        refine bS ([(Ed.mk 17 r13.1 r12.1 0 0)]:List Ed) Pr r r r (by simp) r r r<|?_
        exact B
       ·refine A 7 ?_
        refine cD r ?_ ?_
        ·refine A 4 ?_
         refine bD λr14 hr14=>?_
         refine A 2 ?_
         refine bS ([(Ed.mk 0 r5.1 0 0 r14.1)]:List Ed) Pr r r r (by simp) r r r<|?_
         exact B
        ·refine A 7 ?_
         refine cD r ?_ ?_
         ·refine A 3 ?_
          refine bD λr15 hr15=>?_
          refine A 4 ?_
          refine bD λr16 hr16=>?_
          refine A 2 ?_
          refine bD λr17 hr17=>?_
          refine A 2 ?_
          refine bS ([(Ed.mk (i64.wrap (2+r15.1)) r5.1 r16.1 r17.1 0)]:List Ed) Pr r r r (by simp) r r r<|?_
          exact B
         ·refine A 7 ?_
          refine cD r ?_ ?_
          ·refine A 4 ?_
           refine bS ([(Ed.mk 14 r5.1 0 0 0)]:List Ed) Pr r r r (by simp) r r r<|?_
           exact B
          ·refine A 7 ?_
           refine cD r ?_ ?_
           ·refine A 2 ?_
            refine bS ([13,12,1]:List Int) Rq r r r (by simp) r r r<|?_
            refine A 1 ?_
            refine bD λr18 hr18=>?_
            refine A 2 ?_
            refine bD λx_e19 hx_e19=>?_
            refine A 3 ?_
            refine bS ([(Ed.mk x_e19 r5.1 0 0 0)]:List Ed) Pr r r r (by simp) r r r<|?_
            exact B
           ·refine sC (E:=λ(s:Bool) (g:Nat)=>[(0,.optr 8192 0 0 0),(2,Lo i3),(3,.sl (params4.map Rq)),(5,.optr 5 g 0 0),(9,Lo r5.1),(11,Lo r6.1),(104,.bool s)]) (O:=λ_ g=>[(5,dV g 3 74 (Sn f2)),(8192,dV 0 2 39 (.agg [.sl (r6.2.list.map eU8),Lo r6.2.at_]))]) (j:=λs=>Sa r6 f2 r5 params4 i3 s) ?_ ?_
            ·exact B
            ·rintro x20 v5x5 nn
             try dsimp only
             unfold Sa
             refine cD r ?_ ?_
             ·refine A 6 ?_
              refine bD λr21 hr21=>?_
              refine A 2 ?_
              refine bS ([(Ed.mk 19 r5.1 r21.1 0 0)]:List Ed) Pr r r r (by simp) r r r<|?_
              exact B
             ·refine sC (E:=λ(s:Bool) (_g:Unit)=>[(0,.optr 8192 0 0 0),(2,Lo i3),(3,.sl (params4.map Rq)),(9,Lo r5.1),(119,.bool s)]) (O:=λ_ _=>[(8192,dV 0 2 39 (.agg [.sl (r6.2.list.map eU8),Lo r6.2.at_]))]) (j:=λs=>Sb r6 params4 i3 r5 s) ?_ ?_
              ·exact B
              ·rintro x22 ⟨⟩ nn
               try dsimp only
               unfold Sb
               refine cD r ?_ ?_
               ·refine A 10 ?_
                refine bD λr23 hr23=>?_
                refine A 17 ?_
                refine lP (E:=λ(s:(List Int)×Int×(List Ed)×Int) (g:Nat)=>[(0,.optr 8192 0 0 0),(3,.sl (params4.map Rq)),(13,Lo (i64.wrap ((i64.wrap (i3+1))+r23.1))),(14,.osl 14 g 0 s.2.2.1.length),(15,Lo s.2.2.2)]) (O:=λs g=>[(14,dW g 5 54 (s.2.2.1.map Pr)),(8192,dV 0 2 39 (.agg [.sl (s.1.map eU8),Lo s.2.1]))]) (body:=λs=>To params4 i3 r23 s.1 s.2.1 s.2.2.1 s.2.2.2) (s:=(r23.2.list,r23.2.at_,([]:List Ed),0)) _ ((hE ⟨rfl,r,r,r,r,trivial⟩ ⟨rfl,r,trivial⟩))<|?_
                rintro⟨c24,c25,out26,a27⟩ v14x7 nn
                try dsimp only
                unfold To
                refine A 6 ?_
                refine bD λx_x28 hx_x28=>?_
                refine A 5 ?_
                refine cD r ?_ ?_
                ·refine A 7 ?_
                 refine bD λr29 hr29=>?_
                 refine A 4 ?_
                 refine cD r ?_ ?_
                 ·refine A 4 ?_
                  refine bD λr30 hr30=>?_
                  refine A 2 ?_
                  refine bS ([(Ed.mk 18 a27 r30.1 0 0)]:List Ed) Pr r r r (by simp) r r r<|?_
                  exact B
                 ·exact B
                ·refine A 10 ?_
                 refine bS ([(Ed.mk 22 (i64.wrap ((i64.wrap (i3+1))+r23.1)) 0 0 0)]:List Ed) Pr r r r (by simp) r r r<|?_
                 exact B
               ·exact B
 ·rintro⟨⟩ ⟨⟩ nn
  try dsimp only
  unfold UK
  refine A 4 ?_
  refine bS ([(Ed.mk 14 r5.1 0 0 0)]:List Ed) Pr r r r (by simp) r r r<|?_
  exact B

def Sv (a:BS×Int×(List Int)×Int):List D:=[Qz a.1,Lo a.2.1,.sl (a.2.2.1.map Rq),Lo a.2.2.2]
def Su (ds:List D):BS×Int×(List Int)×Int:=(SJ (ds.getD 0 .top),uI (ds.getD 1 .top),(uL uI) (ds.getD 2 .top),uI (ds.getD 3 .top))
theorem Xp (a:BS×Int×(List Int)×Int):Su (Sv a)=a:=by simp[Su,Sv,uI,VJ (u:=uI) (en:=Rq) (λ_=>rfl)]
instance:QW Sv Su:=⟨Xp⟩
def Vr (b:Qo×BS):D:=Sn b.1
def Xx (b:Qo×BS):List D:=[Qz b.2]
def Vs:Dw.Spec:=Ql [(0,(2,39))] .val Sv Su (λa=>Sy a.1 a.2.1 a.2.2.1 a.2.2.2) Vr Xx
theorem Xq:Qi Tryd.prog 26 Vs:=by
 refine fn2 4 (Qw (l:=[(41,Wg),(16,QL),(42,Wz),(18,TJ)]) (by simp[Yn,QO,Yz,UJ])) Tryd.func26<|?_
 rintro⟨c1,i2,params3,most4⟩
 unfold Sy
 refine A 9 ?_
 refine bD λx_x5 hx_x5=>?_
 refine A 3 ?_
 refine bD λr6 hr6=>?_
 refine A 18 ?_
 refine lP (E:=λ(s:(List Int)×Int×(List Ed)×Int) (g:Nat×Nat×Nat×Nat)=>[(0,.optr 8192 0 0 0),(1,Lo i2),(2,.sl (params3.map Rq)),(3,Lo most4),(8,.optr 8 g.1 0 0),(9,.optr 9 g.2.1 0 0),(10,.osl 10 g.2.2.1 0 s.2.2.1.length),(11,Lo s.2.2.2)]) (O:=λs g=>[(8,dV g.1 3 74 (.agg [Lo 0,.nils,.nils])),(9,dV g.2.1 3 74 (.agg [Lo x_x5,.osl 21 g.2.2.2 0 r6.1.length,.nils])),(10,dW g.2.2.1 5 54 (s.2.2.1.map Pr)),(21,dW g.2.2.2 2 101 (r6.1.map Ry)),(8192,dV 0 2 39 (.agg [.sl (s.1.map eU8),Lo s.2.1]))]) (body:=λs=>SF r6 most4 x_x5 i2 params3 s.1 s.2.1 s.2.2.1 s.2.2.2) (s:=(r6.2.list,r6.2.at_,([]:List Ed),0)) (_,_,_,_) ((hE ⟨rfl,r,r,r,r,r,r,r,trivial⟩ ⟨rfl,r,r,r,r,trivial⟩))<|?_
 rintro⟨c7,c8,code9,s10⟩ ⟨v8x1,v9x1,v10x1,v21x1⟩ nn
 try dsimp only
 unfold SF
 refine A 10 ?_
 refine cD r ?_ ?_
 ·refine A 7 ?_
  refine bD λr11 hr11=>?_
  refine A 4 ?_
  refine cD r ?_ ?_
  ·refine A 4 ?_
   refine bD λr12 hr12=>?_
   refine A 2 ?_
   refine bS ([(Ed.mk 16 s10 r12.1 0 0)]:List Ed) Pr r r r (by simp) r r r<|?_
   exact B
  ·exact B
 ·refine A 11 ?_
  refine bD λr13 hr13=>?_
  refine A 5 ?_
  refine lP (E:=λ(s:(List Int)×Int×(List Ed)×(List Qu)×Int) (g:Nat×Nat×Nat)=>[(0,.optr 8192 0 0 0),(1,Lo i2),(2,.sl (params3.map Rq)),(8,.optr 8 g.1 0 0),(9,.optr 9 g.2.1 0 0),(10,.osl 10 g.2.2 0 s.2.2.1.length),(12,Lo s.2.2.2.2)]) (O:=λs g=>[(8,dV g.1 3 74 (.agg [Lo 0,.nils,.nils])),(9,dV g.2.1 3 74 (.agg [Lo x_x5,.sl (s.2.2.2.1.map Ry),.nils])),(10,dW g.2.2 5 54 (s.2.2.1.map Pr)),(8192,dV 0 2 39 (.agg [.sl (s.1.map eU8),Lo s.2.1]))]) (body:=λs=>SG x_x5 i2 params3 s.1 s.2.1 s.2.2.1 s.2.2.2.1 s.2.2.2.2) (s:=(r13.2.list,r13.2.at_,code9,r6.1,r13.1)) (_,_,_) ((Zr [(21,some (_,⟨true,false,2,101,r6.1.map Ry⟩))] ⟨⟨_,_,r,r,r⟩,trivial⟩ ⟨(RW r),(RW r),(RW r),(RW r),(RW r),(RW r),(RW r),trivial⟩ ⟨(.inl r),(.inr ⟨_,_,_,_,r,r,r,r,XQ r ⟨(WG r),(Vp (l:=r6.1) (en:=Ry) r r r (by simp)),(WG r),trivial⟩⟩),(.inl r),(.inl r),trivial⟩))<|?_
  rintro⟨c14,c15,code16,f17,n18⟩ ⟨v8x2,v9x2,v10x2⟩ nn
  try dsimp only
  unfold SG
  refine A 7 ?_
  refine cD r ?_ ?_
  ·refine A 11 ?_
   refine bD λr19 hr19=>?_
   refine A 8 ?_
   refine bD λr20 hr20=>?_
   refine A 10 ?_
   refine cD r ?_ ?_
   ·refine A 3 ?_
    refine bD λr21 hr21=>?_
    refine A 2 ?_
    refine bS ([(Ed.mk 21 r21.1 (-1) 0 0)]:List Ed) Pr r r r (by simp) r r r<|?_
    exact B
   ·refine A 6 ?_
    refine cD r ?_ ?_
    ·refine A 3 ?_
     refine bD λr22 hr22=>?_
     refine A 4 ?_
     refine cD r ?_ ?_
     ·refine A 3 ?_
      refine bS ([(Ed.mk 20 (-1) 0 0 0)]:List Ed) Pr r r r (by simp) r r r<|?_
      exact B
     ·exact B
    ·exact B
  ·refine A 12 ?_
   refine sC (E:=λ(_s:(List Int)×Int×Int×Int) (g:Nat×Nat×Nat×Nat)=>[(0,.optr 8192 0 0 0),(8,.optr 8 g.1 0 0),(9,.optr 9 g.2.1 0 0),(10,.osl 10 g.2.2.1 0 code16.length),(13,.optr 13 g.2.2.2 0 0)]) (O:=λs g=>[(8,dV g.1 3 74 (.agg [Lo 0,.nils,.nils])),(9,dV g.2.1 3 74 (.agg [Lo x_x5,.sl (f17.map Ry),.nils])),(10,dW g.2.2.1 5 54 (code16.map Pr)),(13,dV g.2.2.2 5 54 (.agg [Lo s.2.2.1,Lo 0,Lo 0,Lo 0,UI s.2.2.2])),(8192,dV 0 2 39 (.agg [.sl (s.1.map eU8),Lo s.2.1]))]) (j:=λs=>Rm code16 x_x5 f17 s.1 s.2.1 s.2.2.1 s.2.2.2) ?_ ?_
   ·exact B
   ·rintro⟨c23,c24,end25,end26⟩ ⟨v8x3,v9x3,v10x3,v13x3⟩ nn
    try dsimp only
    unfold Rm
    refine A 4 ?_
    refine bS ([(Ed.mk end25 0 0 0 end26)]:List Ed) Pr r r r (by simp) r r r<|cK λhq=>aP (code16) (([(Ed.mk end25 0 0 0 end26)]:List Ed)) Pr r r r r r r r (by simp) (Ty _ _ r) r r (by simp) (Tj _ _ r) (λ_=>r) r hq<|?_
    refine A 10 ?_
    refine lP (E:=λ(s:(List Int)×Int×(List Ed)×Int) (g:Nat×Nat×Nat)=>[(0,.optr 8192 0 0 0),(8,.optr 8 g.1 0 0),(9,.optr 9 g.2.1 0 0),(10,.osl 10 g.2.2 0 s.2.2.1.length),(14,Lo s.2.2.2)]) (O:=λs g=>[(8,dV g.1 3 74 (.agg [Lo 0,.nils,.nils])),(9,dV g.2.1 3 74 (.agg [Lo x_x5,.sl (f17.map Ry),.nils])),(10,dW g.2.2 5 54 (s.2.2.1.map Pr)),(8192,dV 0 2 39 (.agg [.sl (s.1.map eU8),Lo s.2.1]))]) (body:=λs=>RJ x_x5 f17 s.1 s.2.1 s.2.2.1 s.2.2.2) (s:=(c23,c24,code16++([(Ed.mk end25 0 0 0 end26)]:List Ed),0)) (_,_,_) ((hE ⟨rfl,r,r,r,r,trivial⟩ ⟨rfl,r,r,r,trivial⟩))<|?_
    rintro⟨c27,c28,code29,k30⟩ ⟨v8x4,v9x4,v10x4⟩ nn
    try dsimp only
    unfold RJ
    refine A 9 ?_
    refine cD r ?_ ?_
    ·refine A 8 ?_
     refine bD λr31 hr31=>?_
     refine A 6 ?_
     refine sC (E:=λ(s:Int) (g:Nat×Nat×Nat)=>[(0,.optr 8192 0 0 0),(8,.optr 8 g.1 0 0),(9,.optr 9 g.2.1 0 0),(10,.osl 10 g.2.2 0 code29.length),(14,Lo k30),(15,Lo s)]) (O:=λ_ g=>[(8,dV g.1 3 74 (.agg [Lo 0,.nils,.nils])),(9,dV g.2.1 3 74 (.agg [Lo x_x5,.sl (f17.map Ry),.nils])),(10,dW g.2.2 5 54 (code29.map Pr)),(8192,dV 0 2 39 (.agg [.sl (r31.2.list.map eU8),Lo r31.2.at_]))]) (j:=λs=>QP k30 code29 r31 s) ?_ ?_
     ·exact B
     ·rintro to32 ⟨v8x5,v9x5,v10x5⟩ nn
      try dsimp only
      unfold QP
      refine A 1 ?_
      refine sC (E:=λ(s:Bool) (g:Nat×Nat×Nat)=>[(0,.optr 8192 0 0 0),(8,.optr 8 g.1 0 0),(9,.optr 9 g.2.1 0 0),(10,.osl 10 g.2.2 0 code29.length),(14,Lo k30),(15,Lo to32),(107,.bool s)]) (O:=λ_ g=>[(8,dV g.1 3 74 (.agg [Lo 0,.nils,.nils])),(9,dV g.2.1 3 74 (.agg [Lo x_x5,.sl (f17.map Ry),.nils])),(10,dW g.2.2 5 54 (code29.map Pr)),(8192,dV 0 2 39 (.agg [.sl (r31.2.list.map eU8),Lo r31.2.at_]))]) (j:=λs=>RK k30 code29 r31 to32 s) ?_ ?_
      ·exact B
      ·rintro x33 ⟨v8x6,v9x6,v10x6⟩ nn
       try dsimp only
       unfold RK
       refine cD r ?_ ?_
       ·refine A 6 ?_
        refine bD λcode_o34 hcode_o34=>sE (l:=code29) (en:=Pr) (q':=(Ed.mk code_o34.Op to32 code_o34.B code_o34.C code_o34.Imm)) r r r r r r r (by simp) hcode_o34 r r r r r<|?_
        exact B
       ·refine A 6 ?_
        refine bD λcode_e35 hcode_e35=>?_
        refine A 3 ?_
        refine WI r ?_ ?_
        ·refine A 4 ?_
         refine bD λcode_e36 hcode_e36=>?_
         refine A 6 ?_
         refine cD r ?_ ?_
         ·refine A 6 ?_
          refine bD λcode_o37 hcode_o37=>sE (l:=code29) (en:=Pr) (q':=(Ed.mk code_o37.Op code_o37.A to32 code_o37.C code_o37.Imm)) r r r r r r r (by simp) hcode_o37 r r r r r<|?_
          exact B
         ·exact B
        ·exact B
    ·refine A 19 ?_
     refine WM (b:=((Qo.mk x_x5 f17 code29),(BS.mk c27 c28))) r ?_ r r ?_ (by first|rfl|(simp only[Av];rfl)|(simp only[Le];rfl)|(simp only[Av,Le];rfl)|(simp[Vr,Sn];try rfl))
     all_goals first|(simp;done)|(simp;omega)|rfl|(simp[QT,QI];done)

def RI (a:BS×Int×Int):List D:=[Qz a.1,Lo a.2.1,Lo a.2.2]
def RH (ds:List D):BS×Int×Int:=(SJ (ds.getD 0 .top),uI (ds.getD 1 .top),uI (ds.getD 2 .top))
theorem Xv (a:BS×Int×Int):RH (RI a)=a:=by simp[RH,RI,uI]
instance:QW RI RH:=⟨Xv⟩
def XT (b:Qj×BS):D:=Ud b.1
def XS (b:Qj×BS):List D:=[Qz b.2]
def Vw:Dw.Spec:=Ql [(0,(2,39))] .val RI RH (λa=>SK a.1 a.2.1 a.2.2) XT XS
theorem Xw:Qi Tryd.prog 12 Vw:=by
 refine fn2 3 (Qw (l:=[(16,QL),(26,Vs)]) (by simp[QO,Xq])) Tryd.func12<|?_
 rintro⟨c1,funcs2,most3⟩
 unfold SK
 refine A 16 ?_
 refine bD λr4 hr4=>?_
 refine A 5 ?_
 refine lP (E:=λ(s:(List Int)×Int×(List Int)×Int) (g:Nat×Nat)=>[(0,.optr 8192 0 0 0),(2,Lo most3),(6,.optr 6 g.1 0 0),(7,.osl 7 g.2 0 s.2.2.1.length),(8,Lo s.2.2.2)]) (O:=λs g=>[(6,dV g.1 1 42 (.agg [.nils])),(7,dW g.2 1 3 (s.2.2.1.map Rq)),(8192,dV 0 2 39 (.agg [.sl (s.1.map eU8),Lo s.2.1]))]) (body:=λs=>SN most3 s.1 s.2.1 s.2.2.1 s.2.2.2) (s:=(r4.2.list,r4.2.at_,([0]:List Int),r4.1)) (_,_) ((hE ⟨rfl,r,r,r,r,trivial⟩ ⟨rfl,r,r,trivial⟩))<|?_
 rintro⟨c5,c6,params7,n8⟩ ⟨v6x1,v7x1⟩ nn
 try dsimp only
 unfold SN
 refine A 7 ?_
 refine cD r ?_ ?_
 ·exact B
 ·refine A 17 ?_
  refine lP (E:=λ(s:(List Int)×Int×(List Qo)×Int×(List Int)) (g:Nat×Nat)=>[(0,.optr 8192 0 0 0),(2,Lo most3),(6,.optr 6 g.1 0 0),(7,.sl (s.2.2.2.2.map Rq)),(9,.optr 9 g.2 0 0),(10,Lo s.2.2.2.1)]) (O:=λs g=>[(6,dV g.1 1 42 (.agg [.nils])),(9,dV g.2 1 42 (.agg [.sl (s.2.2.1.map Sn)])),(8192,dV 0 2 39 (.agg [.sl (s.1.map eU8),Lo s.2.1]))]) (body:=λs=>SO most3 s.1 s.2.1 s.2.2.1 s.2.2.2.1 s.2.2.2.2) (s:=(c5,c6,[],0,params7)) (_,_) ((Zr [(7,some (_,⟨true,false,1,3,params7.map Rq⟩))] ⟨⟨_,_,r,r,r⟩,trivial⟩ ⟨(RW r),(RW r),(RW r),(Vq (Vp (l:=params7) (en:=Rq) r r r (by simp))),(RW r),(RW r),trivial⟩ ⟨(.inl r),(.inr ⟨_,_,_,_,r,r,r,r,XQ r ⟨(Wf Sn r),trivial⟩⟩),(.inl r),trivial⟩))<|?_
  rintro⟨c10,c11,p12,i13,params14⟩ ⟨v6x2,v9x2⟩ nn
  try dsimp only
  unfold SO
  refine A 9 ?_
  refine cD r ?_ ?_
  ·refine A 13 ?_
   refine bD λr15 hr15=>?_
   refine A 1 ?_
   refine bS ([r15.1]:List Qo) Sn r r r (by simp) r r r<|?_
   refine A 16 ?_
   exact wf [11] λ_=>B
  ·exact B

def Abk (b:Bool):D:=.bool b
def YD:Dw.Spec:=Ql [] .ground Qy Qx (λa=>VD a) Abk noE
theorem AaE:Qi Tryd.prog 57 YD:=by
 refine fn2 1 (RE) Tryd.func57<|?_
 intro a
 unfold VD
 exact B

def AaH (b:Bool):D:=.bool b
def Ww:Dw.Spec:=Ql [] .ground Qy Qx (λa=>SH a) AaH noE
theorem XE:Qi Tryd.prog 58 Ww:=by
 refine fn2 1 (RE) Tryd.func58<|?_
 intro n1
 unfold SH
 refine A 12 ?_
 refine lP (E:=λ(s:Int) (_g:Unit)=>[(0,Lo n1),(3,Lo s)]) (O:=λ_ _=>[]) (body:=λs=>TU n1 s) (s:=1) () ((hE ⟨rfl,r,trivial⟩ trivial))<|?_
 rintro k2 ⟨⟩ nn
 try dsimp only
 unfold TU
 exact B

def Tu (a:(List Qu)):List D:=[.sl (a.map Ry)]
def Tt (ds:List D):(List Qu):=(uL YU) (ds.getD 0 .top)
theorem Aae (a:(List Qu)):Tt (Tu a)=a:=by simp[Tt,Tu,VJ (u:=YU) (en:=Ry) AbR]
instance:QW Tu Tt:=⟨Aae⟩
def AaJ (b:Int):D:=Lo b
def Yd:Dw.Spec:=Ql [] .ground Tu Tt (λa=>Ve a) AaJ noE
theorem Aaf:Qi Tryd.prog 43 Yd:=by
 refine fn2 1 (Qw (l:=[(57,YD),(58,Ww)]) (by simp[AaE,XE])) Tryd.func43<|?_
 intro s1
 unfold Ve
 refine A 13 ?_
 refine cD r ?_ ?_
 ·exact B
 ·refine A 9 ?_
  refine lP (E:=λ(s:Int) (_g:Unit)=>[(0,.sl (s1.map Ry)),(3,Lo s)]) (O:=λ_ _=>[]) (body:=λs=>UR s1 s) (s:=0) () ((hE ⟨rfl,r,trivial⟩ trivial))<|?_
  rintro i2 ⟨⟩ nn
  try dsimp only
  unfold UR
  exact B

def AaF (b:Int):D:=Lo b
def Yb:Dw.Spec:=Ql [] .ground Tu Tt (λa=>Vc a) AaF noE
theorem Aaa:Qi Tryd.prog 27 Yb:=by
 refine fn2 1 (Qw (l:=[(43,Yd)]) (by simp[Aaf])) Tryd.func27<|?_
 intro s1
 unfold Vc
 refine A 14 ?_
 refine bD λr2 hr2=>?_
 refine A 4 ?_
 refine cD r ?_ ?_
 ·exact B
 ·refine A 9 ?_
  refine lP (E:=λ(s:Int×Int) (_g:Unit)=>[(0,.sl (s1.map Ry)),(3,Lo s.1),(4,Lo s.2)]) (O:=λ_ _=>[]) (body:=λs=>UQ s1 s.1 s.2) (s:=(16,0)) () ((hE ⟨rfl,r,r,trivial⟩ trivial))<|?_
  rintro⟨a3,i4⟩ ⟨⟩ nn
  try dsimp only
  unfold UQ
  exact B

def Uy (a:Qj):List D:=[Ud a]
def Ux (ds:List D):Qj:=UO (ds.getD 0 .top)
theorem Aag (a:Qj):Ux (Uy a)=a:=by simp[Ux,Uy]
instance:QW Uy Ux:=⟨Aag⟩
def AaK (b:Int):D:=Lo b
def Ye:Dw.Spec:=Ql [] .ground Uy Ux (λa=>Vg a) AaK noE
theorem Aah:Qi Tryd.prog 13 Ye:=by
 refine fn2 1 (Qw (l:=[(27,Yb)]) (by simp[Aaa])) Tryd.func13<|?_
 intro p1
 unfold Vg
 refine A 18 ?_
 refine lP (E:=λ(s:Int×Int) (g:Nat)=>[(1,.optr 1 g 0 0),(3,Lo s.1),(4,Lo s.2)]) (O:=λ_ g=>[(1,dV g 1 42 (.agg [.sl (p1.Funcs.map Sn)]))]) (body:=λs=>US p1 s.1 s.2) (s:=(16,0)) _ ((hE ⟨rfl,r,r,trivial⟩ ⟨rfl,trivial⟩))<|?_
 rintro⟨a2,i3⟩ v1x1 nn
 try dsimp only
 unfold US
 exact B

def TX (a:Qj×Int):List D:=[Ud a.1,Lo a.2]
def TW (ds:List D):Qj×Int:=(UO (ds.getD 0 .top),uI (ds.getD 1 .top))
theorem AaM (a:Qj×Int):TW (TX a)=a:=by simp[TW,TX,uI]
instance:QW TX TW:=⟨AaM⟩
def Abm (b:Int):D:=Lo b
def Xd:Dw.Spec:=Ql [] .ground TX TW (λa=>Uj a.1 a.2) Abm noE
theorem Yf:Qi Tryd.prog 44 Xd:=by
 refine fn2 2 (RE) Tryd.func44<|?_
 rintro⟨p1,i2⟩
 unfold Uj
 refine A 16 ?_
 refine bD λx_x3 hx_x3=>?_
 refine A 13 ?_
 refine lP (E:=λ(s:Int×Int) (g:Nat)=>[(2,.optr 2 g 0 0),(5,Lo s.1),(6,.sl (x_x3.Code.map Pr)),(7,Lo s.2)]) (O:=λ_ g=>[(2,dV g 1 42 (.agg [.sl (p1.Funcs.map Sn)]))]) (body:=λs=>Vl x_x3 p1 s.1 s.2) (s:=(0,0)) _ ((hE ⟨rfl,r,r,r,trivial⟩ ⟨rfl,trivial⟩))<|?_
 rintro⟨n4,k5⟩ v2x1 nn
 try dsimp only
 unfold Vl
 exact B

def AaG (b:Bool):D:=.bool b
def Wv:Dw.Spec:=Ql [] .ground Qy Qx (λa=>TC a) AaG noE
theorem XC:Qi Tryd.prog 59 Wv:=by
 refine fn2 1 (RE) Tryd.func59<|?_
 intro a
 unfold TC
 exact B

def VF (a:Int×Int):List D:=[Lo a.1,Lo a.2]
def VE (ds:List D):Int×Int:=(uI (ds.getD 0 .top),uI (ds.getD 1 .top))
theorem AbD (a:Int×Int):VE (VF a)=a:=by simp[VE,VF,uI]
instance:QW VF VE:=⟨AbD⟩
def Ace (b:Int×Int):D:=.tup [Lo b.1,Lo b.2]
def ZH:Dw.Spec:=Ql [] .ground VF VE (λa=>VU a.1 a.2) Ace noE
theorem AbE:Qi Tryd.prog 45 ZH:=by
 refine fn2 2 (Qw (l:=[(59,Wv),(58,Ww)]) (by simp[XC,XE])) Tryd.func45<|?_
 rintro⟨n1,align2⟩
 unfold VU
 refine A 6 ?_
 refine sC (E:=λ(_s:Unit) (_g:Unit)=>[(0,Lo n1),(1,Lo align2)]) (O:=λ_ _=>[]) (j:=λ_=>Wd align2 n1) ?_ ?_
 ·exact B
 ·rintro⟨⟩ ⟨⟩ nn
  try dsimp only
  unfold Wd
  refine A 6 ?_
  refine sC (E:=λ(s:Int) (_g:Unit)=>[(6,Lo s)]) (O:=λ_ _=>[]) (j:=λs=>Vf s) ?_ ?_
  ·exact B
  ·rintro m3 ⟨⟩ nn
   try dsimp only
   unfold Vf
   exact B

def Tw (a:Qj×Int×Int):List D:=[Ud a.1,Lo a.2.1,Lo a.2.2]
def Tv (ds:List D):Qj×Int×Int:=(UO (ds.getD 0 .top),uI (ds.getD 1 .top),uI (ds.getD 2 .top))
theorem Zk (a:Qj×Int×Int):Tv (Tw a)=a:=by simp[Tv,Tw,uI]
instance:QW Tw Tv:=⟨Zk⟩
def SC (b:Qn×Int):D:=.tup [QY b.1,Lo b.2]
def Vo:Dw.Spec:=Ql [] .val Tw Tv (λa=>SB a.1 a.2.1 a.2.2) SC noE
theorem WB:Qi Tryd.prog 28 Vo:=by
 refine fn2 3 (Qw (l:=[(44,Xd),(45,ZH)]) (by simp[Yf,AbE])) Tryd.func28<|?_
 rintro⟨p1,i2,align3⟩
 unfold SB
 refine A 11 ?_
 refine bD λr4 hr4=>?_
 refine A 18 ?_
 refine bD λx_x5 hx_x5=>?_
 refine A 13 ?_
 refine lP (E:=λ(s:(List Int)×Int×Int) (g:Nat×Nat×Nat×Nat)=>[(2,Lo align3),(6,.optr 6 g.1 0 0),(8,.optr 8 g.2.1 0 0),(9,Lo s.2.2),(10,.sl (x_x5.Slots.map Ry)),(11,Lo s.2.1)]) (O:=λs g=>[(6,dV g.1 3 78 (.agg [Lo 0,Lo 0,.osl 900 g.2.2.1 0 (([]:List Int).length)])),(8,dV g.2.1 3 78 (.agg [Lo r4,Lo 0,.osl 901 g.2.2.2 0 s.1.length])),(900,dW g.2.2.1 1 3 (([]:List Int).map Rq)),(901,dW g.2.2.2 1 3 (s.1.map Rq))]) (body:=λs=>TM x_x5 align3 r4 s.1 s.2.1 s.2.2) (s:=(([]:List Int),0,r4)) (_,_,_,_) ((Aba (gg:=6) (off:=2) (tt:=900) (s:=1) (tyy:=3) r r r r (Aba (gg:=8) (off:=2) (tt:=901) (s:=1) (tyy:=3) r r r r (hE ⟨rfl,r,r,r,r,r,trivial⟩ ⟨rfl,r,r,r,trivial⟩))))<|?_
 rintro⟨x6,k7,end8⟩ ⟨v6x1,v8x1,v900x1,v901x1⟩ nn
 try dsimp only
 unfold TM
 refine A 9 ?_
 refine cD r ?_ ?_
 ·refine A 9 ?_
  refine bD λx_x9 hx_x9=>?_
  refine A 3 ?_
  refine bD λr10 hr10=>?_
  refine A 8 ?_
  refine sC (E:=λ(s:Qu×Qu×Int×Int×Bool) (g:Nat×Nat×Nat×Nat)=>[(2,Lo align3),(6,.optr 6 g.1 0 0),(8,.optr 8 g.2.1 0 0),(10,.sl (x_x5.Slots.map Ry)),(11,Lo k7),(12,Lo r10.1),(48,Lo r10.1),(49,.sl (x_x5.Slots.map Ry)),(50,Lo k7),(51,.fptr (.agg [Lo s.1.Size,Lo s.1.Align]) 0),(52,.fptr (.agg [Lo s.2.1.Size,Lo s.2.1.Align]) 0),(53,Lo s.2.2.1),(54,Lo s.2.2.2.1),(55,.bool s.2.2.2.2)]) (O:=λ_ g=>[(6,dV g.1 3 78 (.agg [Lo 0,Lo 0,.osl 900 g.2.2.1 0 (([]:List Int).length)])),(8,dV g.2.1 3 78 (.agg [Lo r4,Lo 0,.osl 901 g.2.2.2 0 x6.length])),(900,dW g.2.2.1 1 3 (([]:List Int).map Rq)),(901,dW g.2.2.2 1 3 (x6.map Rq))]) (j:=λs=>TN x6 r10 x_x5 k7 s.1 s.2.1 s.2.2.1 s.2.2.2.1 s.2.2.2.2) ?_ ?_
  ·refine A 5 ?_
   refine WI r ?_ ?_
   ·refine A 26 ?_
    refine SI (b:=((Qn.mk 0 0 ([])),9)) r ?_ r r ?_ (by first|rfl|(simp only[Av];rfl)|(simp only[Le];rfl)|(simp only[Av,Le];rfl)|(simp[SC,QY];try rfl)) (by decide)
    all_goals first|(simp;done)|(simp;omega)|rfl|(simp[QT,QI];done)
   ·refine A 3 ?_
    refine bD λx_x17 hx_x17=>?_
    refine A 8 ?_
    refine cD r ?_ ?_
    ·refine A 14 ?_
     refine SI (b:=((Qn.mk 0 0 ([])),9)) r ?_ r r ?_ (by first|rfl|(simp only[Av];rfl)|(simp only[Le];rfl)|(simp only[Av,Le];rfl)|(simp[SC,QY];try rfl)) (by decide)
     all_goals first|(simp;done)|(simp;omega)|rfl|(simp[QT,QI];done)
    ·exact B
  ·rintro⟨x11,x12,x13,x14,x15⟩ ⟨v6x2,v8x2,v900x2,v901x2⟩ nn
   try dsimp only
   unfold TN
   refine A 22 ?_
   refine bD λx_x16 hx_x16=>?_
   refine A 13 ?_
   exact xL (s:=((([]:List Int)++x6)++([r10.1]:List Int),i64.wrap (k7+1),i64.wrap (r10.1+x_x16.Size))) (_,_,_,_) ((Vn (E1:=[(2,Lo align3),(6,.optr 6 _ 0 0),(8,.optr 8 _ 0 0),(9,Lo (i64.wrap (r10.1+x_x16.Size))),(10,.sl (x_x5.Slots.map Ry)),(11,Lo (i64.wrap (k7+1)))]) (O1:=[(6,dV _ 3 78 (.agg [Lo 0,Lo 0,.osl 900 _ 0 (([]:List Int).length)])),(8,dV _ 3 78 (.agg [Lo r4,Lo 0,.osl 14 _ 0 (((([]:List Int)++x6)++([r10.1]:List Int)).length)])),(14,dW _ 1 3 (((([]:List Int)++x6)++([r10.1]:List Int)).map Rq)),(900,dW _ 1 3 (([]:List Int).map Rq))]) (hE ⟨rfl,r,r,r,r,r,trivial⟩ ⟨rfl,r,r,r,trivial⟩) (λ_=>Sz (λg=>bif Nat.beq g 14 then 901 else g) (by rfl) (hE ⟨rfl,r,r,r,r,r,trivial⟩ ⟨rfl,r,r,r,trivial⟩))))
 ·refine A 9 ?_
  refine bD λr18 hr18=>?_
  refine A 14 ?_
  refine WI r ?_ ?_
  ·refine A 15 ?_
   refine SI (b:=((Qn.mk 0 0 ([])),9)) r ?_ r r ?_ (by first|rfl|(simp only[Av];rfl)|(simp only[Le];rfl)|(simp only[Av,Le];rfl)|(simp[SC,QY];try rfl)) (by decide)
   all_goals first|(simp;done)|(simp;omega)|rfl|(simp[QT,QI];done)
  ·refine A 5 ?_
   refine cD r ?_ ?_
   ·refine A 9 ?_
    refine SI (b:=((Qn.mk 0 0 ([])),9)) r ?_ r r ?_ (by first|rfl|(simp only[Av];rfl)|(simp only[Le];rfl)|(simp only[Av,Le];rfl)|(simp[SC,QY];try rfl)) (by decide)
    all_goals first|(simp;done)|(simp;omega)|rfl|(simp[QT,QI];done)
   ·refine A 17 ?_
    refine SI (b:=((Qn.mk r4 r18.1 x6),0)) r ?_ r r ?_ (by first|rfl|(simp only[Av];rfl)|(simp only[Le];rfl)|(simp only[Av,Le];rfl)|(simp[SC,QY];try rfl)) (by decide)
    all_goals first|(simp;done)|(simp;omega)|rfl|(simp[QT,QI];done)

def Zl (b:(List Qn)×Int):D:=.tup [.sl (b.1.map QY),Lo b.2]
def WC:Dw.Spec:=Ql [] .val TX TW (λa=>SP a.1 a.2) Zl noE
theorem YG:Qi Tryd.prog 14 WC:=by
 refine fn2 2 (Qw (l:=[(28,Vo)]) (by simp[WB])) Tryd.func14<|?_
 rintro⟨p1,align2⟩
 unfold SP
 refine A 19 ?_
 refine lP (E:=λ(s:(List Qn)×Int) (g:Nat×Nat)=>[(1,Lo align2),(2,.optr 2 g.1 0 0),(6,.osl 6 g.2 0 s.1.length),(7,Lo s.2)]) (O:=λs g=>[(2,dV g.1 1 42 (.agg [.sl (p1.Funcs.map Sn)])),(6,dW g.2 3 78 (s.1.map QY))]) (body:=λs=>Tx p1 align2 s.1 s.2) (s:=(([]:List Qn),0)) (_,_) ((hE ⟨rfl,r,r,r,trivial⟩ ⟨rfl,r,trivial⟩))<|?_
 rintro⟨out3,i4⟩ ⟨v2x1,v6x1⟩ nn
 try dsimp only
 unfold Tx
 refine A 10 ?_
 refine cD r ?_ ?_
 ·refine A 9 ?_
  refine bD λr5 hr5=>?_
  refine A 16 ?_
  refine cD r ?_ ?_
  ·exact B
  ·refine A 5 ?_
   refine bS ([r5.1]:List Qn) QY r r r (by simp) r r r<|?_
   exact B
 ·exact B

def Uw (a:QK):List D:=[Xk a]
def Uv (ds:List D):QK:=Xn (ds.getD 0 .top)
theorem Aac (a:QK):Uv (Uw a)=a:=by simp[Uv,Uw]
instance:QW Uw Uv:=⟨Aac⟩
def AaI (b:Bool):D:=.bool b
def Yc:Dw.Spec:=Ql [] .ground Uw Uv (λa=>Vd a) AaI noE
theorem Aad:Qi Tryd.prog 60 Yc:=by
 refine fn2 1 (Qw (l:=[(59,Wv)]) (by simp[XC])) Tryd.func60<|?_
 intro a
 unfold Vd
 exact B

def Uh (a:QK×Int):List D:=[Xk a.1,Lo a.2]
def Ug (ds:List D):QK×Int:=(Xn (ds.getD 0 .top),uI (ds.getD 1 .top))
theorem ZF (a:QK×Int):Ug (Uh a)=a:=by simp[Ug,Uh,uI]
instance:QW Uh Ug:=⟨ZF⟩
def Aab (b:Bool):D:=.bool b
def XD:Dw.Spec:=Ql [] .ground Uh Ug (λa=>UL a.1 a.2) Aab noE
theorem ZG:Qi Tryd.prog 46 XD:=by
 refine fn2 2 (Qw (l:=[(60,Yc)]) (by simp[Aad])) Tryd.func46<|?_
 intro a
 unfold UL
 exact B

def UA (a:Qj×Int×Int×Qn):List D:=[Ud a.1,Lo a.2.1,Lo a.2.2.1,QY a.2.2.2]
def Uz (ds:List D):Qj×Int×Int×Qn:=(UO (ds.getD 0 .top),uI (ds.getD 1 .top),uI (ds.getD 2 .top),VZ (ds.getD 3 .top))
theorem Aaj (a:Qj×Int×Int×Qn):Uz (UA a)=a:=by simp[Uz,UA,uI]
instance:QW UA Uz:=⟨Aaj⟩
def AaN (b:Int):D:=Lo b
def Yg:Dw.Spec:=Ql [] .ground UA Uz (λa=>Vh a.1 a.2.1 a.2.2.1 a.2.2.2) AaN noE
theorem Aak:Qi Tryd.prog 29 Yg:=by
 refine fn2 4 (Qw (l:=[(28,Vo),(44,Xd),(46,XD)]) (by simp[WB,Yf,ZG])) Tryd.func29<|?_
 rintro⟨p1,i2,align3,y4⟩
 unfold Vh
 refine A 12 ?_
 refine bD λr5 hr5=>?_
 refine A 16 ?_
 refine cD r ?_ ?_
 ·exact B
 ·refine A 7 ?_
  refine bD λx_x6 hx_x6=>?_
  refine A 6 ?_
  refine sC (E:=λ(_s:Unit) (g:Nat×Nat)=>[(2,Lo align3),(7,.optr 7 g.1 0 0),(9,.optr 9 g.2 0 0),(11,.sl (x_x6.Slots.map Ry))]) (O:=λ_ g=>[(7,dV g.1 3 78 (QY y4)),(9,dV g.2 3 78 (QY r5.1))]) (j:=λ_=>UU x_x6 y4 align3 r5) ?_ ?_
  ·exact B
  ·rintro⟨⟩ ⟨v7x1,v9x1⟩ nn
   try dsimp only
   unfold UU
   refine A 7 ?_
   refine lP (E:=λ(s:Int) (g:Nat×Nat)=>[(2,Lo align3),(7,.optr 7 g.1 0 0),(9,.optr 9 g.2 0 0),(11,.sl (x_x6.Slots.map Ry)),(12,Lo s)]) (O:=λ_ g=>[(7,dV g.1 3 78 (QY y4)),(9,dV g.2 3 78 (QY r5.1))]) (body:=λs=>UT x_x6 y4 align3 r5 s) (s:=0) (_,_) ((hE ⟨rfl,r,r,r,r,trivial⟩ ⟨rfl,r,trivial⟩))<|?_
   rintro k7 ⟨v7x2,v9x2⟩ nn
   try dsimp only
   unfold UT
   exact B

def UE (a:Qo×Qn×Ed):List D:=[Sn a.1,QY a.2.1,Pr a.2.2]
def UD (ds:List D):Qo×Qn×Ed:=(XZ (ds.getD 0 .top),VZ (ds.getD 1 .top),Wn (ds.getD 2 .top))
theorem Aan (a:Qo×Qn×Ed):UD (UE a)=a:=by simp[UD,UE]
instance:QW UE UD:=⟨Aan⟩
def AaO (b:Ed):D:=Pr b
def Yj:Dw.Spec:=Ql [] .ground UE UD (λa=>Vj a.1 a.2.1 a.2.2) AaO noE
theorem Aao:Qi Tryd.prog 47 Yj:=by
 refine fn2 3 (RE) Tryd.func47<|?_
 intro a
 unfold Vj
 exact B

end
end Go.Proofs.YtcppfbhmhlhncaaDoor
