/-
  Programs on typed data, and the proofs that the code does what they say; written by a program (dx.py).
-/
import Derived.Test.YtbnconokpjdnjaaDoorProg
import Derived.Test.YtbnconokpjdnjaaDoorDd
import Derived.KernelRfl
import Derived.Test.YtbnconokpjdnjaaDoorSh
import Derived.Test.YtbnconokpjdnjaaDoorDxP
namespace Go.Proofs.YtbnconokpjdnjaaDoor
open Go Go.Dw Go.Proofs
open Go.IntKind (i64)
set_option maxRecDepth 100000
set_option maxHeartbeats 40000000
open Go.Dw renaming Sf -> bD,Rr -> cK,Ym -> bS,Vi -> cG,YS -> aP,UQ -> sE,Wh -> iO,YU -> cD,Aal -> xC,Xe -> hE,Aam -> lP,YA -> sC,Wu -> bC,rf -> r
noncomputable section
def Tc (a : Ed) : List D:=[QZ a]
def Tb (ds : List D) : Ed:=Wv (ds.getD 0 .top)
theorem Yl (a : Ed) : Tb (Tc a) = a:=by simp [Tb,Tc]
instance : RP Tc Tb:=⟨Yl⟩
def Yy (b : (List UInt8)) : D:=.str b
def Vh : Dw.Spec:=QW [] .ground Tc Tb (λa=>Sc a) Yy noE
theorem VW : QU Tryd.prog 7 Vh:=by
 refine fn2 1 (Rn (l:=[(21,YG),(22,Xt),(23,YH)]) (by simp [Abf,Zz,Abj])) Tryd.func7<|?_
 intro x1
 unfold Sc
 refine A 6 ?_
 refine sC (E:=λ(_s : Unit) (g : Nat)=>[(1,.optr 1 g 0 0)]) (O:=λ_ g=>[(1,dV g 5 24 (QZ x1))]) (j:=λ_=>Um x1) ?_ ?_
 ·exact B
 ·rintro ⟨⟩ v1x1 nn
  try dsimp only
  unfold Um
  refine A 4 ?_
  refine cK λhq=>Aak (kk:=21) TS D.str r r r hq r<|bD λe2 he2=>Xq (q:=e2) (l:=TS) (en:=D.str) (j:=x1.Op.toNat) r r r he2 (λ_=>r)<|?_
  refine A 22 ?_
  refine cK λhq=>Aak (kk:=21) Tn D.str r r r hq r<|bD λe3 he3=>Xq (q:=e3) (l:=Tn) (en:=D.str) (j:=x1.Op.toNat) r r r he3 (λ_=>r)<|AbU r λnn=>?_
  refine A 3 ?_
  refine lP (E:=λ(s : (List (List UInt8)) × ((List UInt8) × Nat)) (g : Nat × Nat × Nat × Nat)=>[(1,.optr 1 g.1 0 0),(3,.osl 3 g.2.1 0 s.1.length),(4,.optr 4 g.2.2.1 0 0),(31,.mref 31 g.2.2.2)]) (O:=λs g=>[(1,dV g.1 5 24 (QZ x1)),(3,dW g.2.1 1 9 (s.1.map D.str)),(4,dV g.2.2.1 3 55 (.agg [Pl x1.A,Pl x1.B,Pl x1.C])),(31,some (g.2.2.2,⟨true,false,0,1,itE s.2⟩))]) (body:=λs=>Se x1 s.1 s.2) (s:=(([e2] : List (List UInt8)),(e3,0))) (_,_,_,_) ((hE ⟨rfl,r,r,r,trivial⟩ ⟨rfl,r,r,r,trivial⟩))<|?_
  rintro ⟨words4,x5⟩ ⟨v1x2,v3x2,v4x2,v31x2⟩ nn
  try dsimp only
  unfold Se
  refine A 2 ?_
  refine AbT (p:=x5) r r r (λhq=>?_) (λhq=>?_)
  ·refine A 22 ?_
   refine cD r ?_ ?_
   ·exact B
   ·refine A 3 ?_
    refine AbR r r<|?_
    refine A 1 ?_
    refine cK λhq=>Xv r r r hq<|bD λnumbers_e7 hnumbers_e7=>VF (q:=numbers_e7) (l:=(RA.mk x1.A x1.B x1.C).toList) (en:=Su) (j:=(x5.2 : Int).toNat) (by simp) r r r hnumbers_e7 r (λ_=>r)<|?_
    exact B
  ·exact B

def Ve (_a : Unit) : List D:=[]
def Vd (_ds : List D) : Unit:=()
theorem YI (a : Unit) : Vd (Ve a) = a:=rfl
instance : RP Ve Vd:=⟨YI⟩
def Zc (b : Bool) : D:=.bool b
def WG : Dw.Spec:=QW [] .ground Ve Vd (λa=>UN) Zc noE
theorem YJ : QU Tryd.prog 6 WG:=by
 refine fn2 0 (Rn (l:=[(7,Vh)]) (by simp [VW])) Tryd.func6<|?_
 intro _
 unfold UN
 exact B

def Vc (a : (List Int) × Int) : List D:=[.sl (a.1.map eU8),Pl a.2]
def Vb (ds : List D) : (List Int) × Int:=((uL uI) (ds.getD 0 .top),uI (ds.getD 1 .top))
theorem ZP (a : (List Int) × Int) : Vb (Vc a) = a:=by simp [Vb,Vc,uI,VX (u:=uI) (en:=eU8) (λ_=>rfl)]
instance : RP Vc Vb:=⟨ZP⟩
def Aas (b : Av) : D:=Ro b
def Yo : Dw.Spec:=QW [] (.ptr 2 64) Vc Vb (λa=>VM a.1 a.2) Aas noE
theorem ZQ : QU Tryd.prog 9 Yo:=by
 refine fn2 2 (RO) Tryd.func9<|?_
 intro a
 unfold VM
 exact B

def RR (a : Av) : List D:=[Ro a]
def RQ (ds : List D) : Av:=SP (ds.getD 0 .top)
theorem WU (a : Av) : RQ (RR a) = a:=by simp [RQ,RR]
instance : RP RR RQ:=⟨WU⟩
def Xy (b : Bool × Av) : D:=.bool b.1
def Xx (b : Bool × Av) : List D:=[Ro b.2]
def Vw : Dw.Spec:=QW [(0,(2,64))] .val RR RQ (λa=>Ut a) Xy Xx
theorem WV : QU Tryd.prog 49 Vw:=by
 refine fn2 1 (RO) Tryd.func49<|?_
 intro a
 unfold Ut
 exact B

def SB (a : Av × Int) : List D:=[Ro a.1,Pl a.2]
def SA (ds : List D) : Av × Int:=(SP (ds.getD 0 .top),uI (ds.getD 1 .top))
theorem WW (a : Av × Int) : SA (SB a) = a:=by simp [SA,SB,uI]
instance : RP SB SA:=⟨WW⟩
def XA (b : Int × Av) : D:=Pl b.1
def Xz (b : Int × Av) : List D:=[Ro b.2]
def RC : Dw.Spec:=QW [(0,(2,64))] .val SB SA (λa=>Pr a.1 a.2) XA Xz
theorem RE : QU Tryd.prog 29 RC:=by
 refine fn2 2 (Rn (l:=[(49,Vw)]) (by simp [WV])) Tryd.func29<|?_
 rintro ⟨c1,n2⟩
 unfold Pr
 refine A 5 ?_
 refine sC (E:=λ(_s : (List Int) × Int) (_g : Unit)=>[(0,.optr 8192 0 0 0),(1,Pl n2)]) (O:=λs _=>[(8192,dV 0 2 64 (.agg [.sl (s.1.map eU8),Pl s.2]))]) (j:=λs=>Ty n2 s.1 s.2) ?_ ?_
 ·exact B
 ·rintro ⟨c3,c4⟩ ⟨⟩ nn
  try dsimp only
  unfold Ty
  refine A 10 ?_
  refine bD λx_x6 hx_x6=>?_
  refine A 15 ?_
  refine Vn (i:=0) (es':=[.agg [.sl (c3.map eU8),Pl (i64.wrap (c4 + 1))]]) r r r r r r r (by first | trivial | (simp; done) | (simp; omega)) r r r r r r<|?_
  exact B

def XE (b : QO × Av) : D:=RJ b.1
def XD (b : QO × Av) : List D:=[Ro b.2]
def UK : Dw.Spec:=QW [(0,(2,64))] .val RR RQ (λa=>SV a) XE XD
theorem Vr : QU Tryd.prog 33 UK:=by
 refine fn2 1 (Rn (l:=[(29,RC)]) (by simp [RE])) Tryd.func33<|?_
 intro c1
 unfold SV
 refine A 7 ?_
 refine bS ([8,4,8,1,2,16,8] : List Int) Su r r r (by simp) r r r<|?_
 refine A 1 ?_
 refine bD λr2 hr2=>?_
 refine A 2 ?_
 refine bD λx_e3 hx_e3=>?_
 refine A 1 ?_
 refine bS ([8,4,1,8,16,2,32,64] : List Int) Su r r r (by simp) r r r<|?_
 exact B

def WY (b : (List QO) × Av) : D:=.sl (b.1.map RJ)
def WX (b : (List QO) × Av) : List D:=[Ro b.2]
def Vs : Dw.Spec:=QW [(0,(2,64))] (.row 2 74) SB SA (λa=>Tj a.1 a.2) WY WX
theorem WN : QU Tryd.prog 50 Vs:=by
 refine fn2 2 (Rn (l:=[(29,RC),(33,UK)]) (by simp [RE,Vr])) Tryd.func50<|?_
 rintro ⟨c1,most2⟩
 unfold Tj
 refine A 16 ?_
 refine bD λr3 hr3=>?_
 refine A 5 ?_
 refine lP (E:=λ(s : (List Int) × Int × (List QO) × Int) (g : Nat)=>[(0,.optr 8192 0 0 0),(5,.osl 5 g 0 s.2.2.1.length),(6,Pl s.2.2.2)]) (O:=λs g=>[(5,dW g 2 74 (s.2.2.1.map RJ)),(8192,dV 0 2 64 (.agg [.sl (s.1.map eU8),Pl s.2.1]))]) (body:=λs=>Tq s.1 s.2.1 s.2.2.1 s.2.2.2) (s:=(r3.2.list,r3.2.at_,([] : List QO),r3.1)) _ ((hE ⟨rfl,r,r,trivial⟩ ⟨rfl,r,trivial⟩))<|?_
 rintro ⟨c4,c5,l6,n7⟩ v5x1 nn
 try dsimp only
 unfold Tq
 refine A 7 ?_
 refine cD r ?_ ?_
 ·refine A 7 ?_
  refine bD λr8 hr8=>?_
  refine A 1 ?_
  refine bS ([r8.1] : List QO) RJ r r r (by simp) r r r<|?_
  exact B
 ·exact B

def Tv (a : Av × QT × Int) : List D:=[Ro a.1,Re a.2.1,Pl a.2.2]
def Tu (ds : List D) : Av × QT × Int:=(SP (ds.getD 0 .top),Wb (ds.getD 1 .top),uI (ds.getD 2 .top))
theorem Xb (a : Av × QT × Int) : Tu (Tv a) = a:=by simp [Tu,Tv,uI]
instance : RP Tv Tu:=⟨Xb⟩
def XK (b : Int × Av) : D:=Pl b.1
def XJ (b : Int × Av) : List D:=[Ro b.2]
def Vy : Dw.Spec:=QW [(0,(2,64))] .val Tv Tu (λa=>TD a.1 a.2.1 a.2.2) XK XJ
theorem Xc : QU Tryd.prog 68 Vy:=by
 refine fn2 3 (Rn (l:=[(29,RC)]) (by simp [RE])) Tryd.func68<|?_
 rintro ⟨c1,f2,s3⟩
 unfold TD
 refine A 18 ?_
 refine lP (E:=λ(s : (List Int) × Int) (g : Nat × Nat)=>[(0,.optr 8192 0 0 0),(2,Pl s3),(4,.optr 4 g.1 0 0),(7,.osl 7 g.2 0 s.1.length),(8,Pl s.2)]) (O:=λs g=>[(4,dV g.1 3 69 (Re f2)),(7,dW g.2 1 3 (s.1.map Su)),(8192,dV 0 2 64 (.agg [.sl (c1.list.map eU8),Pl c1.at_]))]) (body:=λs=>TE f2 s3 c1 s.1 s.2) (s:=(([] : List Int),0)) (_,_) ((hE ⟨rfl,r,r,r,r,trivial⟩ ⟨rfl,r,r,trivial⟩))<|?_
 rintro ⟨l4,k5⟩ ⟨v4x1,v7x1⟩ nn
 try dsimp only
 unfold TE
 exact B

def XG (b : Int × Av) : D:=Aar b.1
def XF (b : Int × Av) : List D:=[Ro b.2]
def TV : Dw.Spec:=QW [(0,(2,64))] .val RR RQ (λa=>Sm a) XG XF
theorem Uv : QU Tryd.prog 32 TV:=by
 refine fn2 1 (Rn (l:=[(29,RC)]) (by simp [RE])) Tryd.func32<|?_
 intro a
 unfold Sm
 exact B

def Tt (a : Av × QT × Int × (List Int)) : List D:=[Ro a.1,Re a.2.1,Pl a.2.2.1,.sl (a.2.2.2.map Su)]
def Ts (ds : List D) : Av × QT × Int × (List Int):=(SP (ds.getD 0 .top),Wb (ds.getD 1 .top),uI (ds.getD 2 .top),(uL uI) (ds.getD 3 .top))
theorem WZ (a : Av × QT × Int × (List Int)) : Ts (Tt a) = a:=by simp [Ts,Tt,uI,VX (u:=uI) (en:=Su) (λ_=>rfl)]
instance : RP Tt Ts:=⟨WZ⟩
def XI (b : (List Ed) × Av) : D:=.sl (b.1.map QZ)
def XH (b : (List Ed) × Av) : List D:=[Ro b.2]
def Vx : Dw.Spec:=QW [(0,(2,64))] (.row 5 24) Tt Ts (λa=>TB a.1 a.2.1 a.2.2.1 a.2.2.2) XI XH
theorem Xa : QU Tryd.prog 51 Vx:=by
 refine fn2 4 (Rn (l:=[(29,RC),(68,Vy),(32,TV)]) (by simp [RE,Xc,Uv])) Tryd.func51<|?_
 rintro ⟨c1,f2,i3,params4⟩
 unfold TB
 refine A 9 ?_
 refine bD λr5 hr5=>?_
 refine A 15 ?_
 refine bD λr6 hr6=>?_
 refine A 4 ?_
 refine bC (E:=λ(_s : Unit) (_g : Unit)=>[(9,Pl r5.1)]) (O:=λ_ _=>[(8192,dV 0 2 64 (.agg [.sl (r6.2.list.map eU8),Pl r6.2.at_]))]) (j:=λ_=>Uw r5 r6) ?_ ?_
 ·refine sC (E:=λ(s : Bool) (g : Nat)=>[(0,.optr 8192 0 0 0),(2,Pl i3),(3,.sl (params4.map Su)),(5,.optr 5 g 0 0),(9,Pl r5.1),(10,Pl (f2.Slots.length : Int)),(11,Pl r6.1),(23,.bool s)]) (O:=λ_ g=>[(5,dV g 3 69 (Re f2)),(8192,dV 0 2 64 (.agg [.sl (r6.2.list.map eU8),Pl r6.2.at_]))]) (j:=λs=>Sh r6 f2 r5 params4 i3 s) ?_ ?_
  ·exact B
  ·rintro x7 v5x1 nn
   try dsimp only
   unfold Sh
   refine cD r ?_ ?_
   ·refine A 4 ?_
    refine bD λr8 hr8=>?_
    refine A 3 ?_
    refine bS ([(Ed.mk 16 r8.1 r5.1 0 0)] : List Ed) QZ r r r (by simp) r r r<|?_
    exact B
   ·refine sC (E:=λ(s : Bool) (g : Nat)=>[(0,.optr 8192 0 0 0),(2,Pl i3),(3,.sl (params4.map Su)),(5,.optr 5 g 0 0),(9,Pl r5.1),(10,Pl (f2.Slots.length : Int)),(11,Pl r6.1),(36,.bool s)]) (O:=λ_ g=>[(5,dV g 3 69 (Re f2)),(8192,dV 0 2 64 (.agg [.sl (r6.2.list.map eU8),Pl r6.2.at_]))]) (j:=λs=>Si r6 f2 r5 params4 i3 s) ?_ ?_
    ·exact B
    ·rintro x9 v5x2 nn
     try dsimp only
     unfold Si
     refine cD r ?_ ?_
     ·refine A 5 ?_
      refine bD λr10 hr10=>?_
      refine A 2 ?_
      refine bS ([(Ed.mk 15 r5.1 r10.1 0 0)] : List Ed) QZ r r r (by simp) r r r<|?_
      exact B
     ·refine sC (E:=λ(s : Bool) (g : Nat)=>[(0,.optr 8192 0 0 0),(2,Pl i3),(3,.sl (params4.map Su)),(5,.optr 5 g 0 0),(9,Pl r5.1),(10,Pl (f2.Slots.length : Int)),(11,Pl r6.1),(49,.bool s)]) (O:=λ_ g=>[(5,dV g 3 69 (Re f2)),(8192,dV 0 2 64 (.agg [.sl (r6.2.list.map eU8),Pl r6.2.at_]))]) (j:=λs=>Sj r6 f2 r5 params4 i3 s) ?_ ?_
      ·exact B
      ·rintro x11 v5x3 nn
       try dsimp only
       unfold Sj
       refine cD r ?_ ?_
       ·refine A 4 ?_
        refine bD λr12 hr12=>?_
        refine A 9 ?_
        refine bD λr13 hr13=>?_
        refine A 3 ?_
        refine bS ([(Ed.mk 17 r13.1 r12.1 0 0)] : List Ed) QZ r r r (by simp) r r r<|?_
        exact B
       ·refine A 7 ?_
        refine cD r ?_ ?_
        ·refine A 4 ?_
         refine bD λr14 hr14=>?_
         refine A 2 ?_
         refine bS ([(Ed.mk 0 r5.1 0 0 r14.1)] : List Ed) QZ r r r (by simp) r r r<|?_
         exact B
        ·refine A 7 ?_
         refine cD r ?_ ?_
         ·refine A 3 ?_
          refine bD λr15 hr15=>?_
          refine A 4 ?_
          refine bD λr16 hr16=>?_
          refine A 2 ?_
          refine bD λr17 hr17=>?_
          refine A 2 ?_
          refine bS ([(Ed.mk (i64.wrap (2 + r15.1)) r5.1 r16.1 r17.1 0)] : List Ed) QZ r r r (by simp) r r r<|?_
          exact B
         ·refine A 7 ?_
          refine cD r ?_ ?_
          ·refine A 4 ?_
           refine bS ([(Ed.mk 14 r5.1 0 0 0)] : List Ed) QZ r r r (by simp) r r r<|?_
           exact B
          ·refine A 7 ?_
           refine cD r ?_ ?_
           ·refine A 2 ?_
            refine bS ([13,12,1] : List Int) Su r r r (by simp) r r r<|?_
            refine A 1 ?_
            refine bD λr18 hr18=>?_
            refine A 2 ?_
            refine bD λx_e19 hx_e19=>?_
            refine A 3 ?_
            refine bS ([(Ed.mk x_e19 r5.1 0 0 0)] : List Ed) QZ r r r (by simp) r r r<|?_
            exact B
           ·refine sC (E:=λ(s : Bool) (g : Nat)=>[(0,.optr 8192 0 0 0),(2,Pl i3),(3,.sl (params4.map Su)),(5,.optr 5 g 0 0),(9,Pl r5.1),(11,Pl r6.1),(104,.bool s)]) (O:=λ_ g=>[(5,dV g 3 69 (Re f2)),(8192,dV 0 2 64 (.agg [.sl (r6.2.list.map eU8),Pl r6.2.at_]))]) (j:=λs=>Sk r6 f2 r5 params4 i3 s) ?_ ?_
            ·exact B
            ·rintro x20 v5x4 nn
             try dsimp only
             unfold Sk
             refine cD r ?_ ?_
             ·refine A 6 ?_
              refine bD λr21 hr21=>?_
              refine A 2 ?_
              refine bS ([(Ed.mk 19 r5.1 r21.1 0 0)] : List Ed) QZ r r r (by simp) r r r<|?_
              exact B
             ·refine sC (E:=λ(s : Bool) (_g : Unit)=>[(0,.optr 8192 0 0 0),(2,Pl i3),(3,.sl (params4.map Su)),(9,Pl r5.1),(119,.bool s)]) (O:=λ_ _=>[(8192,dV 0 2 64 (.agg [.sl (r6.2.list.map eU8),Pl r6.2.at_]))]) (j:=λs=>Sl r6 params4 i3 r5 s) ?_ ?_
              ·exact B
              ·rintro x22 ⟨⟩ nn
               try dsimp only
               unfold Sl
               refine cD r ?_ ?_
               ·refine A 10 ?_
                refine bD λr23 hr23=>?_
                refine A 17 ?_
                refine lP (E:=λ(s : (List Int) × Int × (List Ed) × Int) (g : Nat)=>[(0,.optr 8192 0 0 0),(3,.sl (params4.map Su)),(13,Pl (i64.wrap ((i64.wrap (i3 + 1)) + r23.1))),(14,.osl 14 g 0 s.2.2.1.length),(15,Pl s.2.2.2)]) (O:=λs g=>[(14,dW g 5 24 (s.2.2.1.map QZ)),(8192,dV 0 2 64 (.agg [.sl (s.1.map eU8),Pl s.2.1]))]) (body:=λs=>TC params4 i3 r23 s.1 s.2.1 s.2.2.1 s.2.2.2) (s:=(r23.2.list,r23.2.at_,([] : List Ed),0)) _ ((hE ⟨rfl,r,r,r,r,trivial⟩ ⟨rfl,r,trivial⟩))<|?_
                rintro ⟨c24,c25,out26,a27⟩ v14x6 nn
                try dsimp only
                unfold TC
                refine A 6 ?_
                refine bD λx_x28 hx_x28=>?_
                refine A 5 ?_
                refine cD r ?_ ?_
                ·refine A 7 ?_
                 refine bD λr29 hr29=>?_
                 refine A 4 ?_
                 refine cD r ?_ ?_
                 ·refine A 4 ?_
                  refine bD λr30 hr30=>?_
                  refine A 2 ?_
                  refine bS ([(Ed.mk 18 a27 r30.1 0 0)] : List Ed) QZ r r r (by simp) r r r<|?_
                  exact B
                 ·exact B
                ·refine A 10 ?_
                 refine bS ([(Ed.mk 22 (i64.wrap ((i64.wrap (i3 + 1)) + r23.1)) 0 0 0)] : List Ed) QZ r r r (by simp) r r r<|?_
                 exact B
               ·exact B
 ·rintro ⟨⟩ ⟨⟩ nn
  try dsimp only
  unfold Uw
  refine A 4 ?_
  refine bS ([(Ed.mk 14 r5.1 0 0 0)] : List Ed) QZ r r r (by simp) r r r<|?_
  exact B

def Sx (a : Av × Int × (List Int) × Int) : List D:=[Ro a.1,Pl a.2.1,.sl (a.2.2.1.map Su),Pl a.2.2.2]
def Sw (ds : List D) : Av × Int × (List Int) × Int:=(SP (ds.getD 0 .top),uI (ds.getD 1 .top),(uL uI) (ds.getD 2 .top),uI (ds.getD 3 .top))
theorem Wc (a : Av × Int × (List Int) × Int) : Sw (Sx a) = a:=by simp [Sw,Sx,uI,VX (u:=uI) (en:=Su) (λ_=>rfl)]
instance : RP Sx Sw:=⟨Wc⟩
def UX (b : QT × Av) : D:=Re b.1
def Wl (b : QT × Av) : List D:=[Ro b.2]
def UY : Dw.Spec:=QW [(0,(2,64))] .val Sx Sw (λa=>SC a.1 a.2.1 a.2.2.1 a.2.2.2) UX Wl
theorem Wd : QU Tryd.prog 30 UY:=by
 refine fn2 4 (Rn (l:=[(50,Vs),(29,RC),(51,Vx),(32,TV)]) (by simp [WN,RE,Xa,Uv])) Tryd.func30<|?_
 rintro ⟨c1,i2,params3,most4⟩
 unfold SC
 refine A 9 ?_
 refine bD λx_x5 hx_x5=>?_
 refine A 3 ?_
 refine bD λr6 hr6=>?_
 refine A 18 ?_
 refine lP (E:=λ(s : (List Int) × Int × (List Ed) × Int) (g : Nat × Nat × Nat × Nat)=>[(0,.optr 8192 0 0 0),(1,Pl i2),(2,.sl (params3.map Su)),(3,Pl most4),(8,.optr 8 g.1 0 0),(9,.optr 9 g.2.1 0 0),(10,.osl 10 g.2.2.1 0 s.2.2.1.length),(11,Pl s.2.2.2)]) (O:=λs g=>[(8,dV g.1 3 69 (.agg [Pl 0,.nils,.nils])),(9,dV g.2.1 3 69 (.agg [Pl x_x5,.osl 21 g.2.2.2 0 r6.1.length,.nils])),(10,dW g.2.2.1 5 24 (s.2.2.1.map QZ)),(21,dW g.2.2.2 2 74 (r6.1.map RJ)),(8192,dV 0 2 64 (.agg [.sl (s.1.map eU8),Pl s.2.1]))]) (body:=λs=>SM r6 most4 x_x5 i2 params3 s.1 s.2.1 s.2.2.1 s.2.2.2) (s:=(r6.2.list,r6.2.at_,([] : List Ed),0)) (_,_,_,_) ((hE ⟨rfl,r,r,r,r,r,r,r,trivial⟩ ⟨rfl,r,r,r,r,trivial⟩))<|?_
 rintro ⟨c7,c8,code9,s10⟩ ⟨v8x1,v9x1,v10x1,v21x1⟩ nn
 try dsimp only
 unfold SM
 refine A 10 ?_
 refine cD r ?_ ?_
 ·refine A 7 ?_
  refine bD λr11 hr11=>?_
  refine A 4 ?_
  refine cD r ?_ ?_
  ·refine A 4 ?_
   refine bD λr12 hr12=>?_
   refine A 2 ?_
   refine bS ([(Ed.mk 16 s10 r12.1 0 0)] : List Ed) QZ r r r (by simp) r r r<|?_
   exact B
  ·exact B
 ·refine A 11 ?_
  refine bD λr13 hr13=>?_
  refine A 5 ?_
  refine lP (E:=λ(s : (List Int) × Int × (List Ed) × (List QO) × Int) (g : Nat × Nat × Nat)=>[(0,.optr 8192 0 0 0),(1,Pl i2),(2,.sl (params3.map Su)),(8,.optr 8 g.1 0 0),(9,.optr 9 g.2.1 0 0),(10,.osl 10 g.2.2 0 s.2.2.1.length),(12,Pl s.2.2.2.2)]) (O:=λs g=>[(8,dV g.1 3 69 (.agg [Pl 0,.nils,.nils])),(9,dV g.2.1 3 69 (.agg [Pl x_x5,.sl (s.2.2.2.1.map RJ),.nils])),(10,dW g.2.2 5 24 (s.2.2.1.map QZ)),(8192,dV 0 2 64 (.agg [.sl (s.1.map eU8),Pl s.2.1]))]) (body:=λs=>SN x_x5 i2 params3 s.1 s.2.1 s.2.2.1 s.2.2.2.1 s.2.2.2.2) (s:=(r13.2.list,r13.2.at_,code9,r6.1,r13.1)) (_,_,_) ((Yb [(21,some (_,⟨true,false,2,74,r6.1.map RJ⟩))] ⟨⟨_,_,r,r,r⟩,trivial⟩ ⟨(Sg r),(Sg r),(Sg r),(Sg r),(Sg r),(Sg r),(Sg r),trivial⟩ ⟨(.inl r),(.inr ⟨_,_,_,_,r,r,r,r,Wz r ⟨(VC r),(UU (l:=r6.1) (en:=RJ) r r r (by simp)),(VC r),trivial⟩⟩),(.inl r),(.inl r),trivial⟩))<|?_
  rintro ⟨c14,c15,code16,f17,n18⟩ ⟨v8x2,v9x2,v10x2⟩ nn
  try dsimp only
  unfold SN
  refine A 7 ?_
  refine cD r ?_ ?_
  ·refine A 11 ?_
   refine bD λr19 hr19=>?_
   refine A 8 ?_
   refine bD λr20 hr20=>?_
   refine A 10 ?_
   refine cD r ?_ ?_
   ·refine A 3 ?_
    refine bD λr21 hr21=>?_
    refine A 2 ?_
    refine bS ([(Ed.mk 21 r21.1 (-1) 0 0)] : List Ed) QZ r r r (by simp) r r r<|?_
    exact B
   ·refine A 6 ?_
    refine cD r ?_ ?_
    ·refine A 3 ?_
     refine bD λr22 hr22=>?_
     refine A 4 ?_
     refine cD r ?_ ?_
     ·refine A 3 ?_
      refine bS ([(Ed.mk 20 (-1) 0 0 0)] : List Ed) QZ r r r (by simp) r r r<|?_
      exact B
     ·exact B
    ·exact B
  ·refine A 12 ?_
   refine sC (E:=λ(_s : (List Int) × Int × Int × Int) (g : Nat × Nat × Nat × Nat)=>[(0,.optr 8192 0 0 0),(8,.optr 8 g.1 0 0),(9,.optr 9 g.2.1 0 0),(10,.osl 10 g.2.2.1 0 code16.length),(13,.optr 13 g.2.2.2 0 0)]) (O:=λs g=>[(8,dV g.1 3 69 (.agg [Pl 0,.nils,.nils])),(9,dV g.2.1 3 69 (.agg [Pl x_x5,.sl (f17.map RJ),.nils])),(10,dW g.2.2.1 5 24 (code16.map QZ)),(13,dV g.2.2.2 5 24 (.agg [Pl s.2.2.1,Pl 0,Pl 0,Pl 0,Aar s.2.2.2])),(8192,dV 0 2 64 (.agg [.sl (s.1.map eU8),Pl s.2.1]))]) (j:=λs=>RL code16 x_x5 f17 s.1 s.2.1 s.2.2.1 s.2.2.2) ?_ ?_
   ·exact B
   ·rintro ⟨c23,c24,end25,end26⟩ ⟨v8x3,v9x3,v10x3,v13x3⟩ nn
    try dsimp only
    unfold RL
    refine A 4 ?_
    refine bS ([(Ed.mk end25 0 0 0 end26)] : List Ed) QZ r r r (by simp) r r r<|cK λhq=>aP (code16) (([(Ed.mk end25 0 0 0 end26)] : List Ed)) QZ r r r r r r r (by simp) (TP _ _ r) r r (by simp) (Tx _ _ r) (λ_=>r) r hq<|?_
    refine A 10 ?_
    refine lP (E:=λ(s : (List Int) × Int × (List Ed) × Int) (g : Nat × Nat × Nat)=>[(0,.optr 8192 0 0 0),(8,.optr 8 g.1 0 0),(9,.optr 9 g.2.1 0 0),(10,.osl 10 g.2.2 0 s.2.2.1.length),(14,Pl s.2.2.2)]) (O:=λs g=>[(8,dV g.1 3 69 (.agg [Pl 0,.nils,.nils])),(9,dV g.2.1 3 69 (.agg [Pl x_x5,.sl (f17.map RJ),.nils])),(10,dW g.2.2 5 24 (s.2.2.1.map QZ)),(8192,dV 0 2 64 (.agg [.sl (s.1.map eU8),Pl s.2.1]))]) (body:=λs=>RZ x_x5 f17 s.1 s.2.1 s.2.2.1 s.2.2.2) (s:=(c23,c24,code16 ++ ([(Ed.mk end25 0 0 0 end26)] : List Ed),0)) (_,_,_) ((hE ⟨rfl,r,r,r,r,trivial⟩ ⟨rfl,r,r,r,trivial⟩))<|?_
    rintro ⟨c29,c30,code31,k32⟩ ⟨v8x4,v9x4,v10x4⟩ nn
    try dsimp only
    unfold RZ
    refine A 9 ?_
    refine cD r ?_ ?_
    ·refine A 8 ?_
     refine bD λr33 hr33=>?_
     refine A 6 ?_
     refine sC (E:=λ(s : Int) (g : Nat × Nat × Nat)=>[(0,.optr 8192 0 0 0),(8,.optr 8 g.1 0 0),(9,.optr 9 g.2.1 0 0),(10,.osl 10 g.2.2 0 code31.length),(14,Pl k32),(15,Pl s)]) (O:=λ_ g=>[(8,dV g.1 3 69 (.agg [Pl 0,.nils,.nils])),(9,dV g.2.1 3 69 (.agg [Pl x_x5,.sl (f17.map RJ),.nils])),(10,dW g.2.2 5 24 (code31.map QZ)),(8192,dV 0 2 64 (.agg [.sl (r33.2.list.map eU8),Pl r33.2.at_]))]) (j:=λs=>Rz k32 code31 r33 s) ?_ ?_
     ·exact B
     ·rintro to34 ⟨v8x5,v9x5,v10x5⟩ nn
      try dsimp only
      unfold Rz
      refine A 1 ?_
      refine sC (E:=λ(s : Bool) (g : Nat × Nat × Nat)=>[(0,.optr 8192 0 0 0),(8,.optr 8 g.1 0 0),(9,.optr 9 g.2.1 0 0),(10,.osl 10 g.2.2 0 code31.length),(14,Pl k32),(15,Pl to34),(107,.bool s)]) (O:=λ_ g=>[(8,dV g.1 3 69 (.agg [Pl 0,.nils,.nils])),(9,dV g.2.1 3 69 (.agg [Pl x_x5,.sl (f17.map RJ),.nils])),(10,dW g.2.2 5 24 (code31.map QZ)),(8192,dV 0 2 64 (.agg [.sl (r33.2.list.map eU8),Pl r33.2.at_]))]) (j:=λs=>Sa k32 code31 r33 to34 s) ?_ ?_
      ·exact B
      ·rintro x35 ⟨v8x6,v9x6,v10x6⟩ nn
       try dsimp only
       unfold Sa
       refine cD r ?_ ?_
       ·refine A 6 ?_
        refine bD λcode_o38 hcode_o38=>sE (l:=code31) (en:=QZ) (q':=(Ed.mk code_o38.Op to34 code_o38.B code_o38.C code_o38.Imm)) r r r r r r r (by simp) hcode_o38 r r r r r<|?_
        exact B
       ·refine A 6 ?_
        refine bD λcode_e39 hcode_e39=>?_
        refine A 3 ?_
        refine YD r ?_ ?_
        ·refine A 4 ?_
         refine bD λcode_e40 hcode_e40=>?_
         refine A 6 ?_
         refine cD r ?_ ?_
         ·refine A 6 ?_
          refine bD λcode_o41 hcode_o41=>sE (l:=code31) (en:=QZ) (q':=(Ed.mk code_o41.Op code_o41.A to34 code_o41.C code_o41.Imm)) r r r r r r r (by simp) hcode_o41 r r r r r<|?_
          exact B
         ·exact B
        ·exact B
    ·refine A 19 ?_
     refine YR (b:=((QT.mk x_x5 f17 code31),(Av.mk c29 c30))) r ?_ r r ?_ (by first | rfl | (simp only [BS]; rfl) | (simp only [Le]; rfl) | (simp only [BS,Le]; rfl) | simp [UX,Re])
     all_goals first|(simp;done)|(simp;omega)|rfl|(simp [RW,RS];done)

def SL (a : Av × Int × Int) : List D:=[Ro a.1,Pl a.2.1,Pl a.2.2]
def SK (ds : List D) : Av × Int × Int:=(SP (ds.getD 0 .top),uI (ds.getD 1 .top),uI (ds.getD 2 .top))
theorem Wi (a : Av × Int × Int) : SK (SL a) = a:=by simp [SK,SL,uI]
instance : RP SL SK:=⟨Wi⟩
def WC (b : Mk × Av) : D:=Sn b.1
def WB (b : Mk × Av) : List D:=[Ro b.2]
def Va : Dw.Spec:=QW [(0,(2,64))] .val SL SK (λa=>SQ a.1 a.2.1 a.2.2) WC WB
theorem Wj : QU Tryd.prog 10 Va:=by
 refine fn2 3 (Rn (l:=[(29,RC),(30,UY)]) (by simp [RE,Wd])) Tryd.func10<|?_
 rintro ⟨c1,funcs2,most3⟩
 unfold SQ
 refine A 16 ?_
 refine bD λr4 hr4=>?_
 refine A 5 ?_
 refine lP (E:=λ(s : (List Int) × Int × (List Int) × Int) (g : Nat × Nat)=>[(0,.optr 8192 0 0 0),(2,Pl most3),(6,.optr 6 g.1 0 0),(7,.osl 7 g.2 0 s.2.2.1.length),(8,Pl s.2.2.2)]) (O:=λs g=>[(6,dV g.1 1 33 (.agg [.nils])),(7,dW g.2 1 3 (s.2.2.1.map Su)),(8192,dV 0 2 64 (.agg [.sl (s.1.map eU8),Pl s.2.1]))]) (body:=λs=>SS most3 s.1 s.2.1 s.2.2.1 s.2.2.2) (s:=(r4.2.list,r4.2.at_,([0] : List Int),r4.1)) (_,_) ((hE ⟨rfl,r,r,r,r,trivial⟩ ⟨rfl,r,r,trivial⟩))<|?_
 rintro ⟨c5,c6,params7,n8⟩ ⟨v6x1,v7x1⟩ nn
 try dsimp only
 unfold SS
 refine A 7 ?_
 refine cD r ?_ ?_
 ·exact B
 ·refine A 17 ?_
  refine lP (E:=λ(s : (List Int) × Int × (List QT) × Int × (List Int)) (g : Nat × Nat)=>[(0,.optr 8192 0 0 0),(2,Pl most3),(6,.optr 6 g.1 0 0),(7,.sl (s.2.2.2.2.map Su)),(9,.optr 9 g.2 0 0),(10,Pl s.2.2.2.1)]) (O:=λs g=>[(6,dV g.1 1 33 (.agg [.nils])),(9,dV g.2 1 33 (.agg [.sl (s.2.2.1.map Re)])),(8192,dV 0 2 64 (.agg [.sl (s.1.map eU8),Pl s.2.1]))]) (body:=λs=>SU most3 s.1 s.2.1 s.2.2.1 s.2.2.2.1 s.2.2.2.2) (s:=(c5,c6,[],0,params7)) (_,_) ((Yb [(7,some (_,⟨true,false,1,3,params7.map Su⟩))] ⟨⟨_,_,r,r,r⟩,trivial⟩ ⟨(Sg r),(Sg r),(Sg r),(UW (UU (l:=params7) (en:=Su) r r r (by simp))),(Sg r),(Sg r),trivial⟩ ⟨(.inl r),(.inr ⟨_,_,_,_,r,r,r,r,Wz r ⟨(Vq Re r),trivial⟩⟩),(.inl r),trivial⟩))<|?_
  rintro ⟨c10,c11,p12,i13,params14⟩ ⟨v6x2,v9x2⟩ nn
  try dsimp only
  unfold SU
  refine A 9 ?_
  refine cD r ?_ ?_
  ·refine A 13 ?_
   refine bD λr15 hr15=>?_
   refine A 1 ?_
   refine bS ([r15.1] : List QT) Re r r r (by simp) r r r<|?_
   refine A 16 ?_
   exact wf [11] λ_=>B
  ·exact B

def XY (b : Int × Av) : D:=Pl b.1
def XX (b : Int × Av) : List D:=[Ro b.2]
def VJ : Dw.Spec:=QW [(0,(2,64))] .val RR RQ (λa=>RK a) XY XX
theorem Xw : QU Tryd.prog 31 VJ:=by
 refine fn2 1 (Rn (l:=[(29,RC)]) (by simp [RE])) Tryd.func31<|?_
 intro c1
 unfold RK
 refine A 8 ?_
 refine bD λr2 hr2=>?_
 refine A 11 ?_
 refine cD r ?_ ?_
 ·refine A 2 ?_
  refine bS ([9223372036854775807,(-9223372036854775808),2147483648,2147483647,(-1),16777216,33554432,1048577,512,80] : List Int) Su r r r (by simp) r r r<|?_
  exact B
 ·exact B

def TA (a : Av × Mk) : List D:=[Ro a.1,Sn a.2]
def Tz (ds : List D) : Av × Mk:=(SP (ds.getD 0 .top),UA (ds.getD 1 .top))
theorem XB (a : Av × Mk) : Tz (TA a) = a:=by simp [Tz,TA]
instance : RP TA Tz:=⟨XB⟩
def VK (b : Mk × Av) : D:=Sn b.1
def XZ (b : Mk × Av) : List D:=[Ro b.2]
def VL : Dw.Spec:=QW [(0,(2,64))] .val TA Tz (λa=>TZ a.1 a.2) VK XZ
theorem XC : QU Tryd.prog 11 VL:=by
 refine fn2 2 (Rn (l:=[(29,RC),(31,VJ),(32,TV),(33,UK)]) (by simp [RE,Xw,Uv,Vr])) Tryd.func11<|?_
 rintro ⟨c1,p2⟩
 unfold TZ
 refine A 10 ?_
 refine cK λhq=>aP (([] : List QT)) (p2.Funcs) Re r r r r r r r (by simp) r r r (by simp) r (λ_=>r) r hq<|?_
 refine A 8 ?_
 refine bD λr3 hr3=>?_
 refine A 8 ?_
 refine cK λhq=>iO (l:=([] : List QT) ++ p2.Funcs) (en:=Re) r r r r r hq<|bD λl_e4 hl_e4=>?_
 refine A 14 ?_
 refine cD r ?_ ?_
 ·exact B
 ·refine A 6 ?_
  refine cK λhq=>aP (([] : List Ed)) (l_e4.Code) QZ r r r r r r r (by simp) r r r (by simp) r (λ_=>r) r hq<|?_
  refine A 2 ?_
  refine cK λhq=>aP (([] : List QO)) (l_e4.Slots) RJ r r r r r r r (by simp) r r r (by simp) r (λ_=>r) r hq<|?_
  refine A 12 ?_
  refine bD λr5 hr5=>?_
  refine A 4 ?_
  refine sC (E:=λ(_s : (List Int) × Int × (List Ed) × (List QO) × Int) (g : Nat × Nat × Nat × Nat × Nat)=>[(4,.optr 4 g.1 0 0),(5,.osl 5 g.2.1 0 ((([] : List QT) ++ p2.Funcs).length)),(6,Pl r3.1),(7,.optr 7 g.2.2.1 0 0)]) (O:=λs g=>[(4,dV g.1 1 33 (.agg [.nils])),(5,dW g.2.1 3 69 ((([] : List QT) ++ p2.Funcs).map Re)),(7,dV g.2.2.1 3 69 (.agg [Pl s.2.2.2.2,.osl 30 g.2.2.2.2 0 s.2.2.2.1.length,.osl 27 g.2.2.2.1 0 s.2.2.1.length])),(27,dW g.2.2.2.1 5 24 (s.2.2.1.map QZ)),(30,dW g.2.2.2.2 2 74 (s.2.2.2.1.map RJ)),(8192,dV 0 2 64 (.agg [.sl (s.1.map eU8),Pl s.2.1]))]) (j:=λs=>Rj r3 p2 s.1 s.2.1 s.2.2.1 s.2.2.2.1 s.2.2.2.2) ?_ ?_
  ·refine A 3 ?_
   refine bD λr11 hr11=>?_
   refine A 10 ?_
   refine cD r ?_ ?_
   ·refine A 5 ?_
    refine bD λr12 hr12=>?_
    refine A 4 ?_
    refine bD λx_o13 hx_o13=>sE (l:=([] : List Ed) ++ l_e4.Code) (en:=QZ) (q':=(Ed.mk (i64.wrap (r12.1 - 1)) x_o13.A x_o13.B x_o13.C x_o13.Imm)) r r r r r r r (by simp) hx_o13 r r r r r<|?_
    refine A 2 ?_
    exact xC (s:=(r12.2.list,r12.2.at_,(([] : List Ed) ++ l_e4.Code).set r5.1.toNat (Ed.mk (i64.wrap (r12.1 - 1)) x_o13.A x_o13.B x_o13.C x_o13.Imm),([] : List QO) ++ l_e4.Slots,l_e4.Params)) (_,_,_,_,_) ((hE ⟨rfl,r,r,r,trivial⟩ ⟨rfl,r,(Eq.trans (b:=dV _ 3 69 (.agg [Pl l_e4.Params,.osl 30 _ 0 ((([] : List QO) ++ l_e4.Slots).length),.osl 27 _ 0 ((([] : List Ed) ++ l_e4.Code).length)])) r (by simp)),r,r,r,trivial⟩))
   ·refine A 6 ?_
    refine cD r ?_ ?_
    ·refine A 5 ?_
     refine bD λr14 hr14=>?_
     refine A 3 ?_
     refine bD λx_o15 hx_o15=>sE (l:=([] : List Ed) ++ l_e4.Code) (en:=QZ) (q':=(Ed.mk x_o15.Op r14.1 x_o15.B x_o15.C x_o15.Imm)) r r r r r r r (by simp) hx_o15 r r r r r<|?_
     refine A 2 ?_
     exact xC (s:=(r14.2.list,r14.2.at_,(([] : List Ed) ++ l_e4.Code).set r5.1.toNat (Ed.mk x_o15.Op r14.1 x_o15.B x_o15.C x_o15.Imm),([] : List QO) ++ l_e4.Slots,l_e4.Params)) (_,_,_,_,_) ((hE ⟨rfl,r,r,r,trivial⟩ ⟨rfl,r,(Eq.trans (b:=dV _ 3 69 (.agg [Pl l_e4.Params,.osl 30 _ 0 ((([] : List QO) ++ l_e4.Slots).length),.osl 27 _ 0 ((([] : List Ed) ++ l_e4.Code).length)])) r (by simp)),r,r,r,trivial⟩))
    ·refine A 6 ?_
     refine cD r ?_ ?_
     ·refine A 5 ?_
      refine bD λr16 hr16=>?_
      refine A 3 ?_
      refine bD λx_o17 hx_o17=>sE (l:=([] : List Ed) ++ l_e4.Code) (en:=QZ) (q':=(Ed.mk x_o17.Op x_o17.A r16.1 x_o17.C x_o17.Imm)) r r r r r r r (by simp) hx_o17 r r r r r<|?_
      refine A 2 ?_
      exact xC (s:=(r16.2.list,r16.2.at_,(([] : List Ed) ++ l_e4.Code).set r5.1.toNat (Ed.mk x_o17.Op x_o17.A r16.1 x_o17.C x_o17.Imm),([] : List QO) ++ l_e4.Slots,l_e4.Params)) (_,_,_,_,_) ((hE ⟨rfl,r,r,r,trivial⟩ ⟨rfl,r,(Eq.trans (b:=dV _ 3 69 (.agg [Pl l_e4.Params,.osl 30 _ 0 ((([] : List QO) ++ l_e4.Slots).length),.osl 27 _ 0 ((([] : List Ed) ++ l_e4.Code).length)])) r (by simp)),r,r,r,trivial⟩))
     ·refine A 6 ?_
      refine cD r ?_ ?_
      ·refine A 5 ?_
       refine bD λr18 hr18=>?_
       refine A 3 ?_
       refine bD λx_o19 hx_o19=>sE (l:=([] : List Ed) ++ l_e4.Code) (en:=QZ) (q':=(Ed.mk x_o19.Op x_o19.A x_o19.B r18.1 x_o19.Imm)) r r r r r r r (by simp) hx_o19 r r r r r<|?_
       refine A 2 ?_
       exact xC (s:=(r18.2.list,r18.2.at_,(([] : List Ed) ++ l_e4.Code).set r5.1.toNat (Ed.mk x_o19.Op x_o19.A x_o19.B r18.1 x_o19.Imm),([] : List QO) ++ l_e4.Slots,l_e4.Params)) (_,_,_,_,_) ((hE ⟨rfl,r,r,r,trivial⟩ ⟨rfl,r,(Eq.trans (b:=dV _ 3 69 (.agg [Pl l_e4.Params,.osl 30 _ 0 ((([] : List QO) ++ l_e4.Slots).length),.osl 27 _ 0 ((([] : List Ed) ++ l_e4.Code).length)])) r (by simp)),r,r,r,trivial⟩))
      ·refine A 6 ?_
       refine cD r ?_ ?_
       ·refine A 5 ?_
        refine bD λr20 hr20=>?_
        refine A 3 ?_
        refine bD λx_o21 hx_o21=>sE (l:=([] : List Ed) ++ l_e4.Code) (en:=QZ) (q':=(Ed.mk x_o21.Op x_o21.A x_o21.B x_o21.C r20.1)) r r r r r r r (by simp) hx_o21 r r r r r<|?_
        refine A 2 ?_
        exact xC (s:=(r20.2.list,r20.2.at_,(([] : List Ed) ++ l_e4.Code).set r5.1.toNat (Ed.mk x_o21.Op x_o21.A x_o21.B x_o21.C r20.1),([] : List QO) ++ l_e4.Slots,l_e4.Params)) (_,_,_,_,_) ((hE ⟨rfl,r,r,r,trivial⟩ ⟨rfl,r,(Eq.trans (b:=dV _ 3 69 (.agg [Pl l_e4.Params,.osl 30 _ 0 ((([] : List QO) ++ l_e4.Slots).length),.osl 27 _ 0 ((([] : List Ed) ++ l_e4.Code).length)])) r (by simp)),r,r,r,trivial⟩))
       ·refine A 6 ?_
        refine cD r ?_ ?_
        ·exact B
        ·refine A 6 ?_
         refine cD r ?_ ?_
         ·refine A 4 ?_
          refine bD λr23 hr23=>?_
          refine A 2 ?_
          refine bD λr24 hr24=>?_
          refine A 2 ?_
          refine bS ([(QO.mk r23.1 r24.1)] : List QO) RJ r r r (by simp) r r r<|?_
          refine A 5 ?_
          exact xC (s:=(r24.2.list,r24.2.at_,([] : List Ed) ++ l_e4.Code,(([] : List QO) ++ l_e4.Slots) ++ ([(QO.mk r23.1 r24.1)] : List QO),l_e4.Params)) (_,_,_,_,_) ((Abh (E1:=[(4,.optr 4 _ 0 0),(5,.osl 5 _ 0 ((([] : List QT) ++ p2.Funcs).length)),(6,Pl r3.1),(7,.optr 7 _ 0 0)]) (O1:=[(4,dV _ 1 33 (.agg [.nils])),(5,dW _ 3 69 ((([] : List QT) ++ p2.Funcs).map Re)),(7,dV _ 3 69 (.agg [Pl l_e4.Params,.osl 101 _ 0 (((([] : List QO) ++ l_e4.Slots) ++ ([(QO.mk r23.1 r24.1)] : List QO)).length),.osl 27 _ 0 ((([] : List Ed) ++ l_e4.Code).length)])),(27,dW _ 5 24 ((([] : List Ed) ++ l_e4.Code).map QZ)),(101,dW _ 2 74 (((([] : List QO) ++ l_e4.Slots) ++ ([(QO.mk r23.1 r24.1)] : List QO)).map RJ)),(8192,dV 0 2 64 (.agg [.sl (r24.2.list.map eU8),Pl r24.2.at_]))]) (hE ⟨rfl,r,r,r,trivial⟩ ⟨rfl,r,r,r,r,r,trivial⟩) (λ_=>Abg (λg=>bif Nat.beq g 101 then 30 else g) (by rfl) (hE ⟨rfl,r,r,r,trivial⟩ ⟨rfl,r,r,r,r,r,trivial⟩))))
         ·refine A 6 ?_
          refine cD r ?_ ?_
          ·refine A 4 ?_
           refine cK λhq=>Vl (l:=([] : List Ed) ++ l_e4.Code) r r r r r r hq<|?_
           refine A 4 ?_
           exact xC (s:=(r11.2.list,r11.2.at_,(([] : List Ed) ++ l_e4.Code).take r5.1.toNat,([] : List QO) ++ l_e4.Slots,l_e4.Params)) (_,_,_,_,_) ((Aau (gw:=7) (off:=2) (gg:=27) (k:=r5.1.toNat) (l:=([] : List Ed) ++ l_e4.Code) (en:=QZ) r r r (by omega) r (hE ⟨rfl,r,r,r,trivial⟩ ⟨rfl,r,r,r,r,r,trivial⟩)))
          ·refine A 6 ?_
           refine cD r ?_ ?_
           ·refine A 8 ?_
            refine cD r ?_ ?_
            ·refine A 7 ?_
             refine bD λr25 hr25=>?_
             refine A 2 ?_
             refine bD λr26 hr26=>?_
             refine A 2 ?_
             refine bD λx_o27 hx_o27=>sE (l:=([] : List QO) ++ l_e4.Slots) (en:=RJ) (q':=r26.1) r r r r r r r (by simp) hx_o27 r r r r r<|?_
             refine A 2 ?_
             exact xC (s:=(r26.2.list,r26.2.at_,([] : List Ed) ++ l_e4.Code,(([] : List QO) ++ l_e4.Slots).set r25.1.toNat r26.1,l_e4.Params)) (_,_,_,_,_) ((hE ⟨rfl,r,r,r,trivial⟩ ⟨rfl,r,(Eq.trans (b:=dV _ 3 69 (.agg [Pl l_e4.Params,.osl 30 _ 0 ((([] : List QO) ++ l_e4.Slots).length),.osl 27 _ 0 ((([] : List Ed) ++ l_e4.Code).length)])) r (by simp)),r,r,r,trivial⟩))
            ·exact B
           ·exact B
  ·rintro ⟨c6,c7,x8,x9,f10⟩ ⟨v4x1,v5x1,v7x1,v27x1,v30x1⟩ nn
   try dsimp only
   unfold Rj
   refine A 5 ?_
   refine cK λhq=>iO (l:=([] : List QT) ++ p2.Funcs) (en:=Re) r r r r r hq<|bD λl_o28 hl_o28=>sE (l:=([] : List QT) ++ p2.Funcs) (en:=Re) (q':=(QT.mk f10 x9 x8)) r r r r r r r (by simp) hl_o28 r r r (by simp [Rq,cells,setAt,Re]) r<|?_
   refine A 10 ?_
   refine YR (b:=((Mk.mk ((([] : List QT) ++ p2.Funcs).set r3.1.toNat (QT.mk f10 x9 x8))),(Av.mk c6 c7))) r ?_ r r ?_ (by first | rfl | (simp only [BS]; rfl) | (simp only [Le]; rfl) | (simp only [BS,Le]; rfl) | simp [VK,Sn])
   all_goals first|(simp;done)|(simp;omega)|rfl|(simp [RW,RS];done)

def Ug (a : Int × Int) : List D:=[Pl a.1,Pl a.2]
def Uf (ds : List D) : Int × Int:=(uI (ds.getD 0 .top),uI (ds.getD 1 .top))
theorem Zm (a : Int × Int) : Uf (Ug a) = a:=by simp [Uf,Ug,uI]
instance : RP Ug Uf:=⟨Zm⟩
def ZL (b : Bool) : D:=.bool b
def VU : Dw.Spec:=QW [] .ground Ug Uf (λa=>TN a.1 a.2) ZL noE
theorem WM : QU Tryd.prog 69 VU:=by
 refine fn2 2 (RO) Tryd.func69<|?_
 intro a
 unfold TN
 exact B

def Rx (a : Int) : List D:=[Pl a]
def Rv (ds : List D) : Int:=uI (ds.getD 0 .top)
theorem Zn (a : Int) : Rv (Rx a) = a:=by simp [Rv,Rx,uI]
instance : RP Rx Rv:=⟨Zn⟩
def ZN (b : Bool) : D:=.bool b
def Xr : Dw.Spec:=QW [] .ground Rx Rv (λa=>UI a) ZN noE
theorem Zo : QU Tryd.prog 92 Xr:=by
 refine fn2 1 (RO) Tryd.func92<|?_
 intro a
 unfold UI
 exact B

def YE (b : Bool) : D:=.bool b
def Wm : Dw.Spec:=QW [] .ground Rx Rv (λa=>Tk a) YE noE
theorem Yp : QU Tryd.prog 93 Wm:=by
 refine fn2 1 (RO) Tryd.func93<|?_
 intro a
 unfold Tk
 exact B

def TH (a : QO) : List D:=[RJ a]
def TG (ds : List D) : QO:=VG (ds.getD 0 .top)
theorem XL (a : QO) : TG (TH a) = a:=by simp [TG,TH]
instance : RP TH TG:=⟨XL⟩
def Ya (b : Bool) : D:=.bool b
def VN : Dw.Spec:=QW [] .ground TH TG (λa=>Ub a) Ya noE
theorem XM : QU Tryd.prog 91 VN:=by
 refine fn2 1 (Rn (l:=[(92,Xr),(93,Wm)]) (by simp [Zo,Yp])) Tryd.func91<|?_
 intro a
 unfold Ub
 exact B

def Ri (a : (List QO)) : List D:=[.sl (a.map RJ),.clo 91 []]
def Rh (ds : List D) : (List QO):=(uL VG) (ds.getD 0 .top)
theorem RF (a : (List QO)) : Rh (Ri a) = a:=by simp [Rh,Ri,VX (u:=VG) (en:=RJ) YX]
instance : RP Ri Rh:=⟨RF⟩
def TT (b : Int) : D:=Pl b
def RG : Dw.Spec:=QW [] .ground Ri Rh (λa=>Ru a) TT noE
theorem TO : QU Tryd.prog 106 RG:=by
 refine fn2 2 (Rn (l:=[(91,VN)]) (by simp [XM])) Tryd.func106<|?_
 intro s1
 unfold Ru
 refine A 14 ?_
 refine lP (E:=λ(s : Int) (_g : Unit)=>[(0,.sl (s1.map RJ)),(1,.clo 91 []),(7,Pl (s1.length : Int)),(8,Pl s)]) (O:=λ_ _=>[]) (body:=λs=>Rl s1 s) (s:=0) () ((hE ⟨rfl,r,r,r,trivial⟩ trivial))<|?_
 rintro x2 ⟨⟩ nn
 try dsimp only
 unfold Rl
 exact B

def Tw (b : Bool) : D:=.bool b
def RB : Dw.Spec:=QW [] .ground Ri Rh (λa=>Rp a) Tw noE
theorem Tp : QU Tryd.prog 90 RB:=by
 refine fn2 2 (Rn (l:=[(376938,RG)]) (by simp [TO])) Tryd.func90<|?_
 intro s1
 unfold Rp
 refine A 9 ?_
 refine bD λr2 hr2=>cG s1 rfl rfl (show _ = some RG from by kernel_rfl) RF rfl rfl (by simp) r hr2 r<|?_
 exact B

def Tm (a : (List QO)) : List D:=[.sl (a.map RJ)]
def Tl (ds : List D) : (List QO):=(uL VG) (ds.getD 0 .top)
theorem Yq (a : (List QO)) : Tl (Tm a) = a:=by simp [Tl,Tm,VX (u:=VG) (en:=RJ) YX]
instance : RP Tm Tl:=⟨Yq⟩
def YF (b : Int) : D:=Pl b
def Wn : Dw.Spec:=QW [] .ground Tm Tl (λa=>Ua a) YF noE
theorem Yr : QU Tryd.prog 70 Wn:=by
 refine fn2 1 (Rn (l:=[(376922,RB)]) (by simp [Tp])) Tryd.func70<|?_
 intro s1
 unfold Ua
 refine A 13 ?_
 refine cD r ?_ ?_
 ·exact B
 ·refine A 6 ?_
  refine bD λr2 hr2=>cG s1 rfl rfl (show _ = some RB from by kernel_rfl) RF rfl rfl (by simp) r hr2 r<|?_
  exact B

def UH (a : Mk × QT) : List D:=[Sn a.1,Re a.2]
def UG (ds : List D) : Mk × QT:=(UA (ds.getD 0 .top),Wb (ds.getD 1 .top))
theorem Zk (a : Mk × QT) : UG (UH a) = a:=by simp [UG,UH]
instance : RP UH UG:=⟨Zk⟩
def ZK (b : Ra) : D:=Xs b
def Xn : Dw.Spec:=QW [] .ground UH UG (λa=>VE a.1 a.2) ZK noE
theorem Zl : QU Tryd.prog 94 Xn:=by
 refine fn2 2 (RO) Tryd.func94<|?_
 intro a
 unfold VE
 exact B

end
end Go.Proofs.YtbnconokpjdnjaaDoor
