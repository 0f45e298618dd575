/-
  Programs on typed data, and the proofs that the code does what they say; written by a program (dx.py).
-/
import Derived.Test.YtbnconokpjdnjaaDoorProg
import Derived.Test.YtbnconokpjdnjaaDoorDd
import Derived.KernelRfl
import Derived.Test.YtbnconokpjdnjaaDoorSh
import Derived.Test.YtbnconokpjdnjaaDoorDxP
import Derived.Test.YtbnconokpjdnjaaDoorDxF1
namespace Go.Proofs.YtbnconokpjdnjaaDoor
open Go Go.Dw Go.Proofs
open Go.IntKind (u64 u8)
set_option maxRecDepth 100000
set_option maxHeartbeats 40000000
open Go.Dw renaming Sf -> bD,Rr -> cK,Ym -> bS,YU -> cD,Xe -> hE,Aam -> lP,YA -> sC,Wu -> bC,rf -> r
noncomputable section
def Up (a : Mk × QT × Ed) : List D:=[Sn a.1,Re a.2.1,QZ a.2.2]
def Uo (ds : List D) : Mk × QT × Ed:=(UA (ds.getD 0 .top),Wb (ds.getD 1 .top),Wv (ds.getD 2 .top))
theorem ZI (a : Mk × QT × Ed) : Uo (Up a) = a:=by simp [Uo,Up]
instance : RP Up Uo:=⟨ZI⟩
def Aad (b : Int) : D:=Pl b
def XV : Dw.Spec:=QW [] .ground Up Uo (λa=>TM a.1 a.2.1 a.2.2) Aad noE
theorem ZJ : QU Tryd.prog 71 XV:=by
 refine fn2 3 (Rn (l:=[(69,VU),(94,Xn)]) (by simp [WM,Zl])) Tryd.func71<|?_
 rintro ⟨p1,f2,x3⟩
 unfold TM
 refine A 13 ?_
 refine bD λr4 hr4=>?_
 refine A 4 ?_
 refine cD r ?_ ?_
 ·exact B
 ·refine A 6 ?_
  refine cK λhq=>Abq (kk:=69) (TL.map λq=>RU.mk q.1 q.2.1 q.2.2.1 q.2.2.2) (λq=>cells (UL q)) r r r hq r<|bD λe5 he5=>ZM (q:=e5) (l:=(TL.map λq=>RU.mk q.1 q.2.1 q.2.2.1 q.2.2.2)) (c:=λq=>cells (UL q)) (j:=x3.Op.toNat) 0 100 (λ_=>r) r r r r r r he5 r<|?_
  refine A 34 ?_
  refine lP (E:=λ(s : Int) (g : Nat × Nat × Nat × Nat × Nat × Nat)=>[(3,.optr 3 g.1 0 0),(4,.optr 4 g.2.1 0 0),(5,.optr 5 g.2.2.1 0 0),(7,.optr 7 g.2.2.2.1 0 0),(8,.optr 8 g.2.2.2.2.1 0 0),(9,.optr 9 g.2.2.2.2.2 0 0),(38,.agg [Pl e5.a,Pl e5.b,Pl e5.c]),(39,Pl s)]) (O:=λ_ g=>[(3,dV g.1 1 33 (.agg [.sl (p1.Funcs.map Re)])),(4,dV g.2.1 3 69 (Re f2)),(5,dV g.2.2.1 5 24 (QZ x3)),(7,dV g.2.2.2.1 4 146 (UL e5)),(8,dV g.2.2.2.2.1 3 148 (.agg [Pl e5.a,Pl e5.b,Pl e5.c])),(9,dV g.2.2.2.2.2 3 55 (.agg [Pl x3.A,Pl x3.B,Pl x3.C]))]) (body:=λs=>Sp e5 x3 p1 f2 s) (s:=0) (_,_,_,_,_,_) ((hE ⟨rfl,r,r,r,r,r,r,r,trivial⟩ ⟨rfl,r,r,r,r,r,trivial⟩))<|?_
  rintro x6 ⟨v3x1,v4x1,v5x1,v7x1,v8x1,v9x1⟩ nn
  try dsimp only
  unfold Sp
  refine A 6 ?_
  refine cD r ?_ ?_
  ·refine A 7 ?_
   refine cK λhq=>bD λe7 he7=>Yz (q:=e7) (l:=(RA.mk e5.a e5.b e5.c).toList) (en:=Su) r r r hq (by exact Nat.le_refl _) he7<|?_
   refine A 9 ?_
   refine YD r ?_ ?_
   ·refine A 1 ?_
    refine cK λhq=>Xv r r r hq<|bD λnumbers_e8 hnumbers_e8=>VF (q:=numbers_e8) (l:=(RA.mk x3.A x3.B x3.C).toList) (en:=Su) (j:=x6.toNat) (by simp) r r r hnumbers_e8 r (λ_=>r)<|?_
    exact B
   ·exact B
  ·refine A 5 ?_
   refine sC (E:=λ(_s : Unit) (g : Nat × Nat × Nat × Nat × Nat)=>[(3,.optr 3 g.1 0 0),(4,.optr 4 g.2.1 0 0),(5,.optr 5 g.2.2.1 0 0),(8,.optr 8 g.2.2.2.1 0 0),(9,.optr 9 g.2.2.2.2 0 0)]) (O:=λ_ g=>[(3,dV g.1 1 33 (.agg [.sl (p1.Funcs.map Re)])),(4,dV g.2.1 3 69 (Re f2)),(5,dV g.2.2.1 5 24 (QZ x3)),(8,dV g.2.2.2.1 3 148 (.agg [Pl e5.a,Pl e5.b,Pl e5.c])),(9,dV g.2.2.2.2 3 55 (.agg [Pl x3.A,Pl x3.B,Pl x3.C]))]) (j:=λ_=>SR p1 f2 e5 x3) ?_ ?_
   ·exact B
   ·rintro ⟨⟩ ⟨v3x2,v4x2,v5x2,v8x2,v9x2⟩ nn
    try dsimp only
    unfold SR
    refine A 4 ?_
    refine bD λr9 hr9=>?_
    refine A 18 ?_
    refine lP (E:=λ(s : Int × Int) (g : Nat × Nat × Nat × Nat)=>[(4,.optr 4 g.1 0 0),(5,.optr 5 g.2.1 0 0),(9,.optr 9 g.2.2.1 0 0),(12,.optr 12 g.2.2.2 0 0),(13,Pl s.1),(63,.agg [Pl e5.a,Pl e5.b,Pl e5.c]),(64,Pl s.2)]) (O:=λ_ g=>[(4,dV g.1 3 69 (Re f2)),(5,dV g.2.1 5 24 (QZ x3)),(9,dV g.2.2.1 3 55 (.agg [Pl x3.A,Pl x3.B,Pl x3.C])),(12,dV g.2.2.2 7 149 (Xs r9))]) (body:=λs=>Sq e5 x3 r9 f2 s.1 s.2) (s:=(0,0)) (_,_,_,_) ((hE ⟨rfl,r,r,r,r,r,r,trivial⟩ ⟨rfl,r,r,r,trivial⟩))<|?_
    rintro ⟨wrong10,x11⟩ ⟨v4x3,v5x3,v9x3,v12x3⟩ nn
    try dsimp only
    unfold Sq
    refine A 6 ?_
    refine cD r ?_ ?_
    ·refine A 7 ?_
     refine cK λhq=>bD λe12 he12=>Yz (q:=e12) (l:=(RA.mk e5.a e5.b e5.c).toList) (en:=Su) r r r hq (by exact Nat.le_refl _) he12<|?_
     refine A 8 ?_
     refine cK λhq=>Xv r r r hq<|bD λnumbers_e13 hnumbers_e13=>VF (q:=numbers_e13) (l:=(RA.mk x3.A x3.B x3.C).toList) (en:=Su) (j:=x11.toNat) (by simp) r r r hnumbers_e13 r (λ_=>r)<|?_
     refine A 1 ?_
     refine cK λhq=>Xv r r r hq<|bD λall_e14 hall_e14=>VF (q:=all_e14) (l:=r9.toList) (en:=Su) (j:=e12.toNat) (by simp) r r r hall_e14 r (λ_=>r)<|?_
     exact B
    ·exact B

def Yj (b : Bool) : D:=.bool b
def VT : Dw.Spec:=QW [] .ground Rx Rv (λa=>UF a) Yj noE
theorem XQ : QU Tryd.prog 72 VT:=by
 refine fn2 1 (RO) Tryd.func72<|?_
 intro a
 unfold UF
 exact B

def Ta (a : Mk × Int) : List D:=[Sn a.1,Pl a.2]
def SZ (ds : List D) : Mk × Int:=(UA (ds.getD 0 .top),uI (ds.getD 1 .top))
theorem Yh (a : Mk × Int) : SZ (Ta a) = a:=by simp [SZ,Ta,uI]
instance : RP Ta SZ:=⟨Yh⟩
def Yx (b : Int) : D:=Pl b
def Wa : Dw.Spec:=QW [] .ground Ta SZ (λa=>Un a.1 a.2) Yx noE
theorem Yi : QU Tryd.prog 52 Wa:=by
 refine fn2 2 (Rn (l:=[(69,VU),(70,Wn),(71,XV),(72,VT)]) (by simp [WM,Yr,ZJ,XQ])) Tryd.func52<|?_
 rintro ⟨p1,i2⟩
 unfold Un
 refine A 13 ?_
 refine bD λr3 hr3=>?_
 refine A 4 ?_
 refine cD r ?_ ?_
 ·exact B
 ·refine A 7 ?_
  refine bD λx_x4 hx_x4=>?_
  refine A 15 ?_
  refine cD r ?_ ?_
  ·exact B
  ·refine A 7 ?_
   refine bD λr5 hr5=>?_
   refine A 10 ?_
   refine cD r ?_ ?_
   ·exact B
   ·refine A 7 ?_
    refine bD λr6 hr6=>?_
    refine A 4 ?_
    refine cD r ?_ ?_
    ·exact B
    ·refine A 12 ?_
     refine lP (E:=λ(s : Int) (g : Nat × Nat)=>[(2,.optr 2 g.1 0 0),(5,.optr 5 g.2 0 0),(37,.sl (x_x4.Code.map QZ)),(38,Pl (x_x4.Code.length : Int)),(39,Pl s)]) (O:=λ_ g=>[(2,dV g.1 1 33 (.agg [.sl (p1.Funcs.map Re)])),(5,dV g.2 3 69 (Re x_x4))]) (body:=λs=>Sd x_x4 p1 s) (s:=0) (_,_) ((hE ⟨rfl,r,r,r,r,trivial⟩ ⟨rfl,r,trivial⟩))<|?_
     rintro x7 ⟨v2x1,v5x1⟩ nn
     try dsimp only
     unfold Sd
     exact B

def SY (a : Mk) : List D:=[Sn a]
def SX (ds : List D) : Mk:=UA (ds.getD 0 .top)
theorem ZG (a : Mk) : SX (SY a) = a:=by simp [SX,SY]
instance : RP SY SX:=⟨ZG⟩
def Aac (b : Int) : D:=Pl b
def XU : Dw.Spec:=QW [] .ground SY SX (λa=>Vv a) Aac noE
theorem ZH : QU Tryd.prog 34 XU:=by
 refine fn2 1 (Rn (l:=[(52,Wa)]) (by simp [Yi])) Tryd.func34<|?_
 intro p1
 unfold Vv
 refine A 23 ?_
 refine cD r ?_ ?_
 ·exact B
 ·refine A 7 ?_
  refine cD r ?_ ?_
  ·exact B
  ·refine A 4 ?_
   refine bD λx_x2 hx_x2=>?_
   refine A 7 ?_
   refine cD r ?_ ?_
   ·exact B
   ·refine A 13 ?_
    refine lP (E:=λ(s : Int) (g : Nat)=>[(1,.optr 1 g 0 0),(24,Pl (p1.Funcs.length : Int)),(25,Pl s)]) (O:=λ_ g=>[(1,dV g 1 33 (.agg [.sl (p1.Funcs.map Re)]))]) (body:=λs=>To p1 s) (s:=0) _ ((hE ⟨rfl,r,r,trivial⟩ ⟨rfl,trivial⟩))<|?_
    rintro x3 v1x1 nn
    try dsimp only
    unfold To
    exact B

def Yk (b : (List UInt8) × Int) : D:=.tup [.str b.1,Pl b.2]
def VV : Dw.Spec:=QW [] .ground SY SX (λa=>Uh a) Yk noE
theorem XR : QU Tryd.prog 12 VV:=by
 refine fn2 1 (Rn (l:=[(34,XU),(22,Xt),(35,Abw),(7,Vh),(36,Abu),(37,Abv)]) (by simp [ZH,Zz,Acd,VW,AbZ,Acb])) Tryd.func12<|?_
 intro p1
 unfold Uh
 refine A 11 ?_
 refine bD λr2 hr2=>?_
 refine A 10 ?_
 refine cD r ?_ ?_
 ·exact B
 ·refine A 4 ?_
  refine AbS λnn=>?_
  refine A 12 ?_
  refine lP (E:=λ(s : (List UInt8) × Int) (g : Nat)=>[(5,.mref 5 g),(18,.sl (p1.Funcs.map Re)),(19,Pl (p1.Funcs.length : Int)),(20,Pl s.2)]) (O:=λs g=>[(5,some (g,⟨true,false,0,2,TY 79 5 s.1⟩))]) (body:=λs=>RI p1 s.1 s.2) (s:=(([] : List UInt8),0)) _ ((hE ⟨rfl,r,r,r,trivial⟩ ⟨rfl,trivial⟩))<|?_
  rintro ⟨out3,x4⟩ v5x1 nn
  try dsimp only
  unfold RI
  refine A 6 ?_
  refine cD r ?_ ?_
  ·refine A 6 ?_
   refine bD λx_x5 hx_x5=>?_
   refine A 10 ?_
   refine bD λr6 hr6=>?_
   refine A 3 ?_
   refine cK λhq=>YT r r r r r hq λnn=>?_
   refine A 12 ?_
   refine lP (E:=λ(s : (List UInt8) × Int) (g : Nat × Nat)=>[(5,.mref 5 g.1),(7,.optr 7 g.2 0 0),(18,.sl (p1.Funcs.map Re)),(19,Pl (p1.Funcs.length : Int)),(20,Pl x4),(31,.sl (x_x5.Slots.map RJ)),(32,Pl (x_x5.Slots.length : Int)),(33,Pl s.2)]) (O:=λs g=>[(5,some (g.1,⟨true,false,0,2,TY 79 5 s.1⟩)),(7,dV g.2 3 69 (Re x_x5))]) (body:=λs=>RN x_x5 x4 s.1 s.2) (s:=(out3 ++ ((([102,117,110,99,32]) ++ r6) ++ ([10])),0)) (_,_) ((hE ⟨rfl,r,r,r,r,r,r,r,trivial⟩ ⟨rfl,r,trivial⟩))<|?_
   rintro ⟨out7,x8⟩ ⟨v5x2,v7x2⟩ nn
   try dsimp only
   unfold RN
   refine A 6 ?_
   refine cD r ?_ ?_
   ·refine A 6 ?_
    refine bD λx_x9 hx_x9=>?_
    refine A 10 ?_
    refine bD λr10 hr10=>?_
    refine A 5 ?_
    refine bD λr11 hr11=>?_
    refine A 6 ?_
    refine cK λhq=>YT r r r r r hq λnn=>?_
    exact B
   ·refine A 14 ?_
    refine lP (E:=λ(s : (List UInt8) × Int) (g : Nat)=>[(5,.mref 5 g),(18,.sl (p1.Funcs.map Re)),(19,Pl (p1.Funcs.length : Int)),(20,Pl x4),(50,.sl (x_x5.Code.map QZ)),(51,Pl (x_x5.Code.length : Int)),(52,Pl s.2)]) (O:=λs g=>[(5,some (g,⟨true,false,0,2,TY 79 5 s.1⟩))]) (body:=λs=>RV x_x5 x4 s.1 s.2) (s:=(out7,0)) _ ((hE ⟨rfl,r,r,r,r,r,r,trivial⟩ ⟨rfl,trivial⟩))<|?_
    rintro ⟨out12,x13⟩ v5x3 nn
    try dsimp only
    unfold RV
    refine A 6 ?_
    refine cD r ?_ ?_
    ·refine A 6 ?_
     refine bD λx_x14 hx_x14=>?_
     refine A 8 ?_
     refine bD λr15 hr15=>?_
     refine A 2 ?_
     refine cK λhq=>YT r r r r r hq λnn=>?_
     exact B
    ·exact B
  ·refine A 8 ?_
   refine AbP r r r r r λnn=>?_
   refine A 3 ?_
   refine cD r ?_ ?_
   ·exact B
   ·refine A 4 ?_
    refine cK λhq=>AbQ r r r r r hq λnn=>?_
    exact B

def YN (b : Bool) : D:=.bool b
def UE : Dw.Spec:=QW [] .ground Ug Uf (λa=>Rs a.1 a.2) YN noE
theorem Vf : QU Tryd.prog 74 UE:=by
 refine fn2 2 (RO) Tryd.func74<|?_
 intro a
 unfold Rs
 exact B

def ZD (b : Bool) : D:=.bool b
def Xf : Dw.Spec:=QW [] .ground Rx Rv (λa=>TI a) ZD noE
theorem Zd : QU Tryd.prog 95 Xf:=by
 refine fn2 1 (RO) Tryd.func95<|?_
 intro a
 unfold TI
 exact B

def Ze (b : Bool) : D:=.bool b
def WH : Dw.Spec:=QW [] .ground Rx Rv (λa=>Ur a) Ze noE
theorem YK : QU Tryd.prog 96 WH:=by
 refine fn2 1 (RO) Tryd.func96<|?_
 intro n1
 unfold Ur
 refine A 12 ?_
 refine lP (E:=λ(s : Int) (_g : Unit)=>[(0,Pl n1),(3,Pl s)]) (O:=λ_ _=>[]) (body:=λs=>RM n1 s) (s:=1) () ((hE ⟨rfl,r,trivial⟩ trivial))<|?_
 rintro k2 ⟨⟩ nn
 try dsimp only
 unfold RM
 exact B

def Zf (b : Int) : D:=Pl b
def WI : Dw.Spec:=QW [] .ground Tm Tl (λa=>Us a) Zf noE
theorem YL : QU Tryd.prog 75 WI:=by
 refine fn2 1 (Rn (l:=[(95,Xf),(96,WH)]) (by simp [Zd,YK])) Tryd.func75<|?_
 intro s1
 unfold Us
 refine A 13 ?_
 refine cD r ?_ ?_
 ·exact B
 ·refine A 9 ?_
  refine lP (E:=λ(s : Int) (_g : Unit)=>[(0,.sl (s1.map RJ)),(3,Pl s)]) (O:=λ_ _=>[]) (body:=λs=>UD s1 s) (s:=0) () ((hE ⟨rfl,r,trivial⟩ trivial))<|?_
  rintro i2 ⟨⟩ nn
  try dsimp only
  unfold UD
  exact B

def Yd (b : Bool × Bool × Bool × Bool) : D:=.tup [.bool b.1,.bool b.2.1,.bool b.2.2.1,.bool b.2.2.2]
def UT : Dw.Spec:=QW [] .ground Rx Rv (λa=>QV a) Yd noE
theorem VA : QU Tryd.prog 25 UT:=by
 refine fn2 1 (RO) Tryd.func25<|?_
 intro op1
 unfold QV
 refine A 21 ?_
 refine cD r ?_ ?_
 ·exact B
 ·refine sC (E:=λ(s : Bool) (_g : Unit)=>[(6,Pl op1),(9,.bool s)]) (O:=λ_ _=>[]) (j:=λs=>QM op1 s) ?_ ?_
  ·exact B
  ·rintro x2 ⟨⟩ nn
   try dsimp only
   unfold QM
   refine cD r ?_ ?_
   ·exact B
   ·refine sC (E:=λ(s : Bool) (_g : Unit)=>[(6,Pl op1),(18,.bool s)]) (O:=λ_ _=>[]) (j:=λs=>QK op1 s) ?_ ?_
    ·exact B
    ·rintro x3 ⟨⟩ nn
     try dsimp only
     unfold QK
     refine cD r ?_ ?_
     ·exact B
     ·refine sC (E:=λ(s : Bool) (_g : Unit)=>[(6,Pl op1),(29,.bool s)]) (O:=λ_ _=>[]) (j:=λs=>QP op1 s) ?_ ?_
      ·exact B
      ·rintro x4 ⟨⟩ nn
       try dsimp only
       unfold QP
       exact B

def Yf (b : Bool) : D:=.bool b
def VR : Dw.Spec:=QW [] .ground Rx Rv (λa=>Rt a) Yf noE
theorem XP : QU Tryd.prog 107 VR:=by
 refine fn2 1 (RO) Tryd.func107<|?_
 intro a
 unfold Rt
 exact B

def Ye (b : Bool) : D:=.bool b
def VQ : Dw.Spec:=QW [] .ground Up Uo (λa=>QY a.1 a.2.1 a.2.2) Ye noE
theorem XO : QU Tryd.prog 97 VQ:=by
 refine fn2 3 (Rn (l:=[(107,VR),(74,UE)]) (by simp [XP,Vf])) Tryd.func97<|?_
 rintro ⟨p1,f2,x3⟩
 unfold QY
 refine A 16 ?_
 refine sC (E:=λ(s : Bool) (g : Nat × Nat × Nat)=>[(3,.optr 3 g.1 0 0),(4,.optr 4 g.2.1 0 0),(5,.optr 5 g.2.2 0 0),(8,Pl x3.Op),(9,.bool s)]) (O:=λ_ g=>[(3,dV g.1 1 33 (.agg [.sl (p1.Funcs.map Re)])),(4,dV g.2.1 3 69 (Re f2)),(5,dV g.2.2 5 24 (QZ x3))]) (j:=λs=>QQ x3 f2 p1 s) ?_ ?_
 ·exact B
 ·rintro x4 ⟨v3x1,v4x1,v5x1⟩ nn
  try dsimp only
  unfold QQ
  refine cD r ?_ ?_
  ·exact B
  ·refine sC (E:=λ(s : Bool) (g : Nat × Nat × Nat)=>[(3,.optr 3 g.1 0 0),(4,.optr 4 g.2.1 0 0),(5,.optr 5 g.2.2 0 0),(8,Pl x3.Op),(16,.bool s)]) (O:=λ_ g=>[(3,dV g.1 1 33 (.agg [.sl (p1.Funcs.map Re)])),(4,dV g.2.1 3 69 (Re f2)),(5,dV g.2.2 5 24 (QZ x3))]) (j:=λs=>QS x3 f2 p1 s) ?_ ?_
   ·exact B
   ·rintro x6 ⟨v3x2,v4x2,v5x2⟩ nn
    try dsimp only
    unfold QS
    refine cD r ?_ ?_
    ·exact B
    ·refine sC (E:=λ(s : Bool) (g : Nat × Nat × Nat)=>[(3,.optr 3 g.1 0 0),(4,.optr 4 g.2.1 0 0),(5,.optr 5 g.2.2 0 0),(8,Pl x3.Op),(27,.bool s)]) (O:=λ_ g=>[(3,dV g.1 1 33 (.agg [.sl (p1.Funcs.map Re)])),(4,dV g.2.1 3 69 (Re f2)),(5,dV g.2.2 5 24 (QZ x3))]) (j:=λs=>QL x3 f2 p1 s) ?_ ?_
     ·exact B
     ·rintro x9 ⟨v3x3,v4x3,v5x3⟩ nn
      try dsimp only
      unfold QL
      exact B

def Te (a : Mk × Int × Int) : List D:=[Sn a.1,Pl a.2.1,Pl a.2.2]
def Td (ds : List D) : Mk × Int × Int:=(UA (ds.getD 0 .top),uI (ds.getD 1 .top),uI (ds.getD 2 .top))
theorem WO (a : Mk × Int × Int) : Td (Te a) = a:=by simp [Td,Te,uI]
instance : RP Te Td:=⟨WO⟩
def Xh (b : Int) : D:=Pl b
def Vt : Dw.Spec:=QW [] .ground Te Td (λa=>SF a.1 a.2.1 a.2.2) Xh noE
theorem WQ : QU Tryd.prog 76 Vt:=by
 refine fn2 3 (Rn (l:=[(74,UE),(25,UT),(97,VQ)]) (by simp [Vf,VA,XO])) Tryd.func76<|?_
 rintro ⟨p1,i2,k3⟩
 unfold SF
 refine A 6 ?_
 refine sC (E:=λ(_s : Unit) (g : Nat)=>[(1,Pl i2),(2,Pl k3),(3,.optr 3 g 0 0)]) (O:=λ_ g=>[(3,dV g 1 33 (.agg [.sl (p1.Funcs.map Re)]))]) (j:=λ_=>SE p1 i2 k3) ?_ ?_
 ·exact B
 ·rintro ⟨⟩ v3x1 nn
  try dsimp only
  unfold SE
  refine A 5 ?_
  refine bD λx_x7 hx_x7=>?_
  refine A 11 ?_
  refine bD λx_x8 hx_x8=>?_
  refine A 11 ?_
  refine bD λr9 hr9=>?_
  refine A 4 ?_
  refine cD r ?_ ?_
  ·exact B
  ·refine A 6 ?_
   refine bD λr10 hr10=>?_
   refine A 12 ?_
   refine sC (E:=λ(_s : Unit) (g : Nat × Nat × Nat)=>[(3,.optr 3 g.1 0 0),(7,.optr 7 g.2.1 0 0),(8,.optr 8 g.2.2 0 0)]) (O:=λ_ g=>[(3,dV g.1 1 33 (.agg [.sl (p1.Funcs.map Re)])),(7,dV g.2.1 3 69 (Re x_x7)),(8,dV g.2.2 5 24 (QZ x_x8))]) (j:=λ_=>Lo p1 x_x7 x_x8) ?_ ?_
   ·exact B
   ·rintro ⟨⟩ ⟨v3x2,v7x2,v8x2⟩ nn
    try dsimp only
    unfold Lo
    refine A 6 ?_
    refine bD λr11 hr11=>?_
    refine A 4 ?_
    refine cD r ?_ ?_
    ·exact B
    ·refine A 2 ?_
     refine sC (E:=λ(_s : Unit) (g : Nat × Nat)=>[(7,.optr 7 g.1 0 0),(8,.optr 8 g.2 0 0)]) (O:=λ_ g=>[(7,dV g.1 3 69 (Re x_x7)),(8,dV g.2 5 24 (QZ x_x8))]) (j:=λ_=>QN x_x8 x_x7) ?_ ?_
     ·exact B
     ·rintro ⟨⟩ ⟨v7x3,v8x3⟩ nn
      try dsimp only
      unfold QN
      exact B

def Xi (b : Bool) : D:=.bool b
def Vu : Dw.Spec:=QW [] .ground Rx Rv (λa=>SH a) Xi noE
theorem WR : QU Tryd.prog 77 Vu:=by
 refine fn2 1 (RO) Tryd.func77<|?_
 intro a
 unfold SH
 exact B

def XN (b : Int) : D:=Pl b
def Vz : Dw.Spec:=QW [] .ground Ta SZ (λa=>TJ a.1 a.2) XN noE
theorem Xg : QU Tryd.prog 54 Vz:=by
 refine fn2 2 (Rn (l:=[(74,UE),(75,WI),(76,Vt),(77,Vu)]) (by simp [Vf,YL,WQ,WR])) Tryd.func54<|?_
 rintro ⟨p1,i2⟩
 unfold TJ
 refine A 13 ?_
 refine bD λr3 hr3=>?_
 refine A 4 ?_
 refine cD r ?_ ?_
 ·exact B
 ·refine A 7 ?_
  refine bD λx_x4 hx_x4=>?_
  refine A 15 ?_
  refine cD r ?_ ?_
  ·exact B
  ·refine A 7 ?_
   refine bD λr5 hr5=>?_
   refine A 10 ?_
   refine cD r ?_ ?_
   ·exact B
   ·refine A 2 ?_
    refine sC (E:=λ(_s : Unit) (g : Nat × Nat)=>[(1,Pl i2),(2,.optr 2 g.1 0 0),(5,.optr 5 g.2 0 0)]) (O:=λ_ g=>[(2,dV g.1 1 33 (.agg [.sl (p1.Funcs.map Re)])),(5,dV g.2 3 69 (Re x_x4))]) (j:=λ_=>Uy x_x4 p1 i2) ?_ ?_
    ·exact B
    ·rintro ⟨⟩ ⟨v2x1,v5x1⟩ nn
     try dsimp only
     unfold Uy
     refine A 7 ?_
     refine lP (E:=λ(s : Int) (g : Nat × Nat)=>[(1,Pl i2),(2,.optr 2 g.1 0 0),(5,.optr 5 g.2 0 0),(7,Pl s)]) (O:=λ_ g=>[(2,dV g.1 1 33 (.agg [.sl (p1.Funcs.map Re)])),(5,dV g.2 3 69 (Re x_x4))]) (body:=λs=>RT x_x4 p1 i2 s) (s:=0) (_,_) ((hE ⟨rfl,r,r,r,trivial⟩ ⟨rfl,r,trivial⟩))<|?_
     rintro k6 ⟨v2x2,v5x2⟩ nn
     try dsimp only
     unfold RT
     exact B

def Zg (b : Int) : D:=Pl b
def WJ : Dw.Spec:=QW [] .ground SY SX (λa=>UO a) Zg noE
theorem YM : QU Tryd.prog 38 WJ:=by
 refine fn2 1 (Rn (l:=[(54,Vz)]) (by simp [Xg])) Tryd.func38<|?_
 intro p1
 unfold UO
 refine A 15 ?_
 refine cD r ?_ ?_
 ·exact B
 ·refine A 11 ?_
  refine cD r ?_ ?_
  ·exact B
  ·refine A 7 ?_
   refine bD λx_x2 hx_x2=>?_
   refine A 6 ?_
   refine cD r ?_ ?_
   ·exact B
   ·refine A 9 ?_
    refine lP (E:=λ(s : Int) (g : Nat)=>[(1,.optr 1 g 0 0),(3,Pl s)]) (O:=λ_ g=>[(1,dV g 1 33 (.agg [.sl (p1.Funcs.map Re)]))]) (body:=λs=>SG p1 s) (s:=0) _ ((hE ⟨rfl,r,trivial⟩ ⟨rfl,trivial⟩))<|?_
    rintro i3 v1x1 nn
    try dsimp only
    unfold SG
    exact B

def TX (a : Int) : List D:=[Aar a]
def TW (ds : List D) : Int:=uI (ds.getD 0 .top)
theorem Yg (a : Int) : TW (TX a) = a:=by simp [TW,TX,uI]
instance : RP TX TW:=⟨Yg⟩
def Yu (b : (List UInt8)) : D:=.str b
def Vg : Dw.Spec:=QW [] .ground TX TW (λa=>Ss a) Yu noE
theorem VS : QU Tryd.prog 28 Vg:=by
 refine fn2 1 (RO) Tryd.func28<|?_
 intro u1
 unfold Ss
 refine A 11 ?_
 refine lP (E:=λ(s : Int × (List UInt8)) (_g : Unit)=>[(0,Aar s.1),(3,.str s.2)]) (O:=λ_ _=>[]) (body:=λs=>SI s.1 s.2) (s:=(u1,[])) () ((hE ⟨rfl,r,trivial⟩ trivial))<|?_
 rintro ⟨u2,s3⟩ ⟨⟩ nn
 try dsimp only
 unfold SI
 refine A 8 ?_
 refine AbO (([u8.wrap (u64.wrap (48 + (u2.tmod 10)))] : List Int)) r r r r r (by first | trivial | (simp; done) | (simp; omega)) (by first | rfl | (simp [List.map_take,List.map_drop]; done))<|?_
 exact B

def Aab (b : (List UInt8)) : D:=.str b
def Wg : Dw.Spec:=QW [] .ground Rx Rv (λa=>Tf a) Aab noE
theorem Xj : QU Tryd.prog 27 Wg:=by
 refine fn2 1 (Rn (l:=[(28,Vg)]) (by simp [VS])) Tryd.func27<|?_
 intro a
 unfold Tf
 exact B

def ZE (b : (List UInt8)) : D:=.str b
def Xk : Dw.Spec:=QW [] .ground Rx Rv (λa=>Ul a) ZE noE
theorem Zi : QU Tryd.prog 24 Xk:=by
 refine fn2 1 (RO) Tryd.func24<|?_
 intro op1
 unfold Ul
 refine A 7 ?_
 refine bS ([[99,111,110,115,116],[99,111,112,121],[97,100,100],[115,117,98],[109,117,108],[100,105,118],[97,110,100],[111,114],[120,111,114],[108,101,115,115],[101,113,117,97,108],[112,97,105,114],[104,105,103,104],[105,110],[111,117,116],[108,111,97,100],[115,116,111,114,101],[109,111,118,101],[97,114,103],[112,97,114,97,109],[106,117,109,112],[98,114,97,110,99,104],[99,97,108,108],[114,101,116,117,114,110],[116,114,97,112]] : List (List UInt8)) D.str r r r (by simp) r r r<|?_
 exact B

def Zj (b : (List UInt8) × (List UInt8) × (List UInt8)) : D:=.tup [.str b.1,.str b.2.1,.str b.2.2]
def WL : Dw.Spec:=QW [] .ground Rx Rv (λa=>UP a) Zj noE
theorem YQ : QU Tryd.prog 26 WL:=by
 refine fn2 1 (RO) Tryd.func26<|?_
 intro a
 unfold UP
 exact B

def Zh (b : (List UInt8)) : D:=.str b
def WK : Dw.Spec:=QW [] .ground Tc Tb (λa=>Sb a) Zh noE
theorem YP : QU Tryd.prog 8 WK:=by
 refine fn2 1 (Rn (l:=[(24,Xk),(25,UT),(26,WL),(27,Wg),(28,Vg)]) (by simp [Zi,VA,YQ,Xj,VS])) Tryd.func8<|?_
 intro x1
 unfold Sb
 refine A 10 ?_
 refine bD λr2 hr2=>?_
 refine A 11 ?_
 refine cD r ?_ ?_
 ·exact B
 ·refine A 6 ?_
  refine bD λr3 hr3=>?_
  refine A 16 ?_
  refine bD λr4 hr4=>?_
  refine A 10 ?_
  refine sC (E:=λ(s : (List UInt8)) (g : Nat)=>[(1,.optr 1 g 0 0),(3,.str s),(5,.bool r3.2.1),(6,.bool r3.2.2.1),(7,.bool r3.2.2.2),(9,.str r4.2.1),(10,.str r4.2.2)]) (O:=λ_ g=>[(1,dV g 5 24 (QZ x1))]) (j:=λs=>Tg r3 r4 x1 s) ?_ ?_
  ·exact B
  ·rintro s5 v1x1 nn
   try dsimp only
   unfold Tg
   refine sC (E:=λ(s : (List UInt8)) (g : Nat)=>[(1,.optr 1 g 0 0),(3,.str s),(6,.bool r3.2.2.1),(7,.bool r3.2.2.2),(10,.str r4.2.2)]) (O:=λ_ g=>[(1,dV g 5 24 (QZ x1))]) (j:=λs=>Th r3 r4 x1 s) ?_ ?_
   ·exact B
   ·rintro s7 v1x2 nn
    try dsimp only
    unfold Th
    refine sC (E:=λ(s : (List UInt8)) (g : Nat)=>[(1,.optr 1 g 0 0),(3,.str s),(7,.bool r3.2.2.2)]) (O:=λ_ g=>[(1,dV g 5 24 (QZ x1))]) (j:=λs=>Ti r3 x1 s) ?_ ?_
    ·exact B
    ·rintro s9 v1x3 nn
     try dsimp only
     unfold Ti
     exact B

def YO (b : (List UInt8) × Int) : D:=.tup [.str b.1,Pl b.2]
def Ws : Dw.Spec:=QW [] .ground SY SX (λa=>Uz a) YO noE
theorem Yv : QU Tryd.prog 13 Ws:=by
 refine fn2 1 (Rn (l:=[(38,WJ),(27,Wg),(8,WK)]) (by simp [YM,Xj,YP])) Tryd.func13<|?_
 intro p1
 unfold Uz
 refine A 11 ?_
 refine bD λr2 hr2=>?_
 refine A 10 ?_
 refine cD r ?_ ?_
 ·exact B
 ·refine A 7 ?_
  refine sC (E:=λ(s : (List UInt8)) (_g : Unit)=>[(5,.str s)]) (O:=λ_ _=>[]) (j:=λs=>SW s) ?_ ?_
  ·refine A 6 ?_
   refine lP (E:=λ(s : (List UInt8) × Int) (g : Nat)=>[(1,.optr 1 g 0 0),(5,.str s.1),(6,Pl s.2)]) (O:=λ_ g=>[(1,dV g 1 33 (.agg [.sl (p1.Funcs.map Re)]))]) (body:=λs=>RX p1 s.1 s.2) (s:=([],0)) _ ((hE ⟨rfl,r,r,trivial⟩ ⟨rfl,trivial⟩))<|?_
   rintro ⟨s4,i5⟩ v1x1 nn
   try dsimp only
   unfold RX
   refine sC (E:=λ(_s : Unit) (g : Nat)=>[(1,.optr 1 g 0 0),(5,.str s4),(6,Pl i5),(21,.str s4),(22,Pl (s4.length : Int)),(23,.bool (decide ((s4.length : Int) <= 65536)))]) (O:=λ_ g=>[(1,dV g 1 33 (.agg [.sl (p1.Funcs.map Re)]))]) (j:=λ_=>TK p1 i5 s4) ?_ ?_
   ·exact B
   ·rintro ⟨⟩ v1x2 nn
    try dsimp only
    unfold TK
    refine bC (E:=λ(s : (List UInt8)) (g : Nat)=>[(1,.optr 1 g 0 0),(5,.str s),(6,Pl i5),(21,.str s4),(22,Pl (s4.length : Int)),(23,.bool (decide ((s4.length : Int) <= 65536)))]) (O:=λ_ g=>[(1,dV g 1 33 (.agg [.sl (p1.Funcs.map Re)]))]) (j:=λs=>Uu i5 s) ?_ ?_
    ·refine A 5 ?_
     refine bD λx_x7 hx_x7=>?_
     refine A 11 ?_
     refine bD λr8 hr8=>?_
     refine A 14 ?_
     refine lP (E:=λ(s : (List UInt8) × Int) (g : Nat × Nat)=>[(1,.optr 1 g.1 0 0),(5,.str s.1),(6,Pl i5),(7,.optr 7 g.2 0 0),(8,Pl s.2),(21,.str s4),(22,Pl (s4.length : Int)),(23,.bool (decide ((s4.length : Int) <= 65536)))]) (O:=λ_ g=>[(1,dV g.1 1 33 (.agg [.sl (p1.Funcs.map Re)])),(7,dV g.2 3 69 (Re x_x7))]) (body:=λs=>RY x_x7 i5 s.1 s.2) (s:=(s4 ++ ((([102,117,110,99,32]) ++ r8) ++ ([10])),0)) (_,_) ((hE ⟨rfl,r,r,r,r,r,r,r,trivial⟩ ⟨rfl,r,trivial⟩))<|?_
     rintro ⟨s9,k10⟩ ⟨v1x3,v7x3⟩ nn
     try dsimp only
     unfold RY
     refine A 10 ?_
     refine cD r ?_ ?_
     ·exact B
     ·refine A 11 ?_
      refine lP (E:=λ(s : (List UInt8) × Int) (g : Nat × Nat)=>[(1,.optr 1 g.1 0 0),(5,.str s.1),(6,Pl i5),(7,.optr 7 g.2 0 0),(9,Pl s.2),(21,.str s4),(22,Pl (s4.length : Int)),(23,.bool (decide ((s4.length : Int) <= 65536)))]) (O:=λ_ g=>[(1,dV g.1 1 33 (.agg [.sl (p1.Funcs.map Re)])),(7,dV g.2 3 69 (Re x_x7))]) (body:=λs=>So x_x7 i5 s.1 s.2) (s:=(s9,0)) (_,_) ((hE ⟨rfl,r,r,r,r,r,r,r,trivial⟩ ⟨rfl,r,trivial⟩))<|?_
      rintro ⟨s15,k16⟩ ⟨v1x4,v7x4⟩ nn
      try dsimp only
      unfold So
      exact B
    ·rintro s6 v1x5 nn
     try dsimp only
     unfold Uu
     exact B
  ·rintro s3 ⟨⟩ nn
   try dsimp only
   unfold SW
   exact B

def Sz (a : (List Int)) : List D:=[.sl (a.map eU8)]
def Sy (ds : List D) : (List Int):=(uL uI) (ds.getD 0 .top)
theorem UM (a : (List Int)) : Sy (Sz a) = a:=by simp [Sy,Sz,VX (u:=uI) (en:=eU8) (λ_=>rfl)]
instance : RP Sz Sy:=⟨UM⟩
def Wp (b : Bool) : D:=.bool b
def Wq : Dw.Spec:=QW [] .ground Sz Sy (λa=>SD a) Wp noE
theorem We : QU Tryd.prog 4 Wq:=by
 refine fn2 1 (Rn (l:=[(6,WG),(9,Yo),(10,Va),(11,VL),(12,VV),(13,Ws)]) (by simp [YJ,ZQ,Wj,XC,XR,Yv])) Tryd.func4<|?_
 intro codes1
 unfold SD
 refine A 8 ?_
 refine bD λr2 hr2=>?_
 refine A 4 ?_
 refine cD r ?_ ?_
 ·exact B
 ·refine A 5 ?_
  refine bD λr3 hr3=>?_
  refine A 7 ?_
  refine bD λr4 hr4=>?_
  refine A 11 ?_
  refine bD λr5 hr5=>?_
  refine A 2 ?_
  refine bS ([r4.1,r5.1,(Mk.mk ([]))] : List Mk) Sn r r r (by simp) r r r<|?_
  refine A 5 ?_
  refine lP (E:=λ(s : Int) (g : Nat)=>[(22,.osl 22 g 0 (([r4.1,r5.1,(Mk.mk ([]))] : List Mk).length)),(23,Pl (([r4.1,r5.1,(Mk.mk ([]))] : List Mk).length : Int)),(24,Pl s)]) (O:=λ_ g=>[(22,dW g 1 33 (([r4.1,r5.1,(Mk.mk ([]))] : List Mk).map Sn))]) (body:=λs=>SO r4 r5 s) (s:=0) _ ((hE ⟨rfl,r,r,trivial⟩ ⟨rfl,trivial⟩))<|?_
  rintro x6 v22x1 nn
  try dsimp only
  unfold SO
  exact B

end
end Go.Proofs.YtbnconokpjdnjaaDoor
