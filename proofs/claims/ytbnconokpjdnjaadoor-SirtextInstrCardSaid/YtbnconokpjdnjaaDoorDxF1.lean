/-
  Programs on typed data, and the proofs that the code does what they say; written by a program (dx.py).
-/
import Derived.Test.YtbnconokpjdnjaaDoorProg
import Derived.Test.YtbnconokpjdnjaaDoorDd
import Derived.KernelRfl
import Derived.Test.YtbnconokpjdnjaaDoorSh
import Derived.Test.YtbnconokpjdnjaaDoorDxP
namespace Go.Proofs.YtbnconokpjdnjaaDoor
open Go Go.Dw Go.Proofs
open Go.IntKind (u64 u8)
set_option maxRecDepth 100000
set_option maxHeartbeats 40000000
open Go.Dw renaming QP -> bD,Le -> cK,Ti -> bS,Tx -> cD,SM -> hE,Ur -> lP,TE -> sC,rf -> r
noncomputable section
def Rb (a : Mk) : List D:=[Rs a]
def Ra (ds : List D) : Mk:=SB (ds.getD 0 .top)
theorem Sx (a : Mk) : Ra (Rb a) = a:=by simp [Ra,Rb]
instance : Rn Rb Ra:=⟨Sx⟩
def SA (b : (List UInt8)) : D:=.str b
def RG : Dw.Spec:=Av [] .ground Rb Ra (λa=>QN a) SA noE
theorem RU : Lo Tryd.prog 7 RG:=by
 refine fn2 1 (RI (l:=[(21,SE),(22,SF),(23,SG)]) (by simp [TS,TT,TV])) Tryd.func7<|?_
 intro x1
 unfold QN
 refine A 6 ?_
 refine sC (E:=λ(_s : Unit) (g : Nat)=>[(1,.optr 1 g 0 0)]) (O:=λ_ g=>[(1,dV g 5 24 (Rs x1))]) (j:=λ_=>Rr x1) ?_ ?_
 ·exact B
 ·rintro ⟨⟩ v1x1 nn
  try dsimp only
  unfold Rr
  refine A 4 ?_
  refine cK λhq=>Tw (kk:=21) Rk D.str r r r r hq r<|bD λe2 he2=>Sp (q:=e2) (l:=Rk) (en:=D.str) (j:=x1.Op.toNat) r r r he2 (λ_=>r)<|?_
  refine A 22 ?_
  refine cK λhq=>Tw (kk:=21) Rg D.str r r r r hq r<|bD λe3 he3=>Sp (q:=e3) (l:=Rg) (en:=D.str) (j:=x1.Op.toNat) r r r he3 (λ_=>r)<|Uq r λnn=>?_
  refine A 3 ?_
  refine lP (E:=λ(s : (List (List UInt8)) × ((List UInt8) × Nat)) (g : Nat × Nat × Nat × Nat)=>[(1,.optr 1 g.1 0 0),(3,.osl 3 g.2.1 0 s.1.length),(4,.optr 4 g.2.2.1 0 0),(31,.mref 31 g.2.2.2)]) (O:=λs g=>[(1,dV g.1 5 24 (Rs x1)),(3,dW g.2.1 1 9 (s.1.map D.str)),(4,dV g.2.2.1 3 55 (.agg [Su x1.A,Su x1.B,Su x1.C])),(31,some (g.2.2.2,⟨true,false,0,1,itE s.2⟩))]) (body:=λs=>QO x1 s.1 s.2) (s:=(([e2] : List (List UInt8)),(e3,0))) (_,_,_,_) ((hE ⟨rfl,r,r,r,trivial⟩ ⟨rfl,r,r,r,trivial⟩))<|?_
  rintro ⟨words4,x5⟩ ⟨v1x2,v3x2,v4x2,v31x2⟩ nn
  try dsimp only
  unfold QO
  refine A 2 ?_
  refine Up (p:=x5) r r r (λhq=>?_) (λhq=>?_)
  ·refine A 22 ?_
   refine cD r ?_ ?_
   ·exact B
   ·refine A 3 ?_
    refine Un r r<|?_
    refine A 1 ?_
    refine cK λhq=>Uo r r r hq<|bD λnumbers_e7 hnumbers_e7=>TD (q:=numbers_e7) (l:=(QZ.mk x1.A x1.B x1.C).toList) (en:=TR) (j:=(x5.2 : Int).toNat) (by simp) r r r hnumbers_e7 r (λ_=>r)<|?_
    exact B
  ·exact B

def RE (_a : Unit) : List D:=[]
def RD (_ds : List D) : Unit:=()
theorem SH (a : Unit) : RD (RE a) = a:=rfl
instance : Rn RE RD:=⟨SH⟩
def SN (b : Bool) : D:=.bool b
def Se : Dw.Spec:=Av [] .ground RE RD (λa=>Ry) SN noE
theorem SI : Lo Tryd.prog 6 Se:=by
 refine fn2 0 (RI (l:=[(7,RG)]) (by simp [RU])) Tryd.func6<|?_
 intro _
 unfold Ry
 exact B

def QV (a : Int) : List D:=[Su a]
def QU (ds : List D) : Int:=uI (ds.getD 0 .top)
theorem SP (a : Int) : QU (QV a) = a:=by simp [QU,QV,uI]
instance : Rn QV QU:=⟨SP⟩
def Tg (b : (List UInt8)) : D:=.str b
def Sl : Dw.Spec:=Av [] .ground QV QU (λa=>Rv a) Tg noE
theorem SQ : Lo Tryd.prog 24 Sl:=by
 refine fn2 1 (RW) Tryd.func24<|?_
 intro op1
 unfold Rv
 refine A 7 ?_
 refine bS ([[99,111,110,115,116],[99,111,112,121],[97,100,100],[115,117,98],[109,117,108],[100,105,118],[97,110,100],[111,114],[120,111,114],[108,101,115,115],[101,113,117,97,108],[112,97,105,114],[104,105,103,104],[105,110],[111,117,116],[108,111,97,100],[115,116,111,114,101],[109,111,118,101],[97,114,103],[112,97,114,97,109],[106,117,109,112],[98,114,97,110,99,104],[99,97,108,108],[114,101,116,117,114,110],[116,114,97,112]] : List (List UInt8)) D.str r r r (by simp) r r r<|?_
 exact B

def Sv (b : Bool × Bool × Bool × Bool) : D:=.tup [.bool b.1,.bool b.2.1,.bool b.2.2.1,.bool b.2.2.2]
def RS : Dw.Spec:=Av [] .ground QV QU (λa=>Ro a) Sv noE
theorem Sq : Lo Tryd.prog 25 RS:=by
 refine fn2 1 (RW) Tryd.func25<|?_
 intro op1
 unfold Ro
 refine A 21 ?_
 refine cD r ?_ ?_
 ·exact B
 ·refine sC (E:=λ(s : Bool) (_g : Unit)=>[(6,Su op1),(9,.bool s)]) (O:=λ_ _=>[]) (j:=λs=>Pl op1 s) ?_ ?_
  ·exact B
  ·rintro x2 ⟨⟩ nn
   try dsimp only
   unfold Pl
   refine cD r ?_ ?_
   ·exact B
   ·refine sC (E:=λ(s : Bool) (_g : Unit)=>[(6,Su op1),(18,.bool s)]) (O:=λ_ _=>[]) (j:=λs=>Ed op1 s) ?_ ?_
    ·exact B
    ·rintro x3 ⟨⟩ nn
     try dsimp only
     unfold Ed
     refine cD r ?_ ?_
     ·exact B
     ·refine sC (E:=λ(s : Bool) (_g : Unit)=>[(6,Su op1),(29,.bool s)]) (O:=λ_ _=>[]) (j:=λs=>QQ op1 s) ?_ ?_
      ·exact B
      ·rintro x4 ⟨⟩ nn
       try dsimp only
       unfold QQ
       exact B

def SR (b : (List UInt8) × (List UInt8) × (List UInt8)) : D:=.tup [.str b.1,.str b.2.1,.str b.2.2]
def Sg : Dw.Spec:=Av [] .ground QV QU (λa=>Rz a) SR noE
theorem SK : Lo Tryd.prog 26 Sg:=by
 refine fn2 1 (RW) Tryd.func26<|?_
 intro a
 unfold Rz
 exact B

def Rm (a : Int) : List D:=[Us a]
def Rl (ds : List D) : Int:=uI (ds.getD 0 .top)
theorem Sw (a : Int) : Rl (Rm a) = a:=by simp [Rl,Rm,uI]
instance : Rn Rm Rl:=⟨Sw⟩
def Sz (b : (List UInt8)) : D:=.str b
def RF : Dw.Spec:=Av [] .ground Rm Rl (λa=>QS a) Sz noE
theorem RT : Lo Tryd.prog 28 RF:=by
 refine fn2 1 (RW) Tryd.func28<|?_
 intro u1
 unfold QS
 refine A 11 ?_
 refine lP (E:=λ(s : Int × (List UInt8)) (_g : Unit)=>[(0,Us s.1),(3,.str s.2)]) (O:=λ_ _=>[]) (body:=λs=>QT s.1 s.2) (s:=(u1,[])) () ((hE ⟨rfl,r,trivial⟩ trivial))<|?_
 rintro ⟨u2,s3⟩ ⟨⟩ nn
 try dsimp only
 unfold QT
 refine A 8 ?_
 refine Um (([u8.wrap (u64.wrap (48 + (u2.tmod 10)))] : List Int)) r r r r r (by first | trivial | (simp; done) | (simp; omega)) (by first | rfl | (simp [List.map_take,List.map_drop]; done))<|?_
 exact B

def Tq (b : (List UInt8)) : D:=.str b
def Ss : Dw.Spec:=Av [] .ground QV QU (λa=>Rt a) Tq noE
theorem Tf : Lo Tryd.prog 27 Ss:=by
 refine fn2 1 (RI (l:=[(28,RF)]) (by simp [RT])) Tryd.func27<|?_
 intro a
 unfold Rt
 exact B

def SO (b : (List UInt8)) : D:=.str b
def Sf : Dw.Spec:=Av [] .ground Rb Ra (λa=>QY a) SO noE
theorem SJ : Lo Tryd.prog 8 Sf:=by
 refine fn2 1 (RI (l:=[(24,Sl),(25,RS),(26,Sg),(27,Ss),(28,RF)]) (by simp [SQ,Sq,SK,Tf,RT])) Tryd.func8<|?_
 intro x1
 unfold QY
 refine A 10 ?_
 refine bD λr2 hr2=>?_
 refine A 11 ?_
 refine cD r ?_ ?_
 ·exact B
 ·refine A 6 ?_
  refine bD λr3 hr3=>?_
  refine A 16 ?_
  refine bD λr4 hr4=>?_
  refine A 10 ?_
  refine sC (E:=λ(s : (List UInt8)) (g : Nat)=>[(1,.optr 1 g 0 0),(3,.str s),(5,.bool r3.2.1),(6,.bool r3.2.2.1),(7,.bool r3.2.2.2),(9,.str r4.2.1),(10,.str r4.2.2)]) (O:=λ_ g=>[(1,dV g 5 24 (Rs x1))]) (j:=λs=>Rc r3 r4 x1 s) ?_ ?_
  ·exact B
  ·rintro s5 v1x1 nn
   try dsimp only
   unfold Rc
   refine sC (E:=λ(s : (List UInt8)) (g : Nat)=>[(1,.optr 1 g 0 0),(3,.str s),(6,.bool r3.2.2.1),(7,.bool r3.2.2.2),(10,.str r4.2.2)]) (O:=λ_ g=>[(1,dV g 5 24 (Rs x1))]) (j:=λs=>Re r3 r4 x1 s) ?_ ?_
   ·exact B
   ·rintro s7 v1x2 nn
    try dsimp only
    unfold Re
    refine sC (E:=λ(s : (List UInt8)) (g : Nat)=>[(1,.optr 1 g 0 0),(3,.str s),(7,.bool r3.2.2.2)]) (O:=λ_ g=>[(1,dV g 5 24 (Rs x1))]) (j:=λs=>Rf r3 x1 s) ?_ ?_
    ·exact B
    ·rintro s9 v1x3 nn
     try dsimp only
     unfold Rf
     exact B

def QX (a : Mk × Int) : List D:=[Rs a.1,.int .u8 a.2]
def QW (ds : List D) : Mk × Int:=(SB (ds.getD 0 .top),uI (ds.getD 1 .top))
theorem RB (a : Mk × Int) : QW (QX a) = a:=by simp [QW,QX,uI]
instance : Rn QX QW:=⟨RB⟩
def Sb (b : Bool) : D:=.bool b
def Sc : Dw.Spec:=Av [] .ground QX QW (λa=>Rj a.1 a.2) Sb noE
theorem RY : Lo Tryd.prog 3 Sc:=by
 refine fn2 2 (RI (l:=[(6,Se),(7,RG),(8,Sf)]) (by simp [SI,RU,SJ])) Tryd.func3<|?_
 intro a
 unfold Rj
 exact B

end
end Go.Proofs.YtbnconokpjdnjaaDoor
