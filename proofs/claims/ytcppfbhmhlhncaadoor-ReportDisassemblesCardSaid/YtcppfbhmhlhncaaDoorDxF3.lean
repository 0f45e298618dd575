/-
  Programs on typed data, and the proofs that the code does what they say; written by a program (dx.py).
-/
import Derived.Test.YtcppfbhmhlhncaaDoorProg
import Derived.Test.YtcppfbhmhlhncaaDoorDd
import Derived.KernelRfl
import Derived.Test.YtcppfbhmhlhncaaDoorSh
import Derived.Test.YtcppfbhmhlhncaaDoorDxP
import Derived.Test.YtcppfbhmhlhncaaDoorDxF1
import Derived.Test.YtcppfbhmhlhncaaDoorDxF2
open Nat renaming ble->aA,blt->aAA
namespace Go.Proofs.YtcppfbhmhlhncaaDoor
open Go Go.Dw Go.Proofs
open Go.IntKind (u64 u8)
set_option maxRecDepth 100000
set_option maxHeartbeats 40000000
open Go.Dw renaming Rt -> bD,QD -> cK,Xg -> bS,XL -> cD,Wh -> hE,YT -> lP,WH -> sC,rf -> r
noncomputable section
def RM (a:Pw):List D:=[RF a]
def RL (ds:List D):Pw:=XM (ds.getD 0 .top)
theorem XI (a:Pw):RL (RM a)=a:=by simp[RL,RM]
instance:QW RM RL:=⟨XI⟩
def XX (b:(List UInt8)):D:=.str b
def VI:Dw.Spec:=Ql [] .ground RM RL (λa=>SL a) XX noE
def UZ:Dw.Spec:=Abg (specs [(32,AbU),(34,XA),(33,AbV),(35,Xy)]) 2 [] Yr
theorem Xf:Qi Tryd.prog 19 UZ:=Adb (Qw (l:=[(32,AbU),(34,XA),(33,AbV),(35,Xy)]) (by simp[AdU,Abc,AdV,AaZ])) Tryd.func19 (by decide) AdX AdY (by decide)
theorem XJ:Qi Tryd.prog 8 VI:=by
 refine fn2 1 (Qw (l:=[(19,UZ),(21,Xm),(20,Yl),(22,WD),(23,Adk)]) (by simp[Xf,Zz,Aar,YH,AdT])) Tryd.func8<|?_
 intro t1
 unfold SL
 refine A 9 ?_
 refine AdN r λnn=>?_
 refine A 6 ?_
 refine Us (QX (Mk.s ([97,108,105,103,110]))) r r r r r<|?_
 refine A 2 ?_
 refine Us (QX (Mk.i t1.Align)) r r r r r<|bS ([(Mk.s ([97,108,105,103,110])),(Mk.i t1.Align)]:List Mk) QX r r r (by simp) r r r<|WQ (E:=λ(g:Nat×Nat×Nat)=>[(1,.optr 1001 g.1 0 0),(3,.mref 1017 g.2.1),(18,.mref 1017 g.2.1),(23,.osl 1023 g.2.2 0 (([(Mk.s ([97,108,105,103,110])),(Mk.i t1.Align)]:List Mk).length))]) (O:=λg=>[(1001,dV g.1 2 25 (.agg [Lo t1.Align,.sl (t1.Frames.map Qm)])),(1017,some (g.2.1,⟨true,false,0,2,QF 62 5 ([]:List UInt8)⟩)),(1023,dW g.2.2 1 20 (([(Mk.s ([97,108,105,103,110])),(Mk.i t1.Align)]:List Mk).map QX))]) (_,_,_) ((Sz (λg=>bif aA 4096 g then g+20000 else g+1000) (by rfl) (hE ⟨rfl,r,r,r,trivial⟩ ⟨rfl,r,r,trivial⟩)))<|?_
 rintro⟨v1001x1,v1017x1,v1023x1⟩ nn
 try dsimp only
 refine WN (ES:=λ(_s:(List UInt8)) (g:Nat×Nat)=>[(1,.optr 1 g.1 0 0),(3,.mref 17 g.2),(24,.tup [])]) (OS:=λs g=>[(1,dV g.1 2 25 (.agg [Lo t1.Align,.sl (t1.Frames.map Qm)])),(17,some (g.2,⟨true,false,0,2,QF 62 5 s⟩))]) (j:=λs=>Sc t1 s) (ds:=[.mref 1017 v1017x1,.osl 1023 v1023x1 0 (([(Mk.s ([97,108,105,103,110])),(Mk.i t1.Align)]:List Mk).length)]) (caps:=[]) (E:=[(0,.mref 1017 v1017x1),(1,.osl 1023 v1023x1 0 (([(Mk.s ([97,108,105,103,110])),(Mk.i t1.Align)]:List Mk).length))]) r r r r r r r r ?_ ?_
 ·unfold Yr
  refine A 9 ?_
  refine lP (E:=λ(s:(List UInt8)×Int) (_g:Unit)=>[(0,.mref 1017 v1017x1),(9,.osl 1023 v1023x1 0 (([(Mk.s ([97,108,105,103,110])),(Mk.i t1.Align)]:List Mk).length)),(10,Lo (([(Mk.s ([97,108,105,103,110])),(Mk.i t1.Align)]:List Mk).length:Int)),(11,Lo s.2)]) (O:=λs _=>[(1001,dV v1001x1 2 25 (.agg [Lo t1.Align,.sl (t1.Frames.map Qm)])),(1017,some (v1017x1,⟨true,false,0,2,QF 62 5 s.1⟩)),(1023,dW v1023x1 1 20 (([(Mk.s ([97,108,105,103,110])),(Mk.i t1.Align)]:List Mk).map QX))]) (body:=λs=>TH t1 s.1 s.2) (s:=(([]:List UInt8),0)) () ((hE ⟨rfl,r,r,r,trivial⟩ ⟨rfl,r,r,trivial⟩))<|?_
  rintro⟨x65,x66⟩ ⟨⟩ nn
  try dsimp only
  unfold TH
  refine A 6 ?_
  refine cD r ?_ ?_
  ·refine A 8 ?_
   refine bD λx_e67 hx_e67=>?_
   refine A 5 ?_
   refine sC (E:=λ(_s:(List UInt8)) (_g:Unit)=>[(0,.mref 1017 v1017x1),(5,QX x_e67),(9,.osl 1023 v1023x1 0 (([(Mk.s ([97,108,105,103,110])),(Mk.i t1.Align)]:List Mk).length)),(10,Lo (([(Mk.s ([97,108,105,103,110])),(Mk.i t1.Align)]:List Mk).length:Int)),(11,Lo x66)]) (O:=λs _=>[(1001,dV v1001x1 2 25 (.agg [Lo t1.Align,.sl (t1.Frames.map Qm)])),(1017,some (v1017x1,⟨true,false,0,2,QF 62 5 s⟩)),(1023,dW v1023x1 1 20 (([(Mk.s ([97,108,105,103,110])),(Mk.i t1.Align)]:List Mk).map QX))]) (j:=λs=>RU x_e67 x66 s) ?_ ?_
   ·refine A 6 ?_
    refine cD r ?_ ?_
    ·refine A 2 ?_
     refine Qp r r r<|Qr r r r<|cK λhq=>Tk 32 r r r r r (by decide) hq λnn=>?_
     exact B
    ·exact B
   ·rintro x68 ⟨⟩ nn
    try dsimp only
    unfold RU
    refine A 8 ?_
    refine WO x_e67 (λn69 hv=>?_) (λn70 hv=>?_) (λs71 hv=>?_)
    ·subst hv
     refine QJ (Lo n69) r r<|?_
     refine A 13 ?_
     refine Qp r r r<|Qr r r r<|?_
     refine A 1 ?_
     refine bD λr72 hr72=>?_
     refine A 4 ?_
     refine cK λhq=>RG r r r r r hq λnn=>?_
     exact B
    ·subst hv
     refine QC (q':=52) (w:=UI n70) r r r<|?_
     refine A 7 ?_
     refine QJ (UI n70) r r<|?_
     refine A 13 ?_
     refine Qp r r r<|Qr r r r<|?_
     refine A 1 ?_
     refine bD λr73 hr73=>?_
     refine A 4 ?_
     refine cK λhq=>RG r r r r r hq λnn=>?_
     exact B
    ·subst hv
     refine QC (q':=9) (w:=.str s71) r r r<|?_
     refine A 7 ?_
     refine QC (q':=9) (w:=.str s71) r r r<|?_
     refine A 7 ?_
     refine QJ (.str s71) r r<|?_
     refine A 12 ?_
     refine Qp r r r<|Qr r r r<|?_
     refine A 1 ?_
     refine cK λhq=>RG r r r r r hq λnn=>?_
     exact B
  ·refine A 7 ?_
   refine Qp r r r<|Qr r r r<|cK λhq=>Tk 10 r r r r r (by decide) hq λnn=>?_
   refine A 1 ?_
   exact VX (d:=.tup []) (s:=x65++[10]) (_,_) r (by first|rfl|(simp[Rs,QB,rdA,raw,strip,QS,cells,QN];done)|(simp[Rs,QB,rdA,raw,strip,QS,S.ge,S.go,look,YM,cells,QN];done)) r ((Vn (E1:=[(1,.optr 1001 v1001x1 0 0),(3,.mref 1017 v1017x1),(24,.tup [])]) (O1:=[(1001,dV v1001x1 2 25 (.agg [Lo t1.Align,.sl (t1.Frames.map Qm)])),(1017,some (v1017x1,⟨true,false,0,2,QF 62 5 (x65++[10])⟩))]) (hE ⟨rfl,r,r,trivial⟩ ⟨rfl,r,trivial⟩) (λ_=>Sz (λg=>bif aA 24096 g then g-20000 else bif (aA 1000 g&&aAA g 4096)then g-1000 else g) (by rfl) (hE ⟨rfl,r,r,trivial⟩ ⟨rfl,r,trivial⟩))))
 ·rintro x2 ⟨v1x2,v17x2⟩ nn
  try dsimp only
  unfold Sc
  refine A 12 ?_
  refine lP (E:=λ(s:(List UInt8)×Int) (g:Nat)=>[(3,.mref 17 g),(26,.sl (t1.Frames.map Qm)),(27,Lo (t1.Frames.length:Int)),(28,Lo s.2)]) (O:=λs g=>[(17,some (g,⟨true,false,0,2,QF 62 5 s.1⟩))]) (body:=λs=>Rb t1 s.1 s.2) (s:=(x2,0)) _ ((hE ⟨rfl,r,r,r,trivial⟩ ⟨rfl,trivial⟩))<|?_
  rintro⟨x3,x4⟩ v17x3 nn
  try dsimp only
  unfold Rb
  refine A 6 ?_
  refine cD r ?_ ?_
  ·refine A 6 ?_
   refine bD λx_x5 hx_x5=>?_
   refine A 9 ?_
   refine Us (QX (Mk.s ([102,114,97,109,101]))) r r r r r<|?_
   refine A 2 ?_
   refine Us (QX (Mk.i x_x5.Params)) r r r r r<|?_
   refine A 2 ?_
   refine Us (QX (Mk.i x_x5.Size)) r r r r r<|bS ([(Mk.s ([102,114,97,109,101])),(Mk.i x_x5.Params),(Mk.i x_x5.Size)]:List Mk) QX r r r (by simp) r r r<|WQ (E:=λ(g:Nat×Nat×Nat)=>[(3,.mref 1017 g.2.1),(5,.optr 1005 g.1 0 0),(26,.sl (t1.Frames.map Qm)),(27,Lo (t1.Frames.length:Int)),(28,Lo x4),(32,.mref 1017 g.2.1),(40,.osl 1040 g.2.2 0 (([(Mk.s ([102,114,97,109,101])),(Mk.i x_x5.Params),(Mk.i x_x5.Size)]:List Mk).length))]) (O:=λg=>[(1005,dV g.1 3 28 (Qm x_x5)),(1017,some (g.2.1,⟨true,false,0,2,QF 62 5 x3⟩)),(1040,dW g.2.2 1 20 (([(Mk.s ([102,114,97,109,101])),(Mk.i x_x5.Params),(Mk.i x_x5.Size)]:List Mk).map QX))]) (_,_,_) ((Sz (λg=>bif aA 4096 g then g+20000 else g+1000) (by rfl) (hE ⟨rfl,r,r,r,r,r,r,trivial⟩ ⟨rfl,r,r,trivial⟩)))<|?_
   rintro⟨v1005x4,v1017x4,v1040x4⟩ nn
   try dsimp only
   refine WN (ES:=λ(_s:(List UInt8)) (g:Nat×Nat)=>[(3,.mref 17 g.2),(5,.optr 5 g.1 0 0),(26,.sl (t1.Frames.map Qm)),(27,Lo (t1.Frames.length:Int)),(28,Lo x4),(41,.tup [])]) (OS:=λs g=>[(5,dV g.1 3 28 (Qm x_x5)),(17,some (g.2,⟨true,false,0,2,QF 62 5 s⟩))]) (j:=λs=>Sd x_x5 x4 s) (ds:=[.mref 1017 v1017x4,.osl 1040 v1040x4 0 (([(Mk.s ([102,114,97,109,101])),(Mk.i x_x5.Params),(Mk.i x_x5.Size)]:List Mk).length)]) (caps:=[]) (E:=[(0,.mref 1017 v1017x4),(1,.osl 1040 v1040x4 0 (([(Mk.s ([102,114,97,109,101])),(Mk.i x_x5.Params),(Mk.i x_x5.Size)]:List Mk).length))]) r r r r r r r r ?_ ?_
   ·unfold Yr
    refine A 9 ?_
    refine lP (E:=λ(s:(List UInt8)×Int) (_g:Unit)=>[(0,.mref 1017 v1017x4),(9,.osl 1040 v1040x4 0 (([(Mk.s ([102,114,97,109,101])),(Mk.i x_x5.Params),(Mk.i x_x5.Size)]:List Mk).length)),(10,Lo (([(Mk.s ([102,114,97,109,101])),(Mk.i x_x5.Params),(Mk.i x_x5.Size)]:List Mk).length:Int)),(11,Lo s.2)]) (O:=λs _=>[(1005,dV v1005x4 3 28 (Qm x_x5)),(1017,some (v1017x4,⟨true,false,0,2,QF 62 5 s.1⟩)),(1040,dW v1040x4 1 20 (([(Mk.s ([102,114,97,109,101])),(Mk.i x_x5.Params),(Mk.i x_x5.Size)]:List Mk).map QX))]) (body:=λs=>TG x_x5 x4 s.1 s.2) (s:=(x3,0)) () ((hE ⟨rfl,r,r,r,trivial⟩ ⟨rfl,r,r,trivial⟩))<|?_
    rintro⟨x56,x57⟩ ⟨⟩ nn
    try dsimp only
    unfold TG
    refine A 6 ?_
    refine cD r ?_ ?_
    ·refine A 8 ?_
     refine bD λx_e58 hx_e58=>?_
     refine A 5 ?_
     refine sC (E:=λ(_s:(List UInt8)) (_g:Unit)=>[(0,.mref 1017 v1017x4),(5,QX x_e58),(9,.osl 1040 v1040x4 0 (([(Mk.s ([102,114,97,109,101])),(Mk.i x_x5.Params),(Mk.i x_x5.Size)]:List Mk).length)),(10,Lo (([(Mk.s ([102,114,97,109,101])),(Mk.i x_x5.Params),(Mk.i x_x5.Size)]:List Mk).length:Int)),(11,Lo x57)]) (O:=λs _=>[(1005,dV v1005x4 3 28 (Qm x_x5)),(1017,some (v1017x4,⟨true,false,0,2,QF 62 5 s⟩)),(1040,dW v1040x4 1 20 (([(Mk.s ([102,114,97,109,101])),(Mk.i x_x5.Params),(Mk.i x_x5.Size)]:List Mk).map QX))]) (j:=λs=>RT x_e58 x57 s) ?_ ?_
     ·refine A 6 ?_
      refine cD r ?_ ?_
      ·refine A 2 ?_
       refine Qp r r r<|Qr r r r<|cK λhq=>Tk 32 r r r r r (by decide) hq λnn=>?_
       exact B
      ·exact B
     ·rintro x59 ⟨⟩ nn
      try dsimp only
      unfold RT
      refine A 8 ?_
      refine WO x_e58 (λn60 hv=>?_) (λn61 hv=>?_) (λs62 hv=>?_)
      ·subst hv
       refine QJ (Lo n60) r r<|?_
       refine A 13 ?_
       refine Qp r r r<|Qr r r r<|?_
       refine A 1 ?_
       refine bD λr63 hr63=>?_
       refine A 4 ?_
       refine cK λhq=>RG r r r r r hq λnn=>?_
       exact B
      ·subst hv
       refine QC (q':=52) (w:=UI n61) r r r<|?_
       refine A 7 ?_
       refine QJ (UI n61) r r<|?_
       refine A 13 ?_
       refine Qp r r r<|Qr r r r<|?_
       refine A 1 ?_
       refine bD λr64 hr64=>?_
       refine A 4 ?_
       refine cK λhq=>RG r r r r r hq λnn=>?_
       exact B
      ·subst hv
       refine QC (q':=9) (w:=.str s62) r r r<|?_
       refine A 7 ?_
       refine QC (q':=9) (w:=.str s62) r r r<|?_
       refine A 7 ?_
       refine QJ (.str s62) r r<|?_
       refine A 12 ?_
       refine Qp r r r<|Qr r r r<|?_
       refine A 1 ?_
       refine cK λhq=>RG r r r r r hq λnn=>?_
       exact B
    ·refine A 7 ?_
     refine Qp r r r<|Qr r r r<|cK λhq=>Tk 10 r r r r r (by decide) hq λnn=>?_
     refine A 1 ?_
     exact VX (d:=.tup []) (s:=x56++[10]) (_,_) r (by first|rfl|(simp[Rs,QB,rdA,raw,strip,QS,cells,QN];done)|(simp[Rs,QB,rdA,raw,strip,QS,S.ge,S.go,look,YM,cells,QN];done)) r ((Vn (E1:=[(3,.mref 1017 v1017x4),(5,.optr 1005 v1005x4 0 0),(26,.sl (t1.Frames.map Qm)),(27,Lo (t1.Frames.length:Int)),(28,Lo x4),(41,.tup [])]) (O1:=[(1005,dV v1005x4 3 28 (Qm x_x5)),(1017,some (v1017x4,⟨true,false,0,2,QF 62 5 (x56++[10])⟩))]) (hE ⟨rfl,r,r,r,r,r,trivial⟩ ⟨rfl,r,trivial⟩) (λ_=>Sz (λg=>bif aA 24096 g then g-20000 else bif (aA 1000 g&&aAA g 4096)then g-1000 else g) (by rfl) (hE ⟨rfl,r,r,r,r,r,trivial⟩ ⟨rfl,r,trivial⟩))))
   ·rintro x6 ⟨v5x5,v17x5⟩ nn
    try dsimp only
    unfold Sd
    refine A 11 ?_
    refine lP (E:=λ(s:(List UInt8)×Int) (g:Nat)=>[(3,.mref 17 g),(26,.sl (t1.Frames.map Qm)),(27,Lo (t1.Frames.length:Int)),(28,Lo x4),(43,.sl (x_x5.Code.map Pr)),(44,Lo (x_x5.Code.length:Int)),(45,Lo s.2)]) (O:=λs g=>[(17,some (g,⟨true,false,0,2,QF 62 5 s.1⟩))]) (body:=λs=>Rc x_x5 x4 s.1 s.2) (s:=(x6,0)) _ ((hE ⟨rfl,r,r,r,r,r,r,trivial⟩ ⟨rfl,trivial⟩))<|?_
    rintro⟨x7,x8⟩ v17x6 nn
    try dsimp only
    unfold Rc
    refine A 6 ?_
    refine cD r ?_ ?_
    ·refine A 6 ?_
     refine bD λx_x9 hx_x9=>?_
     refine A 6 ?_
     refine sC (E:=λ(_s:Unit) (g:Nat×Nat)=>[(3,.mref 17 g.2),(7,.optr 7 g.1 0 0),(26,.sl (t1.Frames.map Qm)),(27,Lo (t1.Frames.length:Int)),(28,Lo x4),(43,.sl (x_x5.Code.map Pr)),(44,Lo (x_x5.Code.length:Int)),(45,Lo x8),(53,.optr 7 g.1 0 0),(54,Lo x_x9.Op),(55,.bool (decide (x_x9.Op>=25)))]) (O:=λ_ g=>[(7,dV g.1 5 54 (Pr x_x9)),(17,some (g.2,⟨true,false,0,2,QF 62 5 x7⟩))]) (j:=λ_=>SQ x_x9 x8 x7) ?_ ?_
     ·refine A 6 ?_
      refine WI r ?_ ?_
      ·refine A 10 ?_
       refine Us (QX (Mk.s ([63]))) r r r r r<|bS ([(Mk.s ([63]))]:List Mk) QX r r r (by simp) r r r<|WQ (E:=λ(g:Nat×Nat)=>[(3,.mref 1017 g.1),(26,.sl (t1.Frames.map Qm)),(27,Lo (t1.Frames.length:Int)),(28,Lo x4),(43,.sl (x_x5.Code.map Pr)),(44,Lo (x_x5.Code.length:Int)),(45,Lo x8),(57,.mref 1017 g.1),(59,.osl 1059 g.2 0 (([(Mk.s ([63]))]:List Mk).length))]) (O:=λg=>[(1017,some (g.1,⟨true,false,0,2,QF 62 5 x7⟩)),(1059,dW g.2 1 20 (([(Mk.s ([63]))]:List Mk).map QX))]) (_,_) ((Sz (λg=>bif aA 4096 g then g+20000 else g+1000) (by rfl) (hE ⟨rfl,r,r,r,r,r,r,r,r,trivial⟩ ⟨rfl,r,trivial⟩)))<|?_
       rintro⟨v1017x17,v1059x17⟩ nn
       try dsimp only
       refine WN (ES:=λ(_s:(List UInt8)) (g:Nat)=>[(3,.mref 17 g),(26,.sl (t1.Frames.map Qm)),(27,Lo (t1.Frames.length:Int)),(28,Lo x4),(43,.sl (x_x5.Code.map Pr)),(44,Lo (x_x5.Code.length:Int)),(45,Lo x8),(60,.tup [])]) (OS:=λs g=>[(17,some (g,⟨true,false,0,2,QF 62 5 s⟩))]) (j:=λs=>RP x8 s) (ds:=[.mref 1017 v1017x17,.osl 1059 v1059x17 0 (([(Mk.s ([63]))]:List Mk).length)]) (caps:=[]) (E:=[(0,.mref 1017 v1017x17),(1,.osl 1059 v1059x17 0 (([(Mk.s ([63]))]:List Mk).length))]) r r r r r r r r ?_ ?_
       ·unfold Yr
        refine A 9 ?_
        refine lP (E:=λ(s:(List UInt8)×Int) (_g:Unit)=>[(0,.mref 1017 v1017x17),(9,.osl 1059 v1059x17 0 (([(Mk.s ([63]))]:List Mk).length)),(10,Lo (([(Mk.s ([63]))]:List Mk).length:Int)),(11,Lo s.2)]) (O:=λs _=>[(1017,some (v1017x17,⟨true,false,0,2,QF 62 5 s.1⟩)),(1059,dW v1059x17 1 20 (([(Mk.s ([63]))]:List Mk).map QX))]) (body:=λs=>TE x8 s.1 s.2) (s:=(x7,0)) () ((hE ⟨rfl,r,r,r,trivial⟩ ⟨rfl,r,trivial⟩))<|?_
        rintro⟨x37,x38⟩ ⟨⟩ nn
        try dsimp only
        unfold TE
        refine A 6 ?_
        refine cD r ?_ ?_
        ·refine A 8 ?_
         refine bD λx_e39 hx_e39=>?_
         refine A 5 ?_
         refine sC (E:=λ(_s:(List UInt8)) (_g:Unit)=>[(0,.mref 1017 v1017x17),(5,QX x_e39),(9,.osl 1059 v1059x17 0 (([(Mk.s ([63]))]:List Mk).length)),(10,Lo (([(Mk.s ([63]))]:List Mk).length:Int)),(11,Lo x38)]) (O:=λs _=>[(1017,some (v1017x17,⟨true,false,0,2,QF 62 5 s⟩)),(1059,dW v1059x17 1 20 (([(Mk.s ([63]))]:List Mk).map QX))]) (j:=λs=>RQ x_e39 x38 s) ?_ ?_
         ·refine A 6 ?_
          refine cD r ?_ ?_
          ·refine A 2 ?_
           refine Qp r r r<|Qr r r r<|cK λhq=>Tk 32 r r r r r (by decide) hq λnn=>?_
           exact B
          ·exact B
         ·rintro x40 ⟨⟩ nn
          try dsimp only
          unfold RQ
          refine A 8 ?_
          refine WO x_e39 (λn41 hv=>?_) (λn42 hv=>?_) (λs43 hv=>?_)
          ·subst hv
           refine QJ (Lo n41) r r<|?_
           refine A 13 ?_
           refine Qp r r r<|Qr r r r<|?_
           refine A 1 ?_
           refine bD λr44 hr44=>?_
           refine A 4 ?_
           refine cK λhq=>RG r r r r r hq λnn=>?_
           exact B
          ·subst hv
           refine QC (q':=52) (w:=UI n42) r r r<|?_
           refine A 7 ?_
           refine QJ (UI n42) r r<|?_
           refine A 13 ?_
           refine Qp r r r<|Qr r r r<|?_
           refine A 1 ?_
           refine bD λr45 hr45=>?_
           refine A 4 ?_
           refine cK λhq=>RG r r r r r hq λnn=>?_
           exact B
          ·subst hv
           refine QC (q':=9) (w:=.str s43) r r r<|?_
           refine A 7 ?_
           refine QC (q':=9) (w:=.str s43) r r r<|?_
           refine A 7 ?_
           refine QJ (.str s43) r r<|?_
           refine A 12 ?_
           refine Qp r r r<|Qr r r r<|?_
           refine A 1 ?_
           refine cK λhq=>RG r r r r r hq λnn=>?_
           exact B
        ·refine A 7 ?_
         refine Qp r r r<|Qr r r r<|cK λhq=>Tk 10 r r r r r (by decide) hq λnn=>?_
         refine A 1 ?_
         exact VX (d:=.tup []) (s:=x37++[10]) _ r (by first|rfl|(simp[Rs,QB,rdA,raw,strip,QS,cells,QN];done)|(simp[Rs,QB,rdA,raw,strip,QS,S.ge,S.go,look,YM,cells,QN];done)) r ((Vn (E1:=[(3,.mref 1017 v1017x17),(26,.sl (t1.Frames.map Qm)),(27,Lo (t1.Frames.length:Int)),(28,Lo x4),(43,.sl (x_x5.Code.map Pr)),(44,Lo (x_x5.Code.length:Int)),(45,Lo x8),(60,.tup [])]) (O1:=[(1017,some (v1017x17,⟨true,false,0,2,QF 62 5 (x37++[10])⟩))]) (hE ⟨rfl,r,r,r,r,r,r,r,trivial⟩ ⟨rfl,trivial⟩) (λ_=>Sz (λg=>bif aA 24096 g then g-20000 else bif (aA 1000 g&&aAA g 4096)then g-1000 else g) (by rfl) (hE ⟨rfl,r,r,r,r,r,r,r,trivial⟩ ⟨rfl,trivial⟩))))
       ·rintro x36 v17x18 nn
        try dsimp only
        unfold RP
        exact B
      ·refine A 6 ?_
       refine cD r ?_ ?_
       ·refine A 3 ?_
        refine Us (QX (Mk.s ([63]))) r r r r r<|bS ([(Mk.s ([63]))]:List Mk) QX r r r (by simp) r r r<|WQ (E:=λ(g:Nat×Nat×Nat)=>[(3,.mref 1017 g.2.1),(26,.sl (t1.Frames.map Qm)),(27,Lo (t1.Frames.length:Int)),(28,Lo x4),(43,.sl (x_x5.Code.map Pr)),(44,Lo (x_x5.Code.length:Int)),(45,Lo x8),(53,.optr 1007 g.1 0 0),(54,Lo x_x9.Op),(55,.bool (decide (x_x9.Op>=25))),(57,.mref 1017 g.2.1),(59,.osl 1059 g.2.2 0 (([(Mk.s ([63]))]:List Mk).length))]) (O:=λg=>[(1007,dV g.1 5 54 (Pr x_x9)),(1017,some (g.2.1,⟨true,false,0,2,QF 62 5 x7⟩)),(1059,dW g.2.2 1 20 (([(Mk.s ([63]))]:List Mk).map QX))]) (_,_,_) ((Sz (λg=>bif aA 4096 g then g+20000 else g+1000) (by rfl) (hE ⟨rfl,r,r,r,r,r,r,r,r,r,r,r,trivial⟩ ⟨rfl,r,r,trivial⟩)))<|?_
        rintro⟨v1007x21,v1017x21,v1059x21⟩ nn
        try dsimp only
        refine WN (ES:=λ(_s:(List UInt8)) (g:Nat×Nat)=>[(3,.mref 17 g.2),(26,.sl (t1.Frames.map Qm)),(27,Lo (t1.Frames.length:Int)),(28,Lo x4),(43,.sl (x_x5.Code.map Pr)),(44,Lo (x_x5.Code.length:Int)),(45,Lo x8),(53,.optr 7 g.1 0 0),(54,Lo x_x9.Op),(55,.bool (decide (x_x9.Op>=25))),(60,.tup [])]) (OS:=λs g=>[(7,dV g.1 5 54 (Pr x_x9)),(17,some (g.2,⟨true,false,0,2,QF 62 5 s⟩))]) (j:=λs=>RR x8 s) (ds:=[.mref 1017 v1017x21,.osl 1059 v1059x21 0 (([(Mk.s ([63]))]:List Mk).length)]) (caps:=[]) (E:=[(0,.mref 1017 v1017x21),(1,.osl 1059 v1059x21 0 (([(Mk.s ([63]))]:List Mk).length))]) r r r r r r r r ?_ ?_
        ·unfold Yr
         refine A 9 ?_
         refine lP (E:=λ(s:(List UInt8)×Int) (_g:Unit)=>[(0,.mref 1017 v1017x21),(9,.osl 1059 v1059x21 0 (([(Mk.s ([63]))]:List Mk).length)),(10,Lo (([(Mk.s ([63]))]:List Mk).length:Int)),(11,Lo s.2)]) (O:=λs _=>[(1007,dV v1007x21 5 54 (Pr x_x9)),(1017,some (v1017x21,⟨true,false,0,2,QF 62 5 s.1⟩)),(1059,dW v1059x21 1 20 (([(Mk.s ([63]))]:List Mk).map QX))]) (body:=λs=>TF x8 s.1 s.2) (s:=(x7,0)) () ((hE ⟨rfl,r,r,r,trivial⟩ ⟨rfl,r,r,trivial⟩))<|?_
         rintro⟨x47,x48⟩ ⟨⟩ nn
         try dsimp only
         unfold TF
         refine A 6 ?_
         refine cD r ?_ ?_
         ·refine A 8 ?_
          refine bD λx_e49 hx_e49=>?_
          refine A 5 ?_
          refine sC (E:=λ(_s:(List UInt8)) (_g:Unit)=>[(0,.mref 1017 v1017x21),(5,QX x_e49),(9,.osl 1059 v1059x21 0 (([(Mk.s ([63]))]:List Mk).length)),(10,Lo (([(Mk.s ([63]))]:List Mk).length:Int)),(11,Lo x48)]) (O:=λs _=>[(1007,dV v1007x21 5 54 (Pr x_x9)),(1017,some (v1017x21,⟨true,false,0,2,QF 62 5 s⟩)),(1059,dW v1059x21 1 20 (([(Mk.s ([63]))]:List Mk).map QX))]) (j:=λs=>RS x_e49 x48 s) ?_ ?_
          ·refine A 6 ?_
           refine cD r ?_ ?_
           ·refine A 2 ?_
            refine Qp r r r<|Qr r r r<|cK λhq=>Tk 32 r r r r r (by decide) hq λnn=>?_
            exact B
           ·exact B
          ·rintro x50 ⟨⟩ nn
           try dsimp only
           unfold RS
           refine A 8 ?_
           refine WO x_e49 (λn51 hv=>?_) (λn52 hv=>?_) (λs53 hv=>?_)
           ·subst hv
            refine QJ (Lo n51) r r<|?_
            refine A 13 ?_
            refine Qp r r r<|Qr r r r<|?_
            refine A 1 ?_
            refine bD λr54 hr54=>?_
            refine A 4 ?_
            refine cK λhq=>RG r r r r r hq λnn=>?_
            exact B
           ·subst hv
            refine QC (q':=52) (w:=UI n52) r r r<|?_
            refine A 7 ?_
            refine QJ (UI n52) r r<|?_
            refine A 13 ?_
            refine Qp r r r<|Qr r r r<|?_
            refine A 1 ?_
            refine bD λr55 hr55=>?_
            refine A 4 ?_
            refine cK λhq=>RG r r r r r hq λnn=>?_
            exact B
           ·subst hv
            refine QC (q':=9) (w:=.str s53) r r r<|?_
            refine A 7 ?_
            refine QC (q':=9) (w:=.str s53) r r r<|?_
            refine A 7 ?_
            refine QJ (.str s53) r r<|?_
            refine A 12 ?_
            refine Qp r r r<|Qr r r r<|?_
            refine A 1 ?_
            refine cK λhq=>RG r r r r r hq λnn=>?_
            exact B
         ·refine A 7 ?_
          refine Qp r r r<|Qr r r r<|cK λhq=>Tk 10 r r r r r (by decide) hq λnn=>?_
          refine A 1 ?_
          exact VX (d:=.tup []) (s:=x47++[10]) (_,_) r (by first|rfl|(simp[Rs,QB,rdA,raw,strip,QS,cells,QN];done)|(simp[Rs,QB,rdA,raw,strip,QS,S.ge,S.go,look,YM,cells,QN];done)) r ((Vn (E1:=[(3,.mref 1017 v1017x21),(26,.sl (t1.Frames.map Qm)),(27,Lo (t1.Frames.length:Int)),(28,Lo x4),(43,.sl (x_x5.Code.map Pr)),(44,Lo (x_x5.Code.length:Int)),(45,Lo x8),(53,.optr 1007 v1007x21 0 0),(54,Lo x_x9.Op),(55,.bool (decide (x_x9.Op>=25))),(60,.tup [])]) (O1:=[(1007,dV v1007x21 5 54 (Pr x_x9)),(1017,some (v1017x21,⟨true,false,0,2,QF 62 5 (x47++[10])⟩))]) (hE ⟨rfl,r,r,r,r,r,r,r,r,r,r,trivial⟩ ⟨rfl,r,trivial⟩) (λ_=>Sz (λg=>bif aA 24096 g then g-20000 else bif (aA 1000 g&&aAA g 4096)then g-1000 else g) (by rfl) (hE ⟨rfl,r,r,r,r,r,r,r,r,r,r,trivial⟩ ⟨rfl,r,trivial⟩))))
        ·rintro x46 ⟨v7x22,v17x22⟩ nn
         try dsimp only
         unfold RR
         exact B
       ·exact B
     ·rintro⟨⟩ ⟨v7x7,v17x7⟩ nn
      try dsimp only
      unfold SQ
      refine A 5 ?_
      refine bD λr10 hr10=>?_
      refine A 1 ?_
      refine bD λr11 hr11=>?_
      refine A 13 ?_
      refine Us (QX (Mk.s r11.1)) r r r r r<|bS ([(Mk.s r11.1)]:List Mk) QX r r r (by simp) r r r<|?_
      refine A 7 ?_
      refine bD λr12 hr12=>?_
      refine A 17 ?_
      refine bS ([x_x9.A,x_x9.B,x_x9.C]:List Int) Rq r r r (by simp) r r r<|?_
      refine A 7 ?_
      refine lP (E:=λ(s:(List Mk)×Int) (g:Nat×Nat×Nat×Nat)=>[(3,.mref 17 g.2.2.1),(7,.optr 7 g.1 0 0),(11,.osl 11 g.2.1 0 s.1.length),(13,.bool r12.2),(26,.sl (t1.Frames.map Qm)),(27,Lo (t1.Frames.length:Int)),(28,Lo x4),(43,.sl (x_x5.Code.map Pr)),(44,Lo (x_x5.Code.length:Int)),(45,Lo x8),(53,.optr 7 g.1 0 0),(54,Lo x_x9.Op),(55,.bool (decide (x_x9.Op>=25))),(87,.osl 85 g.2.2.2 0 r12.1.toNat),(88,Lo (r12.1.toNat:Int)),(89,Lo s.2)]) (O:=λs g=>[(7,dV g.1 5 54 (Pr x_x9)),(11,dW g.2.1 1 20 (s.1.map QX)),(17,some (g.2.2.1,⟨true,false,0,2,QF 62 5 x7⟩)),(85,dW g.2.2.2 1 3 (([x_x9.A,x_x9.B,x_x9.C]:List Int).map Rq))]) (body:=λs=>Re r12 x_x9 x8 x7 s.1 s.2) (s:=(([(Mk.s r11.1)]:List Mk),0)) (_,_,_,_) ((hE ⟨rfl,r,r,r,r,r,r,r,r,r,r,r,r,r,r,r,trivial⟩ ⟨rfl,r,r,r,trivial⟩))<|?_
      rintro⟨words13,x14⟩ ⟨v7x8,v11x8,v17x8,v85x8⟩ nn
      try dsimp only
      unfold Re
      refine A 6 ?_
      refine cD r ?_ ?_
      ·refine A 6 ?_
       refine cK λhq=>AbG (l:=([x_x9.A,x_x9.B,x_x9.C]:List Int)) (en:=Rq) r r r r hq<|bD λx_e15 hx_e15=>?_
       refine A 7 ?_
       refine Us (QX (Mk.i x_e15)) r r r r r<|bS ([(Mk.i x_e15)]:List Mk) QX r r r (by simp) r r r<|?_
       exact B
      ·refine A 11 ?_
       refine cD r ?_ ?_
       ·refine A 4 ?_
        refine Us (QX (Mk.u x_x9.Imm)) r r r r r<|bS ([(Mk.u x_x9.Imm)]:List Mk) QX r r r (by simp) r r r<|?_
        refine A 7 ?_
        refine WQ (E:=λ(g:Nat×Nat×Nat)=>[(3,.mref 1017 g.2.2),(26,.sl (t1.Frames.map Qm)),(27,Lo (t1.Frames.length:Int)),(28,Lo x4),(43,.sl (x_x5.Code.map Pr)),(44,Lo (x_x5.Code.length:Int)),(45,Lo x8),(53,.optr 1007 g.1 0 0),(54,Lo x_x9.Op),(55,.bool (decide (x_x9.Op>=25))),(106,.mref 1017 g.2.2),(107,.osl 1011 g.2.1 0 ((words13++([(Mk.u x_x9.Imm)]:List Mk)).length))]) (O:=λg=>[(1007,dV g.1 5 54 (Pr x_x9)),(1011,dW g.2.1 1 20 ((words13++([(Mk.u x_x9.Imm)]:List Mk)).map QX)),(1017,some (g.2.2,⟨true,false,0,2,QF 62 5 x7⟩))]) (_,_,_) ((Sz (λg=>bif aA 4096 g then g+20000 else g+1000) (by rfl) (hE ⟨rfl,r,r,r,r,r,r,r,r,r,r,r,trivial⟩ ⟨rfl,r,r,trivial⟩)))<|?_
        rintro⟨v1007x9,v1011x9,v1017x9⟩ nn
        try dsimp only
        refine WN (ES:=λ(_s:(List UInt8)) (g:Nat×Nat)=>[(3,.mref 17 g.2),(26,.sl (t1.Frames.map Qm)),(27,Lo (t1.Frames.length:Int)),(28,Lo x4),(43,.sl (x_x5.Code.map Pr)),(44,Lo (x_x5.Code.length:Int)),(45,Lo x8),(53,.optr 7 g.1 0 0),(54,Lo x_x9.Op),(55,.bool (decide (x_x9.Op>=25))),(108,.tup [])]) (OS:=λs g=>[(7,dV g.1 5 54 (Pr x_x9)),(17,some (g.2,⟨true,false,0,2,QF 62 5 s⟩))]) (j:=λs=>Se x8 s) (ds:=[.mref 1017 v1017x9,.osl 1011 v1011x9 0 ((words13++([(Mk.u x_x9.Imm)]:List Mk)).length)]) (caps:=[]) (E:=[(0,.mref 1017 v1017x9),(1,.osl 1011 v1011x9 0 ((words13++([(Mk.u x_x9.Imm)]:List Mk)).length))]) r r r r r r r r ?_ ?_
        ·unfold Yr
         refine A 9 ?_
         refine lP (E:=λ(s:(List UInt8)×Int) (_g:Unit)=>[(0,.mref 1017 v1017x9),(9,.osl 1011 v1011x9 0 ((words13++([(Mk.u x_x9.Imm)]:List Mk)).length)),(10,Lo ((words13++([(Mk.u x_x9.Imm)]:List Mk)).length:Int)),(11,Lo s.2)]) (O:=λs _=>[(1007,dV v1007x9 5 54 (Pr x_x9)),(1011,dW v1011x9 1 20 ((words13++([(Mk.u x_x9.Imm)]:List Mk)).map QX)),(1017,some (v1017x9,⟨true,false,0,2,QF 62 5 s.1⟩))]) (body:=λs=>Ub words13 x_x9 x8 s.1 s.2) (s:=(x7,0)) () ((hE ⟨rfl,r,r,r,trivial⟩ ⟨rfl,r,r,trivial⟩))<|?_
         rintro⟨x17,x18⟩ ⟨⟩ nn
         try dsimp only
         unfold Ub
         refine A 6 ?_
         refine cD r ?_ ?_
         ·refine A 8 ?_
          refine bD λx_e19 hx_e19=>?_
          refine A 5 ?_
          refine sC (E:=λ(_s:(List UInt8)) (_g:Unit)=>[(0,.mref 1017 v1017x9),(5,QX x_e19),(9,.osl 1011 v1011x9 0 ((words13++([(Mk.u x_x9.Imm)]:List Mk)).length)),(10,Lo ((words13++([(Mk.u x_x9.Imm)]:List Mk)).length:Int)),(11,Lo x18)]) (O:=λs _=>[(1007,dV v1007x9 5 54 (Pr x_x9)),(1011,dW v1011x9 1 20 ((words13++([(Mk.u x_x9.Imm)]:List Mk)).map QX)),(1017,some (v1017x9,⟨true,false,0,2,QF 62 5 s⟩))]) (j:=λs=>Sf x_e19 x18 s) ?_ ?_
          ·refine A 6 ?_
           refine cD r ?_ ?_
           ·refine A 2 ?_
            refine Qp r r r<|Qr r r r<|cK λhq=>Tk 32 r r r r r (by decide) hq λnn=>?_
            exact B
           ·exact B
          ·rintro x20 ⟨⟩ nn
           try dsimp only
           unfold Sf
           refine A 8 ?_
           refine WO x_e19 (λn21 hv=>?_) (λn22 hv=>?_) (λs23 hv=>?_)
           ·subst hv
            refine QJ (Lo n21) r r<|?_
            refine A 13 ?_
            refine Qp r r r<|Qr r r r<|?_
            refine A 1 ?_
            refine bD λr24 hr24=>?_
            refine A 4 ?_
            refine cK λhq=>RG r r r r r hq λnn=>?_
            exact B
           ·subst hv
            refine QC (q':=52) (w:=UI n22) r r r<|?_
            refine A 7 ?_
            refine QJ (UI n22) r r<|?_
            refine A 13 ?_
            refine Qp r r r<|Qr r r r<|?_
            refine A 1 ?_
            refine bD λr25 hr25=>?_
            refine A 4 ?_
            refine cK λhq=>RG r r r r r hq λnn=>?_
            exact B
           ·subst hv
            refine QC (q':=9) (w:=.str s23) r r r<|?_
            refine A 7 ?_
            refine QC (q':=9) (w:=.str s23) r r r<|?_
            refine A 7 ?_
            refine QJ (.str s23) r r<|?_
            refine A 12 ?_
            refine Qp r r r<|Qr r r r<|?_
            refine A 1 ?_
            refine cK λhq=>RG r r r r r hq λnn=>?_
            exact B
         ·refine A 7 ?_
          refine Qp r r r<|Qr r r r<|cK λhq=>Tk 10 r r r r r (by decide) hq λnn=>?_
          refine A 1 ?_
          exact VX (d:=.tup []) (s:=x17++[10]) (_,_) r (by first|rfl|(simp[Rs,QB,rdA,raw,strip,QS,cells,QN];done)|(simp[Rs,QB,rdA,raw,strip,QS,S.ge,S.go,look,YM,cells,QN];done)) r ((Vn (E1:=[(3,.mref 1017 v1017x9),(26,.sl (t1.Frames.map Qm)),(27,Lo (t1.Frames.length:Int)),(28,Lo x4),(43,.sl (x_x5.Code.map Pr)),(44,Lo (x_x5.Code.length:Int)),(45,Lo x8),(53,.optr 1007 v1007x9 0 0),(54,Lo x_x9.Op),(55,.bool (decide (x_x9.Op>=25))),(108,.tup [])]) (O1:=[(1007,dV v1007x9 5 54 (Pr x_x9)),(1017,some (v1017x9,⟨true,false,0,2,QF 62 5 (x17++[10])⟩))]) (hE ⟨rfl,r,r,r,r,r,r,r,r,r,r,trivial⟩ ⟨rfl,r,trivial⟩) (λ_=>Sz (λg=>bif aA 24096 g then g-20000 else bif (aA 1000 g&&aAA g 4096)then g-1000 else g) (by rfl) (hE ⟨rfl,r,r,r,r,r,r,r,r,r,r,trivial⟩ ⟨rfl,r,trivial⟩))))
        ·rintro x16 ⟨v7x10,v17x10⟩ nn
         try dsimp only
         unfold Se
         exact B
       ·refine A 5 ?_
        refine WQ (E:=λ(g:Nat×Nat×Nat)=>[(3,.mref 1017 g.2.2),(26,.sl (t1.Frames.map Qm)),(27,Lo (t1.Frames.length:Int)),(28,Lo x4),(43,.sl (x_x5.Code.map Pr)),(44,Lo (x_x5.Code.length:Int)),(45,Lo x8),(53,.optr 1007 g.1 0 0),(54,Lo x_x9.Op),(55,.bool (decide (x_x9.Op>=25))),(106,.mref 1017 g.2.2),(107,.osl 1011 g.2.1 0 words13.length)]) (O:=λg=>[(1007,dV g.1 5 54 (Pr x_x9)),(1011,dW g.2.1 1 20 (words13.map QX)),(1017,some (g.2.2,⟨true,false,0,2,QF 62 5 x7⟩))]) (_,_,_) ((Sz (λg=>bif aA 4096 g then g+20000 else g+1000) (by rfl) (hE ⟨rfl,r,r,r,r,r,r,r,r,r,r,r,trivial⟩ ⟨rfl,r,r,trivial⟩)))<|?_
        rintro⟨v1007x13,v1011x13,v1017x13⟩ nn
        try dsimp only
        refine WN (ES:=λ(_s:(List UInt8)) (g:Nat×Nat)=>[(3,.mref 17 g.2),(26,.sl (t1.Frames.map Qm)),(27,Lo (t1.Frames.length:Int)),(28,Lo x4),(43,.sl (x_x5.Code.map Pr)),(44,Lo (x_x5.Code.length:Int)),(45,Lo x8),(53,.optr 7 g.1 0 0),(54,Lo x_x9.Op),(55,.bool (decide (x_x9.Op>=25))),(108,.tup [])]) (OS:=λs g=>[(7,dV g.1 5 54 (Pr x_x9)),(17,some (g.2,⟨true,false,0,2,QF 62 5 s⟩))]) (j:=λs=>RN x8 s) (ds:=[.mref 1017 v1017x13,.osl 1011 v1011x13 0 words13.length]) (caps:=[]) (E:=[(0,.mref 1017 v1017x13),(1,.osl 1011 v1011x13 0 words13.length)]) r r r r r r r r ?_ ?_
        ·unfold Yr
         refine A 9 ?_
         refine lP (E:=λ(s:(List UInt8)×Int) (_g:Unit)=>[(0,.mref 1017 v1017x13),(9,.osl 1011 v1011x13 0 words13.length),(10,Lo (words13.length:Int)),(11,Lo s.2)]) (O:=λs _=>[(1007,dV v1007x13 5 54 (Pr x_x9)),(1011,dW v1011x13 1 20 (words13.map QX)),(1017,some (v1017x13,⟨true,false,0,2,QF 62 5 s.1⟩))]) (body:=λs=>TD words13 x8 s.1 s.2) (s:=(x7,0)) () ((hE ⟨rfl,r,r,r,trivial⟩ ⟨rfl,r,r,trivial⟩))<|?_
         rintro⟨x27,x28⟩ ⟨⟩ nn
         try dsimp only
         unfold TD
         refine A 6 ?_
         refine cD r ?_ ?_
         ·refine A 8 ?_
          refine bD λx_e29 hx_e29=>?_
          refine A 5 ?_
          refine sC (E:=λ(_s:(List UInt8)) (_g:Unit)=>[(0,.mref 1017 v1017x13),(5,QX x_e29),(9,.osl 1011 v1011x13 0 words13.length),(10,Lo (words13.length:Int)),(11,Lo x28)]) (O:=λs _=>[(1007,dV v1007x13 5 54 (Pr x_x9)),(1011,dW v1011x13 1 20 (words13.map QX)),(1017,some (v1017x13,⟨true,false,0,2,QF 62 5 s⟩))]) (j:=λs=>RO x_e29 x28 s) ?_ ?_
          ·refine A 6 ?_
           refine cD r ?_ ?_
           ·refine A 2 ?_
            refine Qp r r r<|Qr r r r<|cK λhq=>Tk 32 r r r r r (by decide) hq λnn=>?_
            exact B
           ·exact B
          ·rintro x30 ⟨⟩ nn
           try dsimp only
           unfold RO
           refine A 8 ?_
           refine WO x_e29 (λn31 hv=>?_) (λn32 hv=>?_) (λs33 hv=>?_)
           ·subst hv
            refine QJ (Lo n31) r r<|?_
            refine A 13 ?_
            refine Qp r r r<|Qr r r r<|?_
            refine A 1 ?_
            refine bD λr34 hr34=>?_
            refine A 4 ?_
            refine cK λhq=>RG r r r r r hq λnn=>?_
            exact B
           ·subst hv
            refine QC (q':=52) (w:=UI n32) r r r<|?_
            refine A 7 ?_
            refine QJ (UI n32) r r<|?_
            refine A 13 ?_
            refine Qp r r r<|Qr r r r<|?_
            refine A 1 ?_
            refine bD λr35 hr35=>?_
            refine A 4 ?_
            refine cK λhq=>RG r r r r r hq λnn=>?_
            exact B
           ·subst hv
            refine QC (q':=9) (w:=.str s33) r r r<|?_
            refine A 7 ?_
            refine QC (q':=9) (w:=.str s33) r r r<|?_
            refine A 7 ?_
            refine QJ (.str s33) r r<|?_
            refine A 12 ?_
            refine Qp r r r<|Qr r r r<|?_
            refine A 1 ?_
            refine cK λhq=>RG r r r r r hq λnn=>?_
            exact B
         ·refine A 7 ?_
          refine Qp r r r<|Qr r r r<|cK λhq=>Tk 10 r r r r r (by decide) hq λnn=>?_
          refine A 1 ?_
          exact VX (d:=.tup []) (s:=x27++[10]) (_,_) r (by first|rfl|(simp[Rs,QB,rdA,raw,strip,QS,cells,QN];done)|(simp[Rs,QB,rdA,raw,strip,QS,S.ge,S.go,look,YM,cells,QN];done)) r ((Vn (E1:=[(3,.mref 1017 v1017x13),(26,.sl (t1.Frames.map Qm)),(27,Lo (t1.Frames.length:Int)),(28,Lo x4),(43,.sl (x_x5.Code.map Pr)),(44,Lo (x_x5.Code.length:Int)),(45,Lo x8),(53,.optr 1007 v1007x13 0 0),(54,Lo x_x9.Op),(55,.bool (decide (x_x9.Op>=25))),(108,.tup [])]) (O1:=[(1007,dV v1007x13 5 54 (Pr x_x9)),(1017,some (v1017x13,⟨true,false,0,2,QF 62 5 (x27++[10])⟩))]) (hE ⟨rfl,r,r,r,r,r,r,r,r,r,r,trivial⟩ ⟨rfl,r,trivial⟩) (λ_=>Sz (λg=>bif aA 24096 g then g-20000 else bif (aA 1000 g&&aAA g 4096)then g-1000 else g) (by rfl) (hE ⟨rfl,r,r,r,r,r,r,r,r,r,r,trivial⟩ ⟨rfl,r,trivial⟩))))
        ·rintro x26 ⟨v7x14,v17x14⟩ nn
         try dsimp only
         unfold RN
         exact B
    ·exact B
  ·refine A 8 ?_
   refine Qp r r r<|Qr r r r<|cK λhq=>AdK r r r r r hq λnn=>?_
   exact B

def TL (a:Int):List D:=[UI a]
def TK (ds:List D):Int:=uI (ds.getD 0 .top)
theorem Zv (a:Int):TK (TL a)=a:=by simp[TK,TL,uI]
instance:QW TL TK:=⟨Zv⟩
def ZI (b:(List UInt8)):D:=.str b
def VG:Dw.Spec:=Ql [] .ground TL TK (λa=>Sr a) ZI noE
theorem Xa:Qi Tryd.prog 38 VG:=by
 refine fn2 1 (RE) Tryd.func38<|?_
 intro u1
 unfold Sr
 refine A 11 ?_
 refine lP (E:=λ(s:Int×(List UInt8)) (_g:Unit)=>[(0,UI s.1),(3,.str s.2)]) (O:=λ_ _=>[]) (body:=λs=>SA s.1 s.2) (s:=(u1,[])) () ((hE ⟨rfl,r,trivial⟩ trivial))<|?_
 rintro⟨u2,s3⟩ ⟨⟩ nn
 try dsimp only
 unfold SA
 refine A 8 ?_
 refine AdJ (([u8.wrap (u64.wrap (48+(u2.tmod 10)))]:List Int)) r r r r r (by first|trivial|(simp;done)|(simp;omega)) (by first|rfl|(simp[List.map_take,List.map_drop];done))<|?_
 exact B

def AbF (b:(List UInt8)):D:=.str b
def Xs:Dw.Spec:=Ql [] .ground Qy Qx (λa=>Ta a) AbF noE
theorem YE:Qi Tryd.prog 24 Xs:=by
 refine fn2 1 (Qw (l:=[(38,VG)]) (by simp[Xa])) Tryd.func24<|?_
 intro a
 unfold Ta
 exact B

def Abl (b:(List UInt8)):D:=.str b
def YF:Dw.Spec:=Ql [] .ground Qy Qx (λa=>Ui a) Abl noE
theorem AaL:Qi Tryd.prog 39 YF:=by
 refine fn2 1 (RE) Tryd.func39<|?_
 intro op1
 unfold Ui
 refine A 7 ?_
 refine bS ([[99,111,110,115,116],[99,111,112,121],[97,100,100],[115,117,98],[109,117,108],[100,105,118],[97,110,100],[111,114],[120,111,114],[108,101,115,115],[101,113,117,97,108],[112,97,105,114],[104,105,103,104],[105,110],[111,117,116],[108,111,97,100],[115,116,111,114,101],[109,111,118,101],[97,114,103],[112,97,114,97,109],[106,117,109,112],[98,114,97,110,99,104],[99,97,108,108],[114,101,116,117,114,110],[116,114,97,112]]:List (List UInt8)) D.str r r r (by simp) r r r<|?_
 exact B

def Aai (b:Bool):D:=.bool b
def XF:Dw.Spec:=Ql [] .ground Qy Qx (λa=>Xc a) Aai noE
theorem ZJ:Qi Tryd.prog 53 XF:=by
 refine fn2 1 (RE) Tryd.func53<|?_
 intro a
 unfold Xc
 exact B

def Zu (b:Bool×Bool×Bool×Bool):D:=.tup [.bool b.1,.bool b.2.1,.bool b.2.2.1,.bool b.2.2.2]
def WZ:Dw.Spec:=Ql [] .ground Qy Qx (λa=>VV a) Zu noE
theorem Zi:Qi Tryd.prog 54 WZ:=by
 refine fn2 1 (RE) Tryd.func54<|?_
 intro op1
 unfold VV
 refine A 21 ?_
 refine cD r ?_ ?_
 ·exact B
 ·refine sC (E:=λ(s:Bool) (_g:Unit)=>[(6,Lo op1),(9,.bool s)]) (O:=λ_ _=>[]) (j:=λs=>QU op1 s) ?_ ?_
  ·exact B
  ·rintro x2 ⟨⟩ nn
   try dsimp only
   unfold QU
   refine cD r ?_ ?_
   ·exact B
   ·refine sC (E:=λ(s:Bool) (_g:Unit)=>[(6,Lo op1),(18,.bool s)]) (O:=λ_ _=>[]) (j:=λs=>QE op1 s) ?_ ?_
    ·exact B
    ·rintro x3 ⟨⟩ nn
     try dsimp only
     unfold QE
     refine cD r ?_ ?_
     ·exact B
     ·refine sC (E:=λ(s:Bool) (_g:Unit)=>[(6,Lo op1),(29,.bool s)]) (O:=λ_ _=>[]) (j:=λs=>Sq op1 s) ?_ ?_
      ·exact B
      ·rintro x4 ⟨⟩ nn
       try dsimp only
       unfold Sq
       exact B

def Zw (b:Bool×Bool×Bool×Bool):D:=.tup [.bool b.1,.bool b.2.1,.bool b.2.2.1,.bool b.2.2.2]
def Xb:Dw.Spec:=Ql [] .ground Qy Qx (λa=>TV a) Zw noE
theorem Zj:Qi Tryd.prog 40 Xb:=by
 refine fn2 1 (Qw (l:=[(53,XF),(54,WZ)]) (by simp[ZJ,Zi])) Tryd.func40<|?_
 intro a
 unfold TV
 exact B

end
end Go.Proofs.YtcppfbhmhlhncaaDoor
