/-
  Programs on typed data, and the proofs that the code does what they say; written by a program (dx.py).
-/
import Derived.Test.YtcppfbhmhlhncaaDoorProg
import Derived.Test.YtcppfbhmhlhncaaDoorDd
import Derived.KernelRfl
import Derived.Test.YtcppfbhmhlhncaaDoorSh
import Derived.Test.YtcppfbhmhlhncaaDoorDxP
import Derived.Test.YtcppfbhmhlhncaaDoorDxF1
namespace Go.Proofs.YtcppfbhmhlhncaaDoor
open Go Go.Dw Go.Proofs
open Go.IntKind (i64)
set_option maxRecDepth 100000
set_option maxHeartbeats 40000000
open Go.Dw renaming Rt -> bD,QD -> cK,Xg -> bS,YS -> aP,Ut -> sE,Xt -> iO,XL -> cD,AbP -> xC,Wh -> hE,YT -> lP,WH -> sC,VY -> bC,rf -> r
noncomputable section
def UC (a:Qj×Int×Qn):List D:=[Ud a.1,Lo a.2.1,QY a.2.2]
def UB (ds:List D):Qj×Int×Qn:=(UO (ds.getD 0 .top),uI (ds.getD 1 .top),VZ (ds.getD 2 .top))
theorem Aal (a:Qj×Int×Qn):UB (UC a)=a:=by simp[UB,UC,uI]
instance:QW UC UB:=⟨Aal⟩
def Yh (b:Qk):D:=Qm b
def Yi:Dw.Spec:=Ql [] .val UC UB (λa=>Vi a.1 a.2.1 a.2.2) Yh noE
theorem Aam:Qi Tryd.prog 30 Yi:=by
 refine fn2 3 (Qw (l:=[(47,Yj)]) (by simp[Aao])) Tryd.func30<|?_
 rintro⟨p1,i2,y3⟩
 unfold Vi
 refine A 12 ?_
 refine bD λx_x4 hx_x4=>?_
 refine A 18 ?_
 refine lP (E:=λ(s:(List Ed)×Int) (g:Nat×Nat×Nat×Nat)=>[(5,.optr 5 g.1 0 0),(6,.optr 6 g.2.1 0 0),(7,.optr 7 g.2.2.1 0 0),(8,.osl 8 g.2.2.2 0 s.1.length),(9,Lo s.2)]) (O:=λs g=>[(5,dV g.1 3 78 (QY y3)),(6,dV g.2.1 3 28 (.agg [Lo 0,Lo 0,.nils])),(7,dV g.2.2.1 3 74 (Sn x_x4)),(8,dW g.2.2.2 5 54 (s.1.map Pr))]) (body:=λs=>UW x_x4 y3 s.1 s.2) (s:=(([]:List Ed),0)) (_,_,_,_) ((hE ⟨rfl,r,r,r,r,trivial⟩ ⟨rfl,r,r,r,trivial⟩))<|?_
 rintro⟨code5,k6⟩ ⟨v5x1,v6x1,v7x1,v8x1⟩ nn
 try dsimp only
 unfold UW
 refine A 10 ?_
 refine cD r ?_ ?_
 ·refine A 11 ?_
  refine bD λx_x7 hx_x7=>?_
  refine A 2 ?_
  refine bD λr8 hr8=>?_
  refine A 1 ?_
  refine bS ([r8]:List Ed) Pr r r r (by simp) r r r<|?_
  exact B
 ·refine A 17 ?_
  refine WM (b:=(Qk.mk x_x4.Params y3.Size code5)) r ?_ r r ?_ (by first|rfl|(simp only[Av];rfl)|(simp only[Le];rfl)|(simp only[Av,Le];rfl)|(simp[Yh,Qm];try rfl))
  all_goals first|(simp;done)|(simp;omega)|rfl|(simp[QT,QI];done)

def Ul (a:Qj×Int×(List Qn)):List D:=[Ud a.1,Lo a.2.1,.sl (a.2.2.map QY)]
def Uk (ds:List D):Qj×Int×(List Qn):=(UO (ds.getD 0 .top),uI (ds.getD 1 .top),(uL VZ) (ds.getD 2 .top))
theorem ZK (a:Qj×Int×(List Qn)):Uk (Ul a)=a:=by simp[Uk,Ul,uI,VJ (u:=VZ) (en:=QY) AcE]
instance:QW Ul Uk:=⟨ZK⟩
def UX (b:Pw×Int):D:=.tup [RF b.1,Lo b.2]
def XG:Dw.Spec:=Ql [] .val Ul Uk (λa=>UM a.1 a.2.1 a.2.2) UX noE
theorem ZL:Qi Tryd.prog 15 XG:=by
 refine fn2 3 (Qw (l:=[(29,Yg),(30,Yi)]) (by simp[Aak,Aam])) Tryd.func15<|?_
 rintro⟨p1,align2,l3⟩
 unfold UM
 refine A 18 ?_
 refine cD r ?_ ?_
 ·refine A 9 ?_
  refine SI (b:=((Pw.mk 0 ([])),13)) r ?_ r r ?_ (by first|rfl|(simp only[Av];rfl)|(simp only[Le];rfl)|(simp only[Av,Le];rfl)|(simp[UX,RF];try rfl)) (by decide)
  all_goals first|(simp;done)|(simp;omega)|rfl|(simp[QT,QI];done)
 ·refine A 14 ?_
  refine lP (E:=λ(s:(List Qk)×Int) (g:Nat×Nat×Nat)=>[(1,Lo align2),(2,.sl (l3.map QY)),(3,.optr 3 g.1 0 0),(6,.optr 6 g.2.1 0 0),(8,.osl 8 g.2.2 0 s.1.length),(9,Lo s.2)]) (O:=λs g=>[(3,dV g.1 1 42 (.agg [.sl (p1.Funcs.map Sn)])),(6,dV g.2.1 2 25 (.agg [Lo 0,.nils])),(8,dW g.2.2 3 28 (s.1.map Qm))]) (body:=λs=>UF l3 p1 align2 s.1 s.2) (s:=(([]:List Qk),0)) (_,_,_) ((hE ⟨rfl,r,r,r,r,r,trivial⟩ ⟨rfl,r,r,trivial⟩))<|?_
  rintro⟨frames4,i5⟩ ⟨v3x1,v6x1,v8x1⟩ nn
  try dsimp only
  unfold UF
  refine A 9 ?_
  refine cD r ?_ ?_
  ·refine A 12 ?_
   refine bD λx_x6 hx_x6=>?_
   refine A 2 ?_
   refine bD λr7 hr7=>?_
   refine A 4 ?_
   refine cD r ?_ ?_
   ·refine A 14 ?_
    refine SI (b:=((Pw.mk 0 ([])),13)) r ?_ r r ?_ (by first|rfl|(simp only[Av];rfl)|(simp only[Le];rfl)|(simp only[Av,Le];rfl)|(simp[UX,RF];try rfl)) (by decide)
    all_goals first|(simp;done)|(simp;omega)|rfl|(simp[QT,QI];done)
   ·refine A 8 ?_
    refine bD λx_x8 hx_x8=>?_
    refine A 2 ?_
    refine bD λr9 hr9=>?_
    refine A 1 ?_
    refine bS ([r9]:List Qk) Qm r r r (by simp) r r r<|?_
    exact B
  ·refine A 15 ?_
   refine SI (b:=((Pw.mk align2 frames4),0)) r ?_ r r ?_ (by first|rfl|(simp only[Av];rfl)|(simp only[Le];rfl)|(simp only[Av,Le];rfl)|(simp[UX,RF];try rfl)) (by decide)
   all_goals first|(simp;done)|(simp;omega)|rfl|(simp[QT,QI];done)

def VL (b:Pw×BS):D:=RF b.1
def Yo (b:Pw×BS):List D:=[Qz b.2]
def VM:Dw.Spec:=Ql [(0,(2,39))] .val RI RH (λa=>SR a.1 a.2.1 a.2.2) VL Yo
theorem XU:Qi Tryd.prog 6 VM:=by
 refine fn2 3 (Qw (l:=[(12,Vw),(13,Ye),(14,WC),(15,XG),(16,QL)]) (by simp[Xw,Aah,YG,ZL,QO])) Tryd.func6<|?_
 rintro⟨c1,funcs2,most3⟩
 unfold SR
 refine A 10 ?_
 refine bD λr4 hr4=>?_
 refine A 8 ?_
 refine bD λr5 hr5=>?_
 refine A 8 ?_
 refine bD λr6 hr6=>?_
 refine A 13 ?_
 refine bD λr7 hr7=>?_
 refine A 13 ?_
 refine cK λhq=>aP (([]:List Qk)) (r7.1.Frames) Qm r r r r r r r (by simp) r r r (by simp) r (λ_=>r) r hq<|?_
 refine A 10 ?_
 refine lP (E:=λ(s:(List Int)×Int×(List Qk)×Int) (g:Nat×Nat×Nat)=>[(0,.optr 8192 0 0 0),(6,.optr 6 g.1 0 0),(11,.optr 11 g.2.1 0 0),(13,.osl 13 g.2.2 0 s.2.2.1.length),(14,Lo s.2.2.2)]) (O:=λs g=>[(6,dV g.1 2 25 (.agg [Lo 0,.nils])),(11,dV g.2.1 2 25 (.agg [Lo r7.1.Align,.sl (r7.1.Frames.map Qm)])),(13,dW g.2.2 3 28 (s.2.2.1.map Qm)),(8192,dV 0 2 39 (.agg [.sl (s.1.map eU8),Lo s.2.1]))]) (body:=λs=>SX r7 s.1 s.2.1 s.2.2.1 s.2.2.2) (s:=(r4.2.list,r4.2.at_,([]:List Qk)++r7.1.Frames,0)) (_,_,_) ((hE ⟨rfl,r,r,r,r,trivial⟩ ⟨rfl,r,r,r,trivial⟩))<|?_
 rintro⟨c8,c9,frames10,i11⟩ ⟨v6x1,v11x1,v13x1⟩ nn
 try dsimp only
 unfold SX
 refine A 9 ?_
 refine cD r ?_ ?_
 ·refine A 2 ?_
  refine bC (E:=λ(s:(List Int)×Int×(List Qk)) (g:Nat×Nat×Nat)=>[(0,.optr 8192 0 0 0),(6,.optr 6 g.1 0 0),(11,.optr 11 g.2.1 0 0),(13,.osl 13 g.2.2 0 s.2.2.length),(14,Lo i11)]) (O:=λs g=>[(6,dV g.1 2 25 (.agg [Lo 0,.nils])),(11,dV g.2.1 2 25 (.agg [Lo r7.1.Align,.sl (r7.1.Frames.map Qm)])),(13,dW g.2.2 3 28 (s.2.2.map Qm)),(8192,dV 0 2 39 (.agg [.sl (s.1.map eU8),Lo s.2.1]))]) (j:=λs=>Rv i11 s.1 s.2.1 s.2.2) ?_ ?_
  ·refine A 6 ?_
   refine bD λframes_e15 hframes_e15=>?_
   refine A 12 ?_
   refine lP (E:=λ(s:(List Int)×Int×(List Ed)×Int) (g:Nat×Nat×Nat×Nat)=>[(0,.optr 8192 0 0 0),(6,.optr 6 g.1 0 0),(11,.optr 11 g.2.1 0 0),(13,.osl 13 g.2.2.1 0 frames10.length),(14,Lo i11),(15,.osl 15 g.2.2.2 0 s.2.2.1.length),(16,Lo s.2.2.2)]) (O:=λs g=>[(6,dV g.1 2 25 (.agg [Lo 0,.nils])),(11,dV g.2.1 2 25 (.agg [Lo r7.1.Align,.sl (r7.1.Frames.map Qm)])),(13,dW g.2.2.1 3 28 (frames10.map Qm)),(15,dW g.2.2.2 5 54 (s.2.2.1.map Pr)),(8192,dV 0 2 39 (.agg [.sl (s.1.map eU8),Lo s.2.1]))]) (body:=λs=>Sl i11 frames10 s.1 s.2.1 s.2.2.1 s.2.2.2) (s:=(c8,c9,([]:List Ed)++frames_e15.Code,0)) (_,_,_,_) ((hE ⟨rfl,r,r,r,r,r,r,trivial⟩ ⟨rfl,r,r,r,r,trivial⟩))<|?_
   rintro⟨c16,c17,code18,k19⟩ ⟨v6x3,v11x3,v13x3,v15x3⟩ nn
   try dsimp only
   unfold Sl
   refine sC (E:=λ(s:(List Int)×Int×Int×Bool) (g:Nat×Nat×Nat×Nat)=>[(0,.optr 8192 0 0 0),(6,.optr 6 g.1 0 0),(11,.optr 11 g.2.1 0 0),(13,.osl 13 g.2.2.1 0 frames10.length),(14,Lo i11),(15,.osl 15 g.2.2.2 0 code18.length),(16,Lo k19),(57,.optr 8192 0 0 0),(58,Lo s.2.2.1),(59,.bool s.2.2.2)]) (O:=λs g=>[(6,dV g.1 2 25 (.agg [Lo 0,.nils])),(11,dV g.2.1 2 25 (.agg [Lo r7.1.Align,.sl (r7.1.Frames.map Qm)])),(13,dW g.2.2.1 3 28 (frames10.map Qm)),(15,dW g.2.2.2 5 54 (code18.map Pr)),(8192,dV 0 2 39 (.agg [.sl (s.1.map eU8),Lo s.2.1]))]) (j:=λs=>SY k19 code18 i11 frames10 s.1 s.2.1 s.2.2.1 s.2.2.2) ?_ ?_
   ·refine A 7 ?_
    refine WI r ?_ ?_
    ·refine A 1 ?_
     refine bD λr30 hr30=>?_
     refine A 5 ?_
     refine cD r ?_ ?_
     ·exact B
     ·refine A 11 ?_
      refine bD λframes_o31 hframes_o31=>sE (l:=frames10) (en:=Qm) (q':=(Qk.mk frames_o31.Params frames_o31.Size code18)) r r r r r r r (by simp) hframes_o31 r r r (by simp[QG,cells,setAt,Qm]) r<|?_
      exact B
    ·refine A 18 ?_
     refine bD λframes_o32 hframes_o32=>sE (l:=frames10) (en:=Qm) (q':=(Qk.mk frames_o32.Params frames_o32.Size code18)) r r r r r r r (by simp) hframes_o32 r r r (by simp[QG,cells,setAt,Qm]) r<|?_
     exact B
   ·rintro⟨c20,c21,x22,x23⟩ ⟨v6x4,v11x4,v13x4,v15x4⟩ nn
    try dsimp only
    unfold SY
    refine A 7 ?_
    refine bD λcode_e24 hcode_e24=>?_
    refine A 5 ?_
    refine sC (E:=λ(s:Bool) (g:Nat×Nat×Nat×Nat×Nat)=>[(0,.optr 8192 0 0 0),(6,.optr 6 g.1 0 0),(11,.optr 11 g.2.1 0 0),(13,.osl 13 g.2.2.1 0 frames10.length),(14,Lo i11),(15,.osl 15 g.2.2.2.1 0 code18.length),(16,Lo k19),(17,.optr 17 g.2.2.2.2 0 0),(57,.optr 8192 0 0 0),(58,Lo x22),(59,.bool x23),(79,.bool s)]) (O:=λ_ g=>[(6,dV g.1 2 25 (.agg [Lo 0,.nils])),(11,dV g.2.1 2 25 (.agg [Lo r7.1.Align,.sl (r7.1.Frames.map Qm)])),(13,dW g.2.2.1 3 28 (frames10.map Qm)),(15,dW g.2.2.2.1 5 54 (code18.map Pr)),(17,dV g.2.2.2.2 5 54 (Pr code_e24)),(8192,dV 0 2 39 (.agg [.sl (c20.map eU8),Lo c21]))]) (j:=λs=>Rx i11 frames10 c20 c21 code_e24 k19 code18 s) ?_ ?_
    ·exact B
    ·rintro x25 ⟨v6x5,v11x5,v13x5,v15x5,v17x5⟩ nn
     try dsimp only
     unfold Rx
     refine cD r ?_ ?_
     ·refine A 8 ?_
      refine bD λframes_e26 hframes_e26=>?_
      refine A 5 ?_
      refine bD λr27 hr27=>?_
      refine A 3 ?_
      refine bD λcode_o28 hcode_o28=>sE (l:=code18) (en:=Pr) (q':=(Ed.mk code_o28.Op r27.1 code_o28.B code_o28.C code_o28.Imm)) r r r r r r r (by simp) hcode_o28 r r r r r<|?_
      exact B
     ·exact B
  ·rintro⟨c12,c13,frames14⟩ ⟨v6x2,v11x2,v13x2⟩ nn
   try dsimp only
   unfold Rv
   exact B
 ·refine A 15 ?_
  refine WM (b:=((Pw.mk r7.1.Align frames10),(BS.mk c8 c9))) r ?_ r r ?_ (by first|rfl|(simp only[Av];rfl)|(simp only[Le];rfl)|(simp only[Av,Le];rfl)|(simp[VL,RF];try rfl))
  all_goals first|(simp;done)|(simp;omega)|rfl|(simp[QT,QI];done)

def Zq (b:Int×BS):D:=Lo b.1
def Zp (b:Int×BS):List D:=[Qz b.2]
def WU:Dw.Spec:=Ql [(0,(2,39))] .val Ro Rn (λa=>Rl a) Zq Zp
theorem YV:Qi Tryd.prog 17 WU:=by
 refine fn2 1 (Qw (l:=[(16,QL)]) (by simp[QO])) Tryd.func17<|?_
 intro c1
 unfold Rl
 refine A 8 ?_
 refine bD λr2 hr2=>?_
 refine A 11 ?_
 refine cD r ?_ ?_
 ·refine A 2 ?_
  refine bS ([9223372036854775807,(-9223372036854775808),2147483648,2147483647,(-1),16777216,33554432,1048577,512,80]:List Int) Rq r r r (by simp) r r r<|?_
  exact B
 ·exact B

def Sk (a:BS×Pw):List D:=[Qz a.1,RF a.2]
def Sj (ds:List D):BS×Pw:=(SJ (ds.getD 0 .top),XM (ds.getD 1 .top))
theorem Xh (a:BS×Pw):Sj (Sk a)=a:=by simp[Sj,Sk]
instance:QW Sk Sj:=⟨Xh⟩
def TA (b:Pw×BS):D:=RF b.1
def Xo (b:Pw×BS):List D:=[Qz b.2]
def Vb:Dw.Spec:=Ql [(0,(2,39))] .val Sk Sj (λa=>Si a.1 a.2) TA Xo
theorem Xi:Qi Tryd.prog 7 Vb:=by
 refine fn2 2 (Qw (l:=[(16,QL),(17,WU),(18,TJ)]) (by simp[QO,YV,UJ])) Tryd.func7<|?_
 rintro⟨c1,t2⟩
 unfold Si
 refine A 10 ?_
 refine cK λhq=>aP (([]:List Qk)) (t2.Frames) Qm r r r r r r r (by simp) r r r (by simp) r (λ_=>r) r hq<|?_
 refine A 8 ?_
 refine bD λr3 hr3=>?_
 refine A 8 ?_
 refine cK λhq=>iO (l:=([]:List Qk)++t2.Frames) (en:=Qm) r r r r r hq<|bD λl_e4 hl_e4=>?_
 refine A 14 ?_
 refine cD r ?_ ?_
 ·exact B
 ·refine A 6 ?_
  refine cK λhq=>aP (([]:List Ed)) (l_e4.Code) Pr r r r r r r r (by simp) r r r (by simp) r (λ_=>r) r hq<|?_
  refine A 10 ?_
  refine bD λr5 hr5=>?_
  refine A 4 ?_
  refine sC (E:=λ(_s:(List Int)×Int×(List Ed)×Int×Int) (g:Nat×Nat×Nat×Nat×Nat)=>[(0,.optr 8192 0 0 0),(3,.optr 3 g.1 0 0),(4,.optr 4 g.2.1 0 0),(5,.osl 5 g.2.2.1 0 ((([]:List Qk)++t2.Frames).length)),(6,Lo r3.1),(7,.optr 7 g.2.2.2.1 0 0)]) (O:=λs g=>[(3,dV g.1 2 25 (.agg [Lo t2.Align,.sl (t2.Frames.map Qm)])),(4,dV g.2.1 2 25 (.agg [Lo 0,.nils])),(5,dW g.2.2.1 3 28 ((([]:List Qk)++t2.Frames).map Qm)),(7,dV g.2.2.2.1 3 28 (.agg [Lo s.2.2.2.1,Lo s.2.2.2.2,.osl 27 g.2.2.2.2 0 s.2.2.1.length])),(27,dW g.2.2.2.2 5 54 (s.2.2.1.map Pr)),(8192,dV 0 2 39 (.agg [.sl (s.1.map eU8),Lo s.2.1]))]) (j:=λs=>Qq r3 t2 s.1 s.2.1 s.2.2.1 s.2.2.2.1 s.2.2.2.2) ?_ ?_
  ·refine A 3 ?_
   refine bD λr14 hr14=>?_
   refine A 10 ?_
   refine cD r ?_ ?_
   ·refine A 5 ?_
    refine bD λr15 hr15=>?_
    refine A 4 ?_
    refine bD λx_o16 hx_o16=>sE (l:=([]:List Ed)++l_e4.Code) (en:=Pr) (q':=(Ed.mk (i64.wrap (r15.1-1)) x_o16.A x_o16.B x_o16.C x_o16.Imm)) r r r r r r r (by simp) hx_o16 r r r r r<|?_
    refine A 2 ?_
    exact xC (s:=(r15.2.list,r15.2.at_,(([]:List Ed)++l_e4.Code).set r5.1.toNat (Ed.mk (i64.wrap (r15.1-1)) x_o16.A x_o16.B x_o16.C x_o16.Imm),l_e4.Params,l_e4.Size)) (_,_,_,_,_) ((hE ⟨rfl,r,r,r,r,r,trivial⟩ ⟨rfl,r,r,(Eq.trans (b:=dV _ 3 28 (.agg [Lo l_e4.Params,Lo l_e4.Size,.osl 27 _ 0 ((([]:List Ed)++l_e4.Code).length)])) r (by simp)),r,r,trivial⟩))
   ·refine A 6 ?_
    refine cD r ?_ ?_
    ·refine A 5 ?_
     refine bD λr17 hr17=>?_
     refine A 3 ?_
     refine bD λx_o18 hx_o18=>sE (l:=([]:List Ed)++l_e4.Code) (en:=Pr) (q':=(Ed.mk x_o18.Op r17.1 x_o18.B x_o18.C x_o18.Imm)) r r r r r r r (by simp) hx_o18 r r r r r<|?_
     refine A 2 ?_
     exact xC (s:=(r17.2.list,r17.2.at_,(([]:List Ed)++l_e4.Code).set r5.1.toNat (Ed.mk x_o18.Op r17.1 x_o18.B x_o18.C x_o18.Imm),l_e4.Params,l_e4.Size)) (_,_,_,_,_) ((hE ⟨rfl,r,r,r,r,r,trivial⟩ ⟨rfl,r,r,(Eq.trans (b:=dV _ 3 28 (.agg [Lo l_e4.Params,Lo l_e4.Size,.osl 27 _ 0 ((([]:List Ed)++l_e4.Code).length)])) r (by simp)),r,r,trivial⟩))
    ·refine A 6 ?_
     refine cD r ?_ ?_
     ·refine A 5 ?_
      refine bD λr19 hr19=>?_
      refine A 3 ?_
      refine bD λx_o20 hx_o20=>sE (l:=([]:List Ed)++l_e4.Code) (en:=Pr) (q':=(Ed.mk x_o20.Op x_o20.A r19.1 x_o20.C x_o20.Imm)) r r r r r r r (by simp) hx_o20 r r r r r<|?_
      refine A 2 ?_
      exact xC (s:=(r19.2.list,r19.2.at_,(([]:List Ed)++l_e4.Code).set r5.1.toNat (Ed.mk x_o20.Op x_o20.A r19.1 x_o20.C x_o20.Imm),l_e4.Params,l_e4.Size)) (_,_,_,_,_) ((hE ⟨rfl,r,r,r,r,r,trivial⟩ ⟨rfl,r,r,(Eq.trans (b:=dV _ 3 28 (.agg [Lo l_e4.Params,Lo l_e4.Size,.osl 27 _ 0 ((([]:List Ed)++l_e4.Code).length)])) r (by simp)),r,r,trivial⟩))
     ·refine A 6 ?_
      refine cD r ?_ ?_
      ·refine A 5 ?_
       refine bD λr21 hr21=>?_
       refine A 3 ?_
       refine bD λx_o22 hx_o22=>sE (l:=([]:List Ed)++l_e4.Code) (en:=Pr) (q':=(Ed.mk x_o22.Op x_o22.A x_o22.B r21.1 x_o22.Imm)) r r r r r r r (by simp) hx_o22 r r r r r<|?_
       refine A 2 ?_
       exact xC (s:=(r21.2.list,r21.2.at_,(([]:List Ed)++l_e4.Code).set r5.1.toNat (Ed.mk x_o22.Op x_o22.A x_o22.B r21.1 x_o22.Imm),l_e4.Params,l_e4.Size)) (_,_,_,_,_) ((hE ⟨rfl,r,r,r,r,r,trivial⟩ ⟨rfl,r,r,(Eq.trans (b:=dV _ 3 28 (.agg [Lo l_e4.Params,Lo l_e4.Size,.osl 27 _ 0 ((([]:List Ed)++l_e4.Code).length)])) r (by simp)),r,r,trivial⟩))
      ·refine A 6 ?_
       refine cD r ?_ ?_
       ·refine A 5 ?_
        refine bD λr23 hr23=>?_
        refine A 3 ?_
        refine bD λx_o24 hx_o24=>sE (l:=([]:List Ed)++l_e4.Code) (en:=Pr) (q':=(Ed.mk x_o24.Op x_o24.A x_o24.B x_o24.C r23.1)) r r r r r r r (by simp) hx_o24 r r r r r<|?_
        refine A 2 ?_
        exact xC (s:=(r23.2.list,r23.2.at_,(([]:List Ed)++l_e4.Code).set r5.1.toNat (Ed.mk x_o24.Op x_o24.A x_o24.B x_o24.C r23.1),l_e4.Params,l_e4.Size)) (_,_,_,_,_) ((hE ⟨rfl,r,r,r,r,r,trivial⟩ ⟨rfl,r,r,(Eq.trans (b:=dV _ 3 28 (.agg [Lo l_e4.Params,Lo l_e4.Size,.osl 27 _ 0 ((([]:List Ed)++l_e4.Code).length)])) r (by simp)),r,r,trivial⟩))
       ·refine A 6 ?_
        refine cD r ?_ ?_
        ·exact B
        ·refine A 6 ?_
         refine cD r ?_ ?_
         ·exact B
         ·refine A 6 ?_
          refine cD r ?_ ?_
          ·refine A 4 ?_
           refine cK λhq=>VW (l:=([]:List Ed)++l_e4.Code) r r r r r r hq<|?_
           refine A 4 ?_
           exact xC (s:=(r14.2.list,r14.2.at_,(([]:List Ed)++l_e4.Code).take r5.1.toNat,l_e4.Params,l_e4.Size)) (_,_,_,_,_) ((AbY (gw:=7) (off:=2) (gg:=27) (k:=r5.1.toNat) (l:=([]:List Ed)++l_e4.Code) (en:=Pr) r r r (by omega) r (hE ⟨rfl,r,r,r,r,r,trivial⟩ ⟨rfl,r,r,r,r,r,trivial⟩)))
          ·exact B
  ·rintro⟨c6,c7,x8,f9,f10⟩ ⟨v3x1,v4x1,v5x1,v7x1,v27x1⟩ nn
   try dsimp only
   unfold Qq
   refine A 5 ?_
   refine cK λhq=>iO (l:=([]:List Qk)++t2.Frames) (en:=Qm) r r r r r hq<|bD λl_o11 hl_o11=>sE (l:=([]:List Qk)++t2.Frames) (en:=Qm) (q':=(Qk.mk f9 f10 x8)) r r r r r r r (by simp) hl_o11 r r r (by simp[QG,cells,setAt,Qm]) r<|?_
   refine A 6 ?_
   refine bD λr12 hr12=>?_
   refine A 4 ?_
   refine cD r ?_ ?_
   ·refine A 2 ?_
    refine bD λr13 hr13=>?_
    refine A 15 ?_
    refine WM (b:=((Pw.mk r13.1 ((([]:List Qk)++t2.Frames).set r3.1.toNat (Qk.mk f9 f10 x8))),r13.2)) r ?_ r r ?_ (by first|rfl|(simp only[Av];rfl)|(simp only[Le];rfl)|(simp only[Av,Le];rfl)|(simp[TA,RF];try rfl))
    all_goals first|(simp;done)|(simp;omega)|rfl|(simp[QT,QI];done)
   ·refine A 12 ?_
    refine WM (b:=((Pw.mk t2.Align ((([]:List Qk)++t2.Frames).set r3.1.toNat (Qk.mk f9 f10 x8))),r12.2)) r ?_ r r ?_ (by first|rfl|(simp only[Av];rfl)|(simp only[Le];rfl)|(simp only[Av,Le];rfl)|(simp[TA,RF];try rfl))
    all_goals first|(simp;done)|(simp;omega)|rfl|(simp[QT,QI];done)

def SV (a:Ed):List D:=[Pr a]
def SU (ds:List D):Ed:=Wn (ds.getD 0 .top)
theorem Zy (a:Ed):SU (SV a)=a:=by simp[SU,SV]
instance:QW SV SU:=⟨Zy⟩
def ZO (b:(List UInt8)):D:=.str b
def Xm:Dw.Spec:=Ql [] .ground SV SU (λa=>Uo a) ZO noE
theorem Zz:Qi Tryd.prog 21 Xm:=by
 refine fn2 1 (Qw (l:=[(35,Xy),(34,XA),(37,ZX)]) (by simp[AaZ,Abc,AcX])) Tryd.func21<|?_
 intro x1
 unfold Uo
 refine A 6 ?_
 refine sC (E:=λ(_s:Unit) (g:Nat)=>[(1,.optr 1 g 0 0)]) (O:=λ_ g=>[(1,dV g 5 54 (Pr x1))]) (j:=λ_=>Um x1) ?_ ?_
 ·exact B
 ·rintro⟨⟩ v1x1 nn
  try dsimp only
  unfold Um
  refine A 4 ?_
  refine cK λhq=>AbO (kk:=35) SD D.str r r r hq r<|bD λe2 he2=>YL (q:=e2) (l:=SD) (en:=D.str) (j:=x1.Op.toNat) r r r he2 (λ_=>r)<|?_
  refine A 22 ?_
  refine cK λhq=>AbO (kk:=35) TI D.str r r r hq r<|bD λe3 he3=>YL (q:=e3) (l:=TI) (en:=D.str) (j:=x1.Op.toNat) r r r he3 (λ_=>r)<|AdP r λnn=>?_
  refine A 3 ?_
  refine lP (E:=λ(s:(List (List UInt8))×((List UInt8)×Nat)) (g:Nat×Nat×Nat×Nat)=>[(1,.optr 1 g.1 0 0),(3,.osl 3 g.2.1 0 s.1.length),(4,.optr 4 g.2.2.1 0 0),(31,.mref 31 g.2.2.2)]) (O:=λs g=>[(1,dV g.1 5 54 (Pr x1)),(3,dW g.2.1 1 9 (s.1.map D.str)),(4,dV g.2.2.1 3 91 (.agg [Lo x1.A,Lo x1.B,Lo x1.C])),(31,some (g.2.2.2,⟨true,false,0,1,itE s.2⟩))]) (body:=λs=>RV x1 s.1 s.2) (s:=(([e2]:List (List UInt8)),(e3,0))) (_,_,_,_) ((hE ⟨rfl,r,r,r,trivial⟩ ⟨rfl,r,r,r,trivial⟩))<|?_
  rintro⟨words4,x5⟩ ⟨v1x2,v3x2,v4x2,v31x2⟩ nn
  try dsimp only
  unfold RV
  refine A 2 ?_
  refine AdO (p:=x5) r r r (λhq=>?_) (λhq=>?_)
  ·refine A 22 ?_
   refine cD r ?_ ?_
   ·exact B
   ·refine A 3 ?_
    refine AdL r r<|?_
    refine A 1 ?_
    refine cK λhq=>AdM r r r hq<|bD λnumbers_e7 hnumbers_e7=>Ach (q:=numbers_e7) (l:=(SM.mk x1.A x1.B x1.C).toList) (en:=Rq) (j:=(x5.2:Int).toNat) (by simp) r r r hnumbers_e7 r (λ_=>r)<|?_
    exact B
  ·exact B

def Ra (a:(List UInt8)×(List UInt8)):List D:=[.str a.1,.str a.2]
def QZ (ds:List D):(List UInt8)×(List UInt8):=(uS (ds.getD 0 .top),uS (ds.getD 1 .top))
theorem Wi (a:(List UInt8)×(List UInt8)):QZ (Ra a)=a:=by simp[QZ,Ra,uS]
instance:QW Ra QZ:=⟨Wi⟩
def Wq (b:(List UInt8)×(List UInt8)×Bool):D:=.tup [.str b.1,.str b.2.1,.bool b.2.2]
def Un:Dw.Spec:=Ql [] .ground Ra QZ (λa=>Tc a.1 a.2) Wq noE
theorem Wj:Qi Tryd.prog 36 Un:=by
 refine fn2 2 (Qw (l:=[(51,Abb)]) (by simp[Adp])) Tryd.func36<|?_
 rintro⟨s1,sep2⟩
 unfold Tc
 refine A 12 ?_
 refine bD λr3 hr3=>?_
 refine A 10 ?_
 refine cD r ?_ ?_
 ·refine A 4 ?_
  refine cK λhq=>Aas r r r hq<|?_
  refine A 5 ?_
  refine cK λhq=>Aat r r r hq<|?_
  exact B
 ·exact B

def AaQ (b:(List UInt8)×(List UInt8)×Bool):D:=.tup [.str b.1,.str b.2.1,.bool b.2.2]
def Yl:Dw.Spec:=Ql [] .ground Ra QZ (λa=>Vk a.1 a.2) AaQ noE
theorem Aar:Qi Tryd.prog 20 Yl:=by
 refine fn2 2 (Qw (l:=[(36,Un)]) (by simp[Wj])) Tryd.func20<|?_
 intro a
 unfold Vk
 exact B

def Zm (b:Int×Bool):D:=.tup [Lo b.1,.bool b.2]
def WD:Dw.Spec:=Ql [] .ground Qy Qx (λa=>Rf a) Zm noE
theorem YH:Qi Tryd.prog 22 WD:=by
 refine fn2 1 (RE) Tryd.func22<|?_
 intro op1
 unfold Rf
 refine A 19 ?_
 refine cD r ?_ ?_
 ·exact B
 ·refine A 6 ?_
  refine cD r ?_ ?_
  ·exact B
  ·refine A 6 ?_
   refine cD r ?_ ?_
   ·exact B
   ·refine sC (E:=λ(s:Bool) (_g:Unit)=>[(4,Lo op1),(11,.bool s)]) (O:=λ_ _=>[]) (j:=λs=>Sg op1 s) ?_ ?_
    ·exact B
    ·rintro x2 ⟨⟩ nn
     try dsimp only
     unfold Sg
     exact B

def Yr:Ru:=(.seq (.seq (.reg [M 9 1,P 10 (.len false (T 9)),P 11 (.mv (C 0))] false) (.block 0 (.loop (.seq (.reg [P 12 (.bin .lss (T 11) (T 10))] false) (.seq (.cond (T 12) .skip (.exit 0)) (.seq (.block 1 (.seq (.reg [M 13 11,P 14 (.ixA 1 (T 9) (T 11)),P 15 (.ld 1 false (T 14)),P 4 (.asg (T 13) none),P 5 (.asg (T 15) none)] false) (.seq (.seq (.reg [M 16 4,P 17 (.bin .gtr (T 16) (C 0))] false) (.cond (T 17) (.reg [M 18 0,P 19 (.nilck (T 18)),P 20 (.fldA 0 (T 19)),P 21 (.call (.c (.clo 32 [])) [(T 20),(.c (.int .u8 32))])] false) .skip)) (.seq (.reg [M 22 5] false) (.block 2 (.seq (.reg [P 23 (.tas 3 (Lo 0) (T 22)),P 24 (.ext (T 23) 1),P 25 (.ext (T 23) 0)] false) (.cond (T 24) (.seq (.reg [P 6 (.asg (T 25) none)] false) (.seq (.reg [M 26 0,⟨(some 27),(.nilck (T 26)),none,[0]⟩,⟨(some 28),(.fldA 0 (T 27)),none,[1]⟩,M 29 6,⟨(some 30),(.call (.c (.clo 34 [])) [(T 29)]),none,[3]⟩] true) (.reg [P 31 (.call (.c (.clo 33 [])) [(T 28),(T 30)])] false))) (.seq (.reg [P 32 (.tas 52 (UI 0) (T 22)),P 33 (.ext (T 32) 1),P 34 (.ext (T 32) 0)] false) (.cond (T 33) (.seq (.reg [P 7 (.asg (T 34) none)] false) (.seq (.reg [M 35 0,⟨(some 36),(.nilck (T 35)),none,[0]⟩,⟨(some 37),(.fldA 0 (T 36)),none,[1]⟩,M 38 7,⟨(some 39),(.call (.c (.clo 35 [])) [(T 38),(C 10)]),none,[3]⟩] true) (.reg [P 40 (.call (.c (.clo 33 [])) [(T 37),(T 39)])] false))) (.seq (.reg [P 41 (.tas 9 (.str []) (T 22)),P 42 (.ext (T 41) 1),P 43 (.ext (T 41) 0)] false) (.cond (T 42) (.seq (.reg [P 8 (.asg (T 43) none)] false) (.reg [M 44 0,P 45 (.nilck (T 44)),P 46 (.fldA 0 (T 45)),M 47 8,P 48 (.call (.c (.clo 33 [])) [(T 46),(T 47)])] false)) .skip))))))))))) (.reg [P 49 (.bin .add (T 11) (C 1)),M 11 49] false))))))) (.reg [M 50 0,P 51 (.nilck (T 50)),P 52 (.fldA 0 (T 51)),P 53 (.call (.c (.clo 32 [])) [(T 52),(.c (.int .u8 10))])] false))
theorem AdX:(Tryd.f19.body.bind (SE Tryd.prog Tryd.f19.ntmps))=some Yr:=by kernel_rfl
theorem AdY:Tryd.f19.results.toList.mapM (Wp Tryd.prog)=some []:=by kernel_rfl

end
end Go.Proofs.YtcppfbhmhlhncaaDoor
