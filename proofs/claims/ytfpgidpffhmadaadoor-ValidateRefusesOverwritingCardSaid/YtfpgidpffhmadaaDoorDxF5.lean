/-
  Programs on typed data, and the proofs that the code does what they say; written by a program (dx.py).
-/
import Derived.Test.YtfpgidpffhmadaaDoorProg
import Derived.Test.YtfpgidpffhmadaaDoorDc
import Derived.KernelRfl
import Derived.Test.YtfpgidpffhmadaaDoorDxP
import Derived.Test.YtfpgidpffhmadaaDoorDxF3
import Derived.Test.YtfpgidpffhmadaaDoorDxF4
namespace Go.Proofs.YtfpgidpffhmadaaDoor
open Go Go.Dw Go.Proofs
set_option maxRecDepth 100000
open Go.Dw renaming Aak → mV,Yj → bN,Sn → lO,WN → bD,Ym → cK,Yo → nI,Yr → xS,Aam → rG,Aao → sQ,SI → aO,Yi → aS,Yp → oF,Yk → bL,Zb → bS,RN → cV,PM → cG,TK → cR,Aaj → aP,So → sV,ZO → sE,TX → iS,UB → iO,TY → lS,WT → lW,WO → fA,AbN → eX,UZ → lF,Vo → sP,QU → pT,Qp → pF,Aal → uN,Yn → nW,Yl → bX,SH → aN,Ys → cD,WR → bK,Aan → rT,Yv → sK,Yt → eT,Yq → xC,WQ → xL,SK → xR,VZ → lR,Vj → hE,QV → lE,RP → bH,Qq → bM,SJ → bR,RQ → xE,Yu → lP,TZ → sC,WS → bC,rf → r
def AfR : Ml:=(.seq (.reg [P 2 (.box (T 0) 5 57),⟨(some 4),(.asg (.c .nils) (some ⟨1,3⟩)),none,[]⟩] false) (.seq (.seq (.reg [P 8 (.ld 5 true (T 2)),P 9 (.call (.c (.clo 42 [])) [(T 8)]),M 7 9,P 10 (.ext (T 7) 0),P 11 (.ext (T 7) 1),P 5 (.asg (T 10) none),P 6 (.asg (T 11) none)] false) (.seq (.reg [M 12 6] false) (.cond (T 12) (.reg [M 13 1,M 14 5,P 15 (.call (.c (.clo 49 [])) [(T 13),(T 14)]),⟨(some 1),(.asg (T 15) (some ⟨1,3⟩)),none,[]⟩] false) .skip))) (.seq (.reg [M 16 1,P 17 (.ld 5 true (T 2)),P 18 (.call (.c (.clo 77 [])) [(T 17)]),P 19 (.call (.c (.clo 52 [])) [(T 16),(T 18)]),⟨(some 4),(.asg (T 19) (some ⟨1,3⟩)),none,[]⟩] false) .ret)))
theorem AiC : (Tryd.f53.body.bind (Mn Tryd.prog Tryd.f53.ntmps)) = some AfR:=by kernel_rfl
theorem AiD : Tryd.f53.results.toList.mapM (Mw Tryd.prog) = some [(.t 4)]:=by kernel_rfl
def YS (a : LS × (List Int)) : List D:=[LV a.1,.sl (a.2.map LR)]
def YR (ds : List D) : LS × (List Int):=(Sv (ds.getD 0 .top),(uL uI) (ds.getD 1 .top))
theorem ZL (a : LS × (List Int)) : YR (YS a) = a:=by simp [YR,YS,NF (u:=uI) (en:=LR) (fun _=>rfl)]
def AcF (b : (List Int)) : D:=.sl (b.map LR)
def AcE (_b : (List Int)) : List D:=[]
noncomputable def VL : Dw.Spec:=Mk [] (.row 1 3) YS YR (fun a=>UW a.1 a.2) AcF AcE
set_option maxHeartbeats 4000000 in
theorem Ack : Mi Tryd.prog 53 VL:=by
 refine Mu (Mo (l:=[(42,Rf),(49,Wx),(77,YT),(52,PS)]) (by simp [YQ,AcD,Adq,WA])) Tryd.func53 (by decide) AiC AiD (np:=2) (by decide) ZL (fun _=>r) (fun _=>r) (by decide)<|?_
 rintro ⟨x1,out2⟩
 show TrE (specs [(42,Rf),(49,Wx),(77,YT),(52,PS)]) AfR (Mx [] (.row 1 3) [(.t 4)] AcF AcE) ⟨[(0,.agg [.int .i64 x1.Op,.int .i64 x1.A,.int .i64 x1.B,.int .i64 x1.C,.int .u64 x1.Imm]),(1,.sl (out2.map LR))],[],262144⟩ (UW x1 out2)
 refine Mp<|?_
 unfold AfR UW
 refine sQ<|rG<|bX r r r r r<|aN (α:=Int) r LR r<|nI<|xS<|sQ<|sQ<|rG<|lO (v:=.agg [.int .i64 x1.Op,.int .i64 x1.A,.int .i64 x1.B,.int .i64 x1.C,.int .u64 x1.Imm]) (z:=.agg [.int .i64 x1.Op,.int .i64 x1.A,.int .i64 x1.B,.int .i64 x1.C,.int .u64 x1.Imm]) r r r r r r<|bD fun r3 hr3=>cG x1 r r r UU r r (by simp) r hr3 r<|mV r r<|eX (v:=.int .i64 r3.1) r r r<|eX (v:=.bool r3.2) r r r<|aS r r<|aS r r<|nI<|xS<|sQ<|rG<|mV r r<|nI<|xS<|cD (c:=r3.2) r ?_ ?_
 ·refine rG<|mV r r<|mV r r<|bD fun r4 hr4=>cR (l:=r4) (en:=LR) (out2,r3.1) r r r Zs r r (by simp) r hr4 r<|aO (l:=r4) (en:=LR) r r r r<|nI<|xS<|sQ<|rG<|mV r r<|lO (v:=.agg [.int .i64 x1.Op,.int .i64 x1.A,.int .i64 x1.B,.int .i64 x1.C,.int .u64 x1.Imm]) (z:=.agg [.int .i64 x1.Op,.int .i64 x1.A,.int .i64 x1.B,.int .i64 x1.C,.int .u64 x1.Imm]) r r r r r r<|bD fun r5 hr5=>cR (l:=r5) (en:=LR) x1 r r r XA r r (by simp) r hr5 r<|bD fun r6 hr6=>cR (l:=r6) (en:=LR) (r4,r5) r r r RJ r r (by simp) (by first | rfl | (simp only [Mt,Mz]; rfl) | simp [OR]) hr6 r<|aO (l:=r6) (en:=LR) r r r r<|nI<|xS<|rT<|MA (b:=r6) r ?_ r r ?_ r ?_ (congrArg D.sl (Md _ _ r)) r
  all_goals first|(simp;done)|(simp;omega)|rfl|(simp [Ma,LZ];done)
 ·refine sK<|xS<|sQ<|rG<|mV r r<|lO (v:=.agg [.int .i64 x1.Op,.int .i64 x1.A,.int .i64 x1.B,.int .i64 x1.C,.int .u64 x1.Imm]) (z:=.agg [.int .i64 x1.Op,.int .i64 x1.A,.int .i64 x1.B,.int .i64 x1.C,.int .u64 x1.Imm]) r r r r r r<|bD fun r7 hr7=>cR (l:=r7) (en:=LR) x1 r r r XA r r (by simp) r hr7 r<|bD fun r8 hr8=>cR (l:=r8) (en:=LR) (out2,r7) r r r RJ r r (by simp) (by first | rfl | (simp only [Mt,Mz]; rfl) | simp [OR]) hr8 r<|aO (l:=r8) (en:=LR) r r r r<|nI<|xS<|rT<|MA (b:=r8) r ?_ r r ?_ r ?_ (congrArg D.sl (Md _ _ r)) r
  all_goals first|(simp;done)|(simp;omega)|rfl|(simp [Ma,LZ];done)

def Afz : Ml:=(.seq (.reg [P 2 (.box (T 0) 3 33),P 3 (.box (T 1) 1 37),P 4 (.new (.agg [.nils]) 1 37)] false) (.seq (.reg [P 10 (.fldA 2 (T 2)),P 11 (.ld 1 false (T 10)),P 12 (.len false (T 11)),P 13 (.mkS 1 42 24 .nils (T 12) (T 12)),⟨(some 14),(.bld [.nils] [⟨0,⟨1,(T 13)⟩⟩]),none,[]⟩,P 5 (.new (.agg [.nils]) 1 37),⟨none,(.st 1 (T 5) (T 14)),none,[]⟩] false) (.seq (.seq (.reg [P 6 (.asg (C 0) none)] false) (.block 0 (.loop (.seq (.seq (.reg [M 15 6,P 16 (.fldA 2 (T 2)),P 17 (.ld 1 false (T 16)),P 18 (.len false (T 17)),P 19 (.bin .lss (T 15) (T 18))] false) (.cond (T 19) .skip (.exit 0))) (.seq (.block 1 (.seq (.reg [P 22 (.ld 3 true (T 2)),M 23 6,P 24 (.call (.c (.clo 51 [])) [(T 22),(T 23)]),⟨(some 7),(.asg (T 24) (some ⟨1,3⟩)),none,[]⟩] false) (.seq (.reg [P 8 (.asg (C 0) none)] false) (.block 2 (.loop (.seq (.seq (.reg [M 25 8,M 26 7,P 27 (.len false (T 26)),P 28 (.bin .lss (T 25) (T 27))] false) (.cond (T 28) .skip (.exit 2))) (.seq (.block 3 (.seq (.reg [M 31 7,M 32 8,P 33 (.ixA 1 (T 31) (T 32)),P 34 (.ld 1 false (T 33)),P 9 (.asg (T 34) none)] false) (.reg [P 35 (.fldA 0 (T 5)),⟨(some 36),(.ld 1 false (T 35)),none,[0]⟩,M 37 6,P 38 (.fldA 0 (T 5)),⟨(some 39),(.ld 1 false (T 38)),none,[3]⟩,M 40 6,⟨(some 41),(.ixA 1 (T 39) (T 40)),none,[4,5]⟩,⟨(some 42),(.ld 1 false (T 41)),none,[6]⟩,P 43 (.fldA 2 (T 2)),⟨(some 44),(.ld 1 false (T 43)),none,[8]⟩,M 45 9,⟨(some 46),(.ixA 5 (T 44) (T 45)),none,[9,10]⟩,⟨(some 47),(.ld 5 true (T 46)),none,[11]⟩,P 48 (.fldA 0 (T 3)),⟨(some 49),(.ld 1 false (T 48)),none,[13]⟩,M 50 9,⟨(some 51),(.ixA 1 (T 49) (T 50)),none,[14,15]⟩,⟨(some 52),(.ld 1 false (T 51)),none,[16]⟩,⟨(some 53),(.call (.c (.clo 53 [])) [(T 47),(T 52)]),none,[12,17]⟩,⟨(some 54),(.call (.c (.clo 52 [])) [(T 42),(T 53)]),none,[7,18,18]⟩,⟨(some 55),(.ixA 1 (T 36) (T 37)),none,[1,2,0,1,2,3,4,5,6,7,8,9,10,11,12,13,14,15,16,17,18,19]⟩,⟨none,(.st 1 (T 55) (T 54)),none,[20,19,19,0,1,2,3,4,5,6,7,8,9,10,11,12,13,14,15,16,17,18,19]⟩] true))) (.reg [M 29 8,P 30 (.bin .add (T 29) (C 1)),P 8 (.asg (T 30) none)] false)))))))) (.reg [M 20 6,P 21 (.bin .add (T 20) (C 1)),P 6 (.asg (T 21) none)] false)))))) (.seq (.reg [P 56 (.ld 1 true (T 5)),⟨none,(.st 1 (T 4) (T 56)),none,[]⟩] false) .ret))))
theorem AhS : (Tryd.f28.body.bind (Mn Tryd.prog Tryd.f28.ntmps)) = some Afz:=by kernel_rfl
theorem AhT : Tryd.f28.results.toList.mapM (Mw Tryd.prog) = some [(.c 4 1 true)]:=by kernel_rfl
def WL (a : LX × Me) : List D:=[MF a.1,Nl a.2]
def WK (ds : List D) : LX × Me:=(NJ (ds.getD 0 .top),Pb (ds.getD 1 .top))
theorem AaS (a : LX × Me) : WK (WL a) = a:=by simp [WK,WL]
def YV (b : Me) : D:=Nl b
def AbE (_b : Me) : List D:=[]
noncomputable def YW : Dw.Spec:=Mk [] .val WL WK (fun a=>TS a.1 a.2) YV AbE
set_option maxHeartbeats 4000000 in
theorem Ads : Mi Tryd.prog 28 YW:=by
 refine Mu (Mo (l:=[(51,TG),(53,VL),(52,PS)]) (by simp [AaO,Ack,WA])) Tryd.func28 (by decide) AhS AhT (np:=2) (by decide) AaS (fun _=>r) (fun _=>r) (by decide)<|?_
 rintro ⟨f1,l2⟩
 show TrE (specs [(51,TG),(53,VL),(52,PS)]) Afz (Mx [] .val [(.c 4 1 true)] YV AbE) ⟨[(0,.agg [.int .i64 f1.Params,.sl (f1.Slots.map LY),.sl (f1.Code.map LV)]),(1,.agg [.sl (l2.Out.map (eL LR))])],[],262144⟩ (TS f1 l2)
 refine Mp<|?_
 unfold Afz TS
 refine sQ<|rG<|bX r r r r r<|bX r r r r r<|nW r<|nI<|xS<|sQ<|rG<|fA r r<|lO (v:=.sl (f1.Code.map LV)) (z:=.agg [.int .i64 f1.Params,.sl (f1.Slots.map LY),.sl (f1.Code.map LV)]) r r r r r r<|lS r r<|cK fun hq=>ZN (α:=Int) r r r hq r<|bL (cs:=[.osl 13 _ 0 ((List.replicate (f1.Code.length : Int).toNat ([] : (List Int))).length)]) (ps:=[(0,1,.osl 13 _ 0 ((List.replicate (f1.Code.length : Int).toNat ([] : (List Int))).length))]) r r r r<|nW r<|sV (z':=.agg [.osl 13 _ 0 ((List.replicate (f1.Code.length : Int).toNat ([] : (List Int))).length)]) r r r r r r r r r<|nI<|Qj (E:=[(2,.optr 2 _ 0 0),(3,.optr 3 _ 0 0),(4,.optr 4 _ 0 0),(5,.optr 5 _ 0 0)]) (O:=[(2,some (_,⟨false,true,3,33,[.agg [.int .i64 f1.Params,.sl (f1.Slots.map LY),.sl (f1.Code.map LV)]]⟩)),(3,some (_,⟨false,true,1,37,[.agg [.sl (l2.Out.map (eL LR))]]⟩)),(4,some (_,⟨false,true,1,37,[.agg [.nils]]⟩)),(5,some (_,⟨false,true,1,37,[.agg [.osl 13 _ 0 ((List.replicate (f1.Code.length : Int).toNat ([] : (List Int))).length)]]⟩)),(13,some (_,⟨false,false,1,42,(List.replicate (f1.Code.length : Int).toNat ([] : (List Int))).map (eL LR)⟩))]) ((Abn (g:=13) r (Acq (l:=List.replicate (f1.Code.length : Int).toNat ([] : (List Int))) LR (fun _ h=>List.eq_of_mem_replicate h)) (hE ⟨rfl,r,r,r,trivial⟩ ⟨rfl,r,r,r,r,trivial⟩))) fun nn=>sQ<|sQ<|rG<|aS r r<|nI<|xS<|bK<|lP (E:=fun (s : (List (List Int)) × Int) (g : Nat × Nat × Nat × Nat × Nat)=>[(2,.optr 2 g.1 0 0),(3,.optr 3 g.2.1 0 0),(4,.optr 4 g.2.2.1 0 0),(5,.optr 5 g.2.2.2.1 0 0),(6,.int .i64 s.2)]) (O:=fun s g=>[(2,some (g.1,⟨false,true,3,33,[.agg [.int .i64 f1.Params,.sl (f1.Slots.map LY),.sl (f1.Code.map LV)]]⟩)),(3,some (g.2.1,⟨false,true,1,37,[.agg [.sl (l2.Out.map (eL LR))]]⟩)),(4,some (g.2.2.1,⟨false,true,1,37,[.agg [.nils]]⟩)),(5,some (g.2.2.2.1,⟨false,true,1,37,[.agg [.osl 13 g.2.2.2.2 0 s.1.length]]⟩)),(13,some (g.2.2.2.2,⟨false,false,1,42,s.1.map (eL LR)⟩))]) (body:=fun s=>QQ f1 l2 s.1 s.2) (s:=(List.replicate (f1.Code.length : Int).toNat ([] : (List Int)),0)) (_,_,_,_,_) ((hE ⟨rfl,r,r,r,r,trivial⟩ ⟨rfl,r,r,r,r,trivial⟩))<|?_
 rintro ⟨x3,k4⟩ ⟨v2x1,v3x1,v4x1,v5x1,v13x1⟩ nn
 try dsimp only
 unfold QQ
 refine sQ<|sQ<|rG<|mV r r<|fA r r<|lO (v:=.sl (f1.Code.map LV)) (z:=.agg [.int .i64 f1.Params,.sl (f1.Slots.map LY),.sl (f1.Code.map LV)]) r r r r r r<|lS r r<|bN (v:=.bool (decide (k4 < (f1.Code.length : Int)))) r r r r r<|nI<|xS<|cD (c:=(decide (k4 < (f1.Code.length : Int)))) r ?_ ?_
 ·refine sK<|xS<|bC (E:=fun (s : (List (List Int))) (g : Nat × Nat × Nat × Nat × Nat)=>[(2,.optr 2 g.1 0 0),(3,.optr 3 g.2.1 0 0),(4,.optr 4 g.2.2.1 0 0),(5,.optr 5 g.2.2.2.1 0 0),(6,.int .i64 k4)]) (O:=fun s g=>[(2,some (g.1,⟨false,true,3,33,[.agg [.int .i64 f1.Params,.sl (f1.Slots.map LY),.sl (f1.Code.map LV)]]⟩)),(3,some (g.2.1,⟨false,true,1,37,[.agg [.sl (l2.Out.map (eL LR))]]⟩)),(4,some (g.2.2.1,⟨false,true,1,37,[.agg [.nils]]⟩)),(5,some (g.2.2.2.1,⟨false,true,1,37,[.agg [.osl 13 g.2.2.2.2 0 s.length]]⟩)),(13,some (g.2.2.2.2,⟨false,false,1,42,s.map (eL LR)⟩))]) (j:=fun s=>UG k4 s) ?_ ?_
  ·refine sQ<|rG<|lO (v:=.agg [.int .i64 f1.Params,.sl (f1.Slots.map LY),.sl (f1.Code.map LV)]) (z:=.agg [.int .i64 f1.Params,.sl (f1.Slots.map LY),.sl (f1.Code.map LV)]) r r r r r r<|mV r r<|bD fun r6 hr6=>cR (l:=r6) (en:=LR) (f1,k4) r r r Xz r r (by simp) r hr6 r<|aO (l:=r6) (en:=LR) r r r r<|nI<|xS<|sQ<|rG<|aS r r<|nI<|xS<|bK<|lP (E:=fun (s : (List (List Int)) × Int) (g : Nat × Nat × Nat × Nat × Nat × Nat)=>[(2,.optr 2 g.1 0 0),(3,.optr 3 g.2.1 0 0),(4,.optr 4 g.2.2.1 0 0),(5,.optr 5 g.2.2.2.1 0 0),(6,.int .i64 k4),(7,.osl 7 g.2.2.2.2.1 0 r6.length),(8,.int .i64 s.2)]) (O:=fun s g=>[(2,some (g.1,⟨false,true,3,33,[.agg [.int .i64 f1.Params,.sl (f1.Slots.map LY),.sl (f1.Code.map LV)]]⟩)),(3,some (g.2.1,⟨false,true,1,37,[.agg [.sl (l2.Out.map (eL LR))]]⟩)),(4,some (g.2.2.1,⟨false,true,1,37,[.agg [.nils]]⟩)),(5,some (g.2.2.2.1,⟨false,true,1,37,[.agg [.osl 13 g.2.2.2.2.2 0 s.1.length]]⟩)),(7,some (g.2.2.2.2.1,⟨false,false,1,3,r6.map LR⟩)),(13,some (g.2.2.2.2.2,⟨false,false,1,42,s.1.map (eL LR)⟩))]) (body:=fun s=>QS r6 k4 f1 l2 s.1 s.2) (s:=(x3,0)) (_,_,_,_,_,_) ((hE ⟨rfl,r,r,r,r,r,r,trivial⟩ ⟨rfl,r,r,r,r,r,trivial⟩))<|?_
   rintro ⟨x7,i8⟩ ⟨v2x2,v3x2,v4x2,v5x2,v7x2,v13x2⟩ nn
   try dsimp only
   unfold QS
   refine sQ<|sQ<|rG<|mV r r<|mV r r<|lW r r<|bN (v:=.bool (decide (i8 < (r6.length : Int)))) r r r r r<|nI<|xS<|cD (c:=(decide (i8 < (r6.length : Int)))) r ?_ ?_
   ·exact sK<|xS<|sQ<|bK<|sQ<|rG<|mV r r<|mV r r<|cK fun hq=>iO (l:=r6) (en:=LR) r r r r r hq<|bD fun next_e9 hnext_e9=>lO (v:=.int .i64 next_e9) (z:=LR next_e9) r r r (OU hnext_e9) r r<|aS r r<|nI<|xS<|rG<|fA r r<|lO (v:=.osl 13 _ 0 x7.length) (z:=.agg [.osl 13 _ 0 x7.length]) r r r r r r<|mV r r<|fA r r<|lO (v:=.osl 13 _ 0 x7.length) (z:=.agg [.osl 13 _ 0 x7.length]) r r r r r r<|mV r r<|cK fun hq=>iO (l:=x7) (en:=(eL LR)) r r r r r hq<|bD fun x_e10 hx_e10=>lO (v:=.sl (x_e10.map LR)) (z:=(eL LR) x_e10) r r r (OU hx_e10) r r<|fA r r<|lO (v:=.sl (f1.Code.map LV)) (z:=.agg [.int .i64 f1.Params,.sl (f1.Slots.map LY),.sl (f1.Code.map LV)]) r r r r r r<|mV r r<|bD fun x_x11 hx_x11=>iS (en:=LV) r r r hx_x11 r<|lF (v:=.agg [.int .i64 x_x11.Op,.int .i64 x_x11.A,.int .i64 x_x11.B,.int .i64 x_x11.C,.int .u64 x_x11.Imm]) r r r r<|fA r r<|lO (v:=.sl (l2.Out.map (eL LR))) (z:=.agg [.sl (l2.Out.map (eL LR))]) r r r r r r<|mV r r<|bD fun x_x12 hx_x12=>iS (en:=(eL LR)) r r r hx_x12 r<|lF (v:=.sl (x_x12.map LR)) r r r r<|bD fun r13 hr13=>cR (l:=r13) (en:=LR) (x_x11,x_x12) r r r ZL r r (by simp) r hr13 r<|bD fun r14 hr14=>cR (l:=r14) (en:=LR) (x_e10,r13) r r r RJ r r (by simp) (by first | rfl | (simp only [Mt,Mz]; rfl) | simp [OR]) hr14 r<|cK fun hq=>iO (l:=x7) (en:=(eL LR)) r r r r r hq<|bD fun x_o15 hx_o15=>sE (l:=x7) (en:=(eL LR)) (q':=r14) r r r r r r r (by simp) hx_o15 r r r (by simp [MK,cells,setAt,eL]) r<|Mj (by kernel_rfl)<|bM<|xS<|rG<|mV r r<|bN (v:=.int .i64 (IntKind.i64.wrap (i8 + 1))) r r r r r<|aS r r<|nI<|xL (s:=(x7.set k4.toNat r14,IntKind.i64.wrap (i8 + 1))) (_,_,_,_,_,_) ((hE ⟨rfl,r,r,r,r,r,r,trivial⟩ ⟨rfl,r,r,(Eq.trans (b:=some (_,⟨false,true,1,37,[.agg [.osl 13 _ 0 x7.length]]⟩)) r (by simp)),r,r,trivial⟩))
   ·exact eT<|xE<|lE<|bH<|PN (s:=x7) (_,_,_,_,_) ((hE ⟨rfl,r,r,r,r,trivial⟩ ⟨rfl,r,r,r,r,trivial⟩))
  ·rintro x5 ⟨v2x3,v3x3,v4x3,v5x3,v13x3⟩ nn
   try dsimp only
   unfold UG
   exact rG<|mV r r<|bN (v:=.int .i64 (IntKind.i64.wrap (k4 + 1))) r r r r r<|aS r r<|nI<|xL (s:=(x5,IntKind.i64.wrap (k4 + 1))) (_,_,_,_,_) ((hE ⟨rfl,r,r,r,r,trivial⟩ ⟨rfl,r,r,r,r,trivial⟩))
 ·refine eT<|xE<|lE<|bH<|xS<|sQ<|rG<|lO (v:=.agg [.osl 13 _ 0 x3.length]) (z:=.agg [.osl 13 _ 0 x3.length]) r r r r r r<|sV (z':=.agg [.osl 13 _ 0 x3.length]) r r r r r r r r r<|nI<|xS<|rT<|Ng (b:=(Me.mk x3)) r ?_ r r ?_ (by first | rfl | (simp only [Mt,Mz]; rfl) | simp [YV,Nl])
  all_goals first|(simp;done)|(simp;omega)|rfl|(simp [Ma,LZ];done)

def Agk : Ml:=(.seq (.reg [P 4 (.asg (.c (.bool false)) none)] false) (.seq (.seq (.reg [M 6 0,P 7 (.len false (T 6)),M 8 1,P 9 (.len false (T 8)),P 10 (.bin .neq (T 7) (T 9))] false) (.cond (T 10) (.seq (.reg [P 4 (.asg (.c (.bool false)) none)] false) .ret) .skip)) (.seq (.seq (.reg [P 5 (.asg (C 0) none)] false) (.block 0 (.loop (.seq (.seq (.reg [M 11 5,M 12 0,P 13 (.len false (T 12)),P 14 (.bin .lss (T 11) (T 13))] false) (.cond (T 14) .skip (.exit 0))) (.seq (.block 1 (.seq (.reg [M 17 0,M 18 5,⟨(some 19),(.ixA 1 (T 17) (T 18)),none,[0,1]⟩,⟨(some 20),(.ld 1 false (T 19)),none,[2]⟩,M 21 1,M 22 5,⟨(some 23),(.ixA 1 (T 21) (T 22)),none,[4,5]⟩,⟨(some 24),(.ld 1 false (T 23)),none,[6]⟩,⟨(some 25),(.bin .neq (T 20) (T 24)),none,[3,7]⟩] true) (.cond (T 25) (.seq (.reg [P 4 (.asg (.c (.bool false)) none)] false) .ret) .skip))) (.reg [M 15 5,P 16 (.bin .add (T 15) (C 1)),P 5 (.asg (T 16) none)] false)))))) (.seq (.reg [P 4 (.asg (.c (.bool true)) none)] false) .ret))))
theorem Ajo : (Tryd.f78.body.bind (Mn Tryd.prog Tryd.f78.ntmps)) = some Agk:=by kernel_rfl
theorem Ajp : Tryd.f78.results.toList.mapM (Mw Tryd.prog) = some [(.t 4)]:=by kernel_rfl
def Wz (a : (List Int) × (List Int)) : List D:=[.sl (a.1.map LR),.sl (a.2.map LR)]
def Wy (ds : List D) : (List Int) × (List Int):=((uL uI) (ds.getD 0 .top),(uL uI) (ds.getD 1 .top))
theorem AaK (a : (List Int) × (List Int)) : Wy (Wz a) = a:=by simp [Wy,Wz,NF (u:=uI) (en:=LR) (fun _=>rfl)]
def Abu (b : Bool) : D:=.bool b
def Abt (_b : Bool) : List D:=[]
noncomputable def YP : Dw.Spec:=Mk [] .ground Wz Wy (fun a=>TP a.1 a.2) Abu Abt
set_option maxHeartbeats 4000000 in
theorem Adp : Mi Tryd.prog 78 YP:=by
 refine Mu (Nn) Tryd.func78 (by decide) Ajo Ajp (np:=2) (by decide) AaK (fun _=>r) (fun _=>r) (by decide)<|?_
 rintro ⟨a1,b2⟩
 show TrE (specs []) Agk (Mx [] .ground [(.t 4)] Abu Abt) ⟨[(0,.sl (a1.map LR)),(1,.sl (b2.map LR))],[],262144⟩ (TP a1 b2)
 refine Mp<|?_
 unfold Agk TP
 refine sQ<|rG<|aS r r<|nI<|xS<|sQ<|sQ<|rG<|mV r r<|lS r r<|mV r r<|lS r r<|bN (v:=.bool ((a1.length : Int) != (b2.length : Int))) r r r r r<|nI<|xS<|cD (c:=((a1.length : Int) != (b2.length : Int))) r ?_ ?_
 ·refine sQ<|rG<|aS r r<|nI<|xS<|rT<|xR<|Mf (b:=false) r ?_ r r ?_ r
  all_goals first|(simp;done)|(simp;omega)|rfl|(simp [Ma,LZ];done)
 ·refine sK<|xS<|sQ<|sQ<|rG<|aS r r<|nI<|xS<|bK<|lP (E:=fun (s : Int) (g : Unit)=>[(0,.sl (a1.map LR)),(1,.sl (b2.map LR)),(5,.int .i64 s)]) (O:=fun s g=>[]) (body:=fun s=>PR a1 b2 s) (s:=0) () ((hE ⟨rfl,r,r,trivial⟩ trivial))<|?_
  rintro i3 ⟨⟩ nn
  try dsimp only
  unfold PR
  refine sQ<|sQ<|rG<|mV r r<|mV r r<|lS r r<|bN (v:=.bool (decide (i3 < (a1.length : Int)))) r r r r r<|nI<|xS<|cD (c:=(decide (i3 < (a1.length : Int)))) r ?_ ?_
  ·refine sK<|xS<|sQ<|bK<|sQ<|rG<|mV r r<|mV r r<|bD fun x_x4 hx_x4=>iS (en:=LR) r r r hx_x4 r<|lF (v:=.int .i64 x_x4) r r r r<|mV r r<|mV r r<|bD fun x_x5 hx_x5=>iS (en:=LR) r r r hx_x5 r<|lF (v:=.int .i64 x_x5) r r r r<|bN (v:=.bool (x_x4 != x_x5)) r r r r r<|Mj (by kernel_rfl)<|xS<|cD (c:=(x_x4 != x_x5)) r ?_ ?_
   ·refine sQ<|rG<|aS r r<|nI<|xS<|rT<|bR<|xR<|lR<|bR<|xR<|Mf (b:=false) r ?_ r r ?_ r
    all_goals first|(simp;done)|(simp;omega)|rfl|(simp [Ma,LZ];done)
   ·exact sK<|bM<|xS<|rG<|mV r r<|bN (v:=.int .i64 (IntKind.i64.wrap (i3 + 1))) r r r r r<|aS r r<|nI<|xL (s:=IntKind.i64.wrap (i3 + 1)) () ((hE ⟨rfl,r,r,trivial⟩ trivial))
  ·refine eT<|xE<|lE<|bH<|xS<|sQ<|rG<|aS r r<|nI<|xS<|rT<|Mf (b:=true) r ?_ r r ?_ r
   all_goals first|(simp;done)|(simp;omega)|rfl|(simp [Ma,LZ];done)

def AfS : Ml:=(.seq (.reg [P 4 (.asg (.c (.bool false)) none)] false) (.seq (.seq (.reg [M 6 0,P 7 (.len false (T 6)),M 8 1,P 9 (.len false (T 8)),P 10 (.bin .neq (T 7) (T 9))] false) (.cond (T 10) (.seq (.reg [P 4 (.asg (.c (.bool false)) none)] false) .ret) .skip)) (.seq (.seq (.reg [P 5 (.asg (C 0) none)] false) (.block 0 (.loop (.seq (.seq (.reg [M 11 5,M 12 0,P 13 (.len false (T 12)),P 14 (.bin .lss (T 11) (T 13))] false) (.cond (T 14) .skip (.exit 0))) (.seq (.block 1 (.seq (.reg [M 17 0,M 18 5,⟨(some 19),(.ixA 1 (T 17) (T 18)),none,[0,1]⟩,⟨(some 20),(.ld 1 false (T 19)),none,[2]⟩,M 21 1,M 22 5,⟨(some 23),(.ixA 1 (T 21) (T 22)),none,[4,5]⟩,⟨(some 24),(.ld 1 false (T 23)),none,[6]⟩,⟨(some 25),(.call (.c (.clo 78 [])) [(T 20),(T 24)]),none,[3,7]⟩,⟨(some 26),(.un .not (T 25)),none,[8]⟩] true) (.cond (T 26) (.seq (.reg [P 4 (.asg (.c (.bool false)) none)] false) .ret) .skip))) (.reg [M 15 5,P 16 (.bin .add (T 15) (C 1)),P 5 (.asg (T 16) none)] false)))))) (.seq (.reg [P 4 (.asg (.c (.bool true)) none)] false) .ret))))
theorem AiE : (Tryd.f54.body.bind (Mn Tryd.prog Tryd.f54.ntmps)) = some AfS:=by kernel_rfl
theorem AiF : Tryd.f54.results.toList.mapM (Mw Tryd.prog) = some [(.t 4)]:=by kernel_rfl
def Uo (a : (List (List Int)) × (List (List Int))) : List D:=[.sl (a.1.map (eL LR)),.sl (a.2.map (eL LR))]
def Un (ds : List D) : (List (List Int)) × (List (List Int)):=((uL (uL uI)) (ds.getD 0 .top),(uL (uL uI)) (ds.getD 1 .top))
theorem YO (a : (List (List Int)) × (List (List Int))) : Un (Uo a) = a:=by simp [Un,Uo,NF (u:=(uL uI)) (en:=(eL LR)) (NF (u:=uI) (en:=LR) (fun _=>rfl))]
def Zu (b : Bool) : D:=.bool b
def Zt (_b : Bool) : List D:=[]
noncomputable def VJ : Dw.Spec:=Mk [] .ground Uo Un (fun a=>QP a.1 a.2) Zu Zt
set_option maxHeartbeats 4000000 in
theorem Acr : Mi Tryd.prog 54 VJ:=by
 refine Mu (Mo (l:=[(78,YP)]) (by simp [Adp])) Tryd.func54 (by decide) AiE AiF (np:=2) (by decide) YO (fun _=>r) (fun _=>r) (by decide)<|?_
 rintro ⟨a1,b2⟩
 show TrE (specs [(78,YP)]) AfS (Mx [] .ground [(.t 4)] Zu Zt) ⟨[(0,.sl (a1.map (eL LR))),(1,.sl (b2.map (eL LR)))],[],262144⟩ (QP a1 b2)
 refine Mp<|?_
 unfold AfS QP
 refine sQ<|rG<|aS r r<|nI<|xS<|sQ<|sQ<|rG<|mV r r<|lS r r<|mV r r<|lS r r<|bN (v:=.bool ((a1.length : Int) != (b2.length : Int))) r r r r r<|nI<|xS<|cD (c:=((a1.length : Int) != (b2.length : Int))) r ?_ ?_
 ·refine sQ<|rG<|aS r r<|nI<|xS<|rT<|xR<|Mf (b:=false) r ?_ r r ?_ r
  all_goals first|(simp;done)|(simp;omega)|rfl|(simp [Ma,LZ];done)
 ·refine sK<|xS<|sQ<|sQ<|rG<|aS r r<|nI<|xS<|bK<|lP (E:=fun (s : Int) (g : Unit)=>[(0,.sl (a1.map (eL LR))),(1,.sl (b2.map (eL LR))),(5,.int .i64 s)]) (O:=fun s g=>[]) (body:=fun s=>Ou a1 b2 s) (s:=0) () ((hE ⟨rfl,r,r,trivial⟩ trivial))<|?_
  rintro i3 ⟨⟩ nn
  try dsimp only
  unfold Ou
  refine sQ<|sQ<|rG<|mV r r<|mV r r<|lS r r<|bN (v:=.bool (decide (i3 < (a1.length : Int)))) r r r r r<|nI<|xS<|cD (c:=(decide (i3 < (a1.length : Int)))) r ?_ ?_
  ·refine sK<|xS<|sQ<|bK<|sQ<|rG<|mV r r<|mV r r<|bD fun x_x4 hx_x4=>iS (en:=(eL LR)) r r r hx_x4 r<|lF (v:=.sl (x_x4.map LR)) r r r r<|mV r r<|mV r r<|bD fun x_x5 hx_x5=>iS (en:=(eL LR)) r r r hx_x5 r<|lF (v:=.sl (x_x5.map LR)) r r r r<|bD fun r6 hr6=>cG (x_x4,x_x5) r r r AaK r r (by simp) r hr6 r<|uN (w:=.bool (!r6)) r r r r trivial<|Mj (by kernel_rfl)<|xS<|cD (c:=(!r6)) r ?_ ?_
   ·refine sQ<|rG<|aS r r<|nI<|xS<|rT<|bR<|xR<|lR<|bR<|xR<|Mf (b:=false) r ?_ r r ?_ r
    all_goals first|(simp;done)|(simp;omega)|rfl|(simp [Ma,LZ];done)
   ·exact sK<|bM<|xS<|rG<|mV r r<|bN (v:=.int .i64 (IntKind.i64.wrap (i3 + 1))) r r r r r<|aS r r<|nI<|xL (s:=IntKind.i64.wrap (i3 + 1)) () ((hE ⟨rfl,r,r,trivial⟩ trivial))
  ·refine eT<|xE<|lE<|bH<|xS<|sQ<|rG<|aS r r<|nI<|xS<|rT<|Mf (b:=true) r ?_ r r ?_ r
   all_goals first|(simp;done)|(simp;omega)|rfl|(simp [Ma,LZ];done)

def AfA : Ml:=(.seq (.reg [P 2 (.box (T 0) 1 37),P 3 (.box (T 1) 1 37),P 4 (.asg (.c (.bool false)) none)] false) (.seq (.reg [P 5 (.fldA 0 (T 2)),P 6 (.ld 1 false (T 5)),P 7 (.fldA 0 (T 3)),P 8 (.ld 1 false (T 7)),P 9 (.call (.c (.clo 54 [])) [(T 6),(T 8)]),P 4 (.asg (T 9) none)] false) .ret))
theorem AhU : (Tryd.f29.body.bind (Mn Tryd.prog Tryd.f29.ntmps)) = some AfA:=by kernel_rfl
theorem AhV : Tryd.f29.results.toList.mapM (Mw Tryd.prog) = some [(.t 4)]:=by kernel_rfl
def WJ (a : Me × Me) : List D:=[Nl a.1,Nl a.2]
def WI (ds : List D) : Me × Me:=(Pb (ds.getD 0 .top),Pb (ds.getD 1 .top))
theorem AaP (a : Me × Me) : WI (WJ a) = a:=by simp [WI,WJ]
def AbD (b : Bool) : D:=.bool b
def AbC (_b : Bool) : List D:=[]
noncomputable def YU : Dw.Spec:=Mk [] .ground WJ WI (fun a=>TQ a.1 a.2) AbD AbC
set_option maxHeartbeats 4000000 in
theorem Adr : Mi Tryd.prog 29 YU:=by
 refine Mu (Mo (l:=[(54,VJ)]) (by simp [Acr])) Tryd.func29 (by decide) AhU AhV (np:=2) (by decide) AaP (fun _=>r) (fun _=>r) (by decide)<|?_
 rintro ⟨a1,b2⟩
 show TrE (specs [(54,VJ)]) AfA (Mx [] .ground [(.t 4)] AbD AbC) ⟨[(0,.agg [.sl (a1.Out.map (eL LR))]),(1,.agg [.sl (b2.Out.map (eL LR))])],[],262144⟩ (TQ a1 b2)
 refine Mp<|?_
 unfold AfA TQ
 refine sQ<|rG<|bX r r r r r<|bX r r r r r<|aS r r<|nI<|xS<|sQ<|rG<|fA r r<|lO (v:=.sl (a1.Out.map (eL LR))) (z:=.agg [.sl (a1.Out.map (eL LR))]) r r r r r r<|fA r r<|lO (v:=.sl (b2.Out.map (eL LR))) (z:=.agg [.sl (b2.Out.map (eL LR))]) r r r r r r<|bD fun r3 hr3=>cG (a1.Out,b2.Out) r r r YO r r (by simp) r hr3 r<|aS r r<|nI<|xS<|rT<|Mf (b:=r3) r ?_ r r ?_ r
 all_goals first|(simp;done)|(simp;omega)|rfl|(simp [Ma,LZ];done)

def Afr : Ml:=(.seq (.reg [P 1 (.box (T 0) 3 33),P 2 (.new (.agg [.nils]) 1 37)] false) (.seq (.reg [P 5 (.fldA 2 (T 1)),P 6 (.ld 1 false (T 5)),P 7 (.len false (T 6)),P 8 (.mkS 1 42 24 .nils (T 7) (T 7)),⟨(some 9),(.bld [.nils] [⟨0,⟨1,(T 8)⟩⟩]),none,[]⟩,P 3 (.new (.agg [.nils]) 1 37),⟨none,(.st 1 (T 3) (T 9)),none,[]⟩] false) (.block 0 (.loop (.block 1 (.seq (.reg [P 10 (.ld 3 true (T 1)),P 11 (.ld 1 true (T 3)),P 12 (.call (.c (.clo 28 [])) [(T 10),(T 11)]),P 4 (.new (.agg [.nils]) 1 37),⟨none,(.st 1 (T 4) (T 12)),none,[]⟩] false) (.seq (.seq (.reg [P 13 (.ld 1 true (T 4)),P 14 (.ld 1 true (T 3)),P 15 (.call (.c (.clo 29 [])) [(T 13),(T 14)])] false) (.cond (T 15) (.seq (.reg [P 16 (.ld 1 true (T 3)),⟨none,(.st 1 (T 2) (T 16)),none,[]⟩] false) .ret) .skip)) (.reg [P 17 (.ld 1 true (T 4)),⟨none,(.st 1 (T 3) (T 17)),none,[]⟩] false))))))))
theorem AhC : (Tryd.f14.body.bind (Mn Tryd.prog Tryd.f14.ntmps)) = some Afr:=by kernel_rfl
theorem AhD : Tryd.f14.results.toList.mapM (Mw Tryd.prog) = some [(.c 2 1 true)]:=by kernel_rfl
def VN (a : LX) : List D:=[MF a]
def VM (ds : List D) : LX:=NJ (ds.getD 0 .top)
theorem Aad (a : LX) : VM (VN a) = a:=by simp [VM,VN]
def AaR (b : Me) : D:=Nl b
def AaQ (_b : Me) : List D:=[]
noncomputable def XB : Dw.Spec:=Mk [] .val VN VM (fun a=>SB a) AaR AaQ
set_option maxHeartbeats 4000000 in
theorem AcW : Mi Tryd.prog 14 XB:=by
 refine Mu (Mo (l:=[(28,YW),(29,YU)]) (by simp [Ads,Adr])) Tryd.func14 (by decide) AhC AhD (np:=1) (by decide) Aad (fun _=>r) (fun _=>r) (by decide)<|?_
 intro f1
 show TrE (specs [(28,YW),(29,YU)]) Afr (Mx [] .val [(.c 2 1 true)] AaR AaQ) ⟨[(0,.agg [.int .i64 f1.Params,.sl (f1.Slots.map LY),.sl (f1.Code.map LV)])],[],262144⟩ (SB f1)
 refine Mp<|?_
 unfold Afr SB
 refine sQ<|rG<|bX r r r r r<|nW r<|nI<|xS<|sQ<|rG<|fA r r<|lO (v:=.sl (f1.Code.map LV)) (z:=.agg [.int .i64 f1.Params,.sl (f1.Slots.map LY),.sl (f1.Code.map LV)]) r r r r r r<|lS r r<|cK fun hq=>ZN (α:=Int) r r r hq r<|bL (cs:=[.osl 8 _ 0 ((List.replicate (f1.Code.length : Int).toNat ([] : (List Int))).length)]) (ps:=[(0,1,.osl 8 _ 0 ((List.replicate (f1.Code.length : Int).toNat ([] : (List Int))).length))]) r r r r<|nW r<|sV (z':=.agg [.osl 8 _ 0 ((List.replicate (f1.Code.length : Int).toNat ([] : (List Int))).length)]) r r r r r r r r r<|nI<|Qj (E:=[(1,.optr 1 _ 0 0),(2,.optr 2 _ 0 0),(3,.optr 3 _ 0 0)]) (O:=[(1,some (_,⟨false,true,3,33,[.agg [.int .i64 f1.Params,.sl (f1.Slots.map LY),.sl (f1.Code.map LV)]]⟩)),(2,some (_,⟨false,true,1,37,[.agg [.nils]]⟩)),(3,some (_,⟨false,true,1,37,[.agg [.osl 8 _ 0 ((List.replicate (f1.Code.length : Int).toNat ([] : (List Int))).length)]]⟩)),(8,some (_,⟨false,false,1,42,(List.replicate (f1.Code.length : Int).toNat ([] : (List Int))).map (eL LR)⟩))]) ((Abn (g:=8) r (Acq (l:=List.replicate (f1.Code.length : Int).toNat ([] : (List Int))) LR (fun _ h=>List.eq_of_mem_replicate h)) (hE ⟨rfl,r,r,trivial⟩ ⟨rfl,r,r,r,trivial⟩))) fun nn=>bK<|lP (E:=fun (s : (List (List Int))) (g : Nat × Nat × Nat)=>[(1,.optr 1 g.1 0 0),(2,.optr 2 g.2.1 0 0),(3,.optr 3 g.2.2 0 0)]) (O:=fun s g=>[(1,some (g.1,⟨false,true,3,33,[.agg [.int .i64 f1.Params,.sl (f1.Slots.map LY),.sl (f1.Code.map LV)]]⟩)),(2,some (g.2.1,⟨false,true,1,37,[.agg [.nils]]⟩)),(3,some (g.2.2,⟨false,true,1,37,[.agg [.sl (s.map (eL LR))]]⟩))]) (body:=fun s=>TR f1 s) (s:=List.replicate (f1.Code.length : Int).toNat ([] : (List Int))) (_,_,_) ((Aav [(8,some (_,⟨true,false,1,42,(List.replicate (f1.Code.length : Int).toNat ([] : (List Int))).map (eL LR)⟩))] ⟨⟨_,_,r,r,r⟩,trivial⟩ ⟨(MW r),(MW r),(MW r),trivial⟩ ⟨(.inl r),(.inl r),(.inr ⟨_,_,_,_,r,r,r,r,Aat r ⟨(Zq (l:=List.replicate (f1.Code.length : Int).toNat ([] : (List Int))) (en:=(eL LR)) r r r (by simp)),trivial⟩⟩),trivial⟩))<|?_
 rintro l2 ⟨v1x1,v2x1,v3x1⟩ nn
 try dsimp only
 unfold TR
 refine bK<|sQ<|rG<|lO (v:=.agg [.int .i64 f1.Params,.sl (f1.Slots.map LY),.sl (f1.Code.map LV)]) (z:=.agg [.int .i64 f1.Params,.sl (f1.Slots.map LY),.sl (f1.Code.map LV)]) r r r r r r<|lO (v:=.agg [.sl (l2.map (eL LR))]) (z:=.agg [.sl (l2.map (eL LR))]) r r r r r r<|bD fun r3 hr3=>cV (f1,(Me.mk l2)) r r r AaS r r (by simp) r hr3<|nW r<|sV (z':=.agg [.sl (r3.Out.map (eL LR))]) r r r r r r r r r<|nI<|xS<|sQ<|sQ<|rG<|lO (v:=.agg [.sl (r3.Out.map (eL LR))]) (z:=.agg [.sl (r3.Out.map (eL LR))]) r r r r r r<|lO (v:=.agg [.sl (l2.map (eL LR))]) (z:=.agg [.sl (l2.map (eL LR))]) r r r r r r<|bD fun r4 hr4=>cG (r3,(Me.mk l2)) r r r AaP r r (by simp) r hr4 r<|nI<|xS<|cD (c:=r4) r ?_ ?_
 ·refine sQ<|rG<|lO (v:=.agg [.sl (l2.map (eL LR))]) (z:=.agg [.sl (l2.map (eL LR))]) r r r r r r<|sV (z':=.agg [.sl (l2.map (eL LR))]) r r r r r r r r r<|nI<|xS<|rT<|xR<|bR<|lR<|bR<|Ng (b:=(Me.mk l2)) r ?_ r r ?_ r
  all_goals first|(simp;done)|(simp;omega)|rfl|(simp [Ma,LZ];done)
 ·exact sK<|xS<|rG<|lO (v:=.agg [.sl (r3.Out.map (eL LR))]) (z:=.agg [.sl (r3.Out.map (eL LR))]) r r r r r r<|sV (z':=.agg [.sl (r3.Out.map (eL LR))]) r r r r r r r r r<|nI<|bM<|xL (s:=r3.Out) (_,_,_) ((hE ⟨rfl,r,r,trivial⟩ ⟨rfl,r,r,trivial⟩))

def dc9 : Ml:=(.seq (.reg [P 3 (.box (T 1) 3 33),P 4 (.new (.agg [.nils]) 1 37)] false) (.seq (.reg [P 10 (.ld 3 true (T 3)),P 11 (.call (.c (.clo 14 [])) [(T 10)]),P 5 (.new (.agg [.nils]) 1 37),⟨none,(.st 1 (T 5) (T 11)),none,[]⟩] false) (.seq (.reg [P 12 (.fldA 0 (T 5)),P 13 (.ld 1 false (T 12)),P 14 (.app 1 42 24 (.c .nils) (T 13)),⟨(some 15),(.bld [.nils] [⟨0,⟨1,(T 14)⟩⟩]),none,[]⟩,P 6 (.new (.agg [.nils]) 1 37),⟨none,(.st 1 (T 6) (T 15)),none,[]⟩] false) (.seq (.seq (.reg [M 16 0,P 17 (.call (.c (.clo 8 [])) [(T 16),(C 3)]),P 7 (.asg (T 17) none)] false) (.block 0 (.loop (.seq (.seq (.reg [M 18 7,P 19 (.bin .gtr (T 18) (C 0)),M 20 19,⟨(some 21),(.fldA 1 (T 3)),(some ⟨20,true⟩),[]⟩,⟨(some 22),(.ld 1 false (T 21)),(some ⟨20,true⟩),[]⟩,⟨(some 23),(.len false (T 22)),(some ⟨20,true⟩),[]⟩,⟨(some 24),(.bin .gtr (T 23) (C 0)),(some ⟨20,true⟩),[]⟩,P 25 (.pick (T 20) (T 24) (.c (.bool false)))] false) (.cond (T 25) .skip (.exit 0))) (.seq (.block 1 (.seq (.reg [M 28 0,P 29 (.fldA 1 (T 3)),P 30 (.ld 1 false (T 29)),P 31 (.len false (T 30)),P 32 (.call (.c (.clo 8 [])) [(T 28),(T 31)]),P 8 (.asg (T 32) none)] false) (.seq (.reg [P 9 (.asg (C 0) none)] false) (.block 2 (.loop (.seq (.seq (.reg [M 33 9,P 34 (.fldA 0 (T 6)),P 35 (.ld 1 false (T 34)),P 36 (.len false (T 35)),P 37 (.bin .lss (T 33) (T 36))] false) (.cond (T 37) .skip (.exit 2))) (.seq (.block 3 (.reg [P 40 (.fldA 0 (T 6)),⟨(some 41),(.ld 1 false (T 40)),none,[0]⟩,M 42 9,P 43 (.fldA 0 (T 6)),⟨(some 44),(.ld 1 false (T 43)),none,[3]⟩,M 45 9,⟨(some 46),(.ixA 1 (T 44) (T 45)),none,[4,5]⟩,⟨(some 47),(.ld 1 false (T 46)),none,[6]⟩,M 48 8,⟨(some 49),(.call (.c (.clo 21 [])) [(T 47),(T 48)]),none,[7,8]⟩,⟨(some 50),(.ixA 1 (T 41) (T 42)),none,[1,2,0,1,2,3,4,5,6,7,8,9]⟩,⟨none,(.st 1 (T 50) (T 49)),none,[10,9,9,0,1,2,3,4,5,6,7,8,9]⟩] true)) (.reg [M 38 9,P 39 (.bin .add (T 38) (C 1)),P 9 (.asg (T 39) none)] false)))))))) (.reg [M 26 7,P 27 (.bin .sub (T 26) (C 1)),P 7 (.asg (T 27) none)] false)))))) (.seq (.reg [P 51 (.ld 1 true (T 6)),⟨none,(.st 1 (T 4) (T 51)),none,[]⟩] false) .ret)))))
theorem Akn : (Tryd.f9.body.bind (Mn Tryd.prog Tryd.f9.ntmps)) = some dc9:=by kernel_rfl
theorem Ako : Tryd.f9.results.toList.mapM (Mw Tryd.prog) = some [(.c 4 1 true)]:=by kernel_rfl
def Sa (a : LU × LX) : List D:=[MI a.1,MF a.2]
def RZ (ds : List D) : LU × LX:=(NZ (ds.getD 0 .top),NJ (ds.getD 1 .top))
theorem Wd (a : LU × LX) : RZ (Sa a) = a:=by simp [RZ,Sa]
def QZ (b : Me × LU) : D:=Nl b.1
def WX (b : Me × LU) : List D:=[MI b.2]
noncomputable def Tp : Dw.Spec:=Mk [(0,(2,59))] .val Sa RZ (fun a=>Pg a.1 a.2) QZ WX
set_option maxHeartbeats 4000000 in
theorem Abc : Mi Tryd.prog 9 Tp:=by
 refine Mu (Mo (l:=[(14,XB),(8,Mv),(21,Rn)]) (by simp [AcW,Nk,YN])) Tryd.func9 (by decide) Akn Ako (np:=2) (by decide) Wd (fun _=>r) (fun _=>r) (by decide)<|?_
 rintro ⟨c1,f2⟩
 show TrE (specs [(14,XB),(8,Mv),(21,Rn)]) dc9 (Mx [(0,(2,59))] .val [(.c 4 1 true)] QZ WX) ⟨[(0,.optr 8192 0 0 0),(1,.agg [.int .i64 f2.Params,.sl (f2.Slots.map LY),.sl (f2.Code.map LV)])],[(8192,some (0,⟨false,true,2,59,[.agg [.sl (c1.list.map eU8),.int .i64 c1.at_]]⟩))],262144⟩ (Pg c1 f2)
 refine Mp<|?_
 unfold dc9 Pg
 refine sQ<|rG<|bX r r r r r<|nW r<|nI<|xS<|sQ<|rG<|lO (v:=.agg [.int .i64 f2.Params,.sl (f2.Slots.map LY),.sl (f2.Code.map LV)]) (z:=.agg [.int .i64 f2.Params,.sl (f2.Slots.map LY),.sl (f2.Code.map LV)]) r r r r r r<|bD fun r3 hr3=>cV f2 r r r Aad r r (by simp) r hr3<|nW r<|sV (z':=.agg [.sl (r3.Out.map (eL LR))]) r r r r r r r r r<|nI<|xS<|sQ<|rG<|fA r r<|lO (v:=.sl (r3.Out.map (eL LR))) (z:=.agg [.sl (r3.Out.map (eL LR))]) r r r r r r<|cK fun hq=>aP (([] : List (List Int))) (r3.Out) (eL LR) r r r r r r r (by simp) r r r (by simp) r (fun _=>r) r hq<|bL (cs:=[.osl 14 _ 0 ((([] : List (List Int)) ++ r3.Out).length)]) (ps:=[(0,1,.osl 14 _ 0 ((([] : List (List Int)) ++ r3.Out).length))]) r r r r<|nW r<|sV (z':=.agg [.osl 14 _ 0 ((([] : List (List Int)) ++ r3.Out).length)]) r r r r r r r r r<|nI<|xS<|sQ<|sQ<|rG<|mV r r<|bD fun r4 hr4=>cV (c1,3) r r r Mg r r (by simp) r hr4<|aS r r<|nI<|xS<|bK<|lP (E:=fun (s : (List Int) × Int × (List (List Int)) × Int) (g : Nat × Nat × Nat × Nat)=>[(0,.optr 8192 0 0 0),(3,.optr 3 g.1 0 0),(4,.optr 4 g.2.1 0 0),(6,.optr 6 g.2.2.1 0 0),(7,.int .i64 s.2.2.2)]) (O:=fun s g=>[(3,some (g.1,⟨false,true,3,33,[.agg [.int .i64 f2.Params,.sl (f2.Slots.map LY),.sl (f2.Code.map LV)]]⟩)),(4,some (g.2.1,⟨false,true,1,37,[.agg [.nils]]⟩)),(6,some (g.2.2.1,⟨false,true,1,37,[.agg [.osl 14 g.2.2.2 0 s.2.2.1.length]]⟩)),(14,some (g.2.2.2,⟨false,false,1,42,s.2.2.1.map (eL LR)⟩)),(8192,some (0,⟨false,true,2,59,[.agg [.sl (s.1.map eU8),.int .i64 s.2.1]]⟩))]) (body:=fun s=>Qz f2 s.1 s.2.1 s.2.2.1 s.2.2.2) (s:=(r4.2.list,r4.2.at_,([] : List (List Int)) ++ r3.Out,r4.1)) (_,_,_,_) ((hE ⟨rfl,r,r,r,r,trivial⟩ ⟨rfl,r,r,r,r,trivial⟩))<|?_
 rintro ⟨c5,c6,x7,n8⟩ ⟨v3x1,v4x1,v6x1,v14x1⟩ nn
 try dsimp only
 unfold Qz
 refine sC (E:=fun (s : Unit) (g : Nat × Nat × Nat × Nat)=>[(0,.optr 8192 0 0 0),(3,.optr 3 g.1 0 0),(4,.optr 4 g.2.1 0 0),(6,.optr 6 g.2.2.1 0 0),(7,.int .i64 n8),(21,.optr 3 g.1 0 1),(22,.sl (f2.Slots.map LY)),(23,.int .i64 (f2.Slots.length : Int)),(24,.bool (decide ((f2.Slots.length : Int) > 0)))]) (O:=fun s g=>[(3,some (g.1,⟨false,true,3,33,[.agg [.int .i64 f2.Params,.sl (f2.Slots.map LY),.sl (f2.Code.map LV)]]⟩)),(4,some (g.2.1,⟨false,true,1,37,[.agg [.nils]]⟩)),(6,some (g.2.2.1,⟨false,true,1,37,[.agg [.osl 14 g.2.2.2 0 x7.length]]⟩)),(14,some (g.2.2.2,⟨false,false,1,42,x7.map (eL LR)⟩)),(8192,some (0,⟨false,true,2,59,[.agg [.sl (c5.map eU8),.int .i64 c6]]⟩))]) (j:=fun s=>QB c5 c6 f2 n8 x7) ?_ ?_
 ·refine sQ<|rG<|mV r r<|bN (v:=.bool (decide (n8 > 0))) r r r r r<|mV r r<|sP 20 (b:=(decide (n8 > 0))) r ?_ ?_
  ·refine fA r r<|lO (v:=.sl (f2.Slots.map LY)) (z:=.agg [.int .i64 f2.Params,.sl (f2.Slots.map LY),.sl (f2.Code.map LV)]) r r r r r r<|lS r r<|bN (v:=.bool (decide ((f2.Slots.length : Int) > 0))) r r r r r<|pT r r r r<|nI<|xS<|cD (c:=(decide ((f2.Slots.length : Int) > 0))) r ?_ ?_
   ·exact sK<|xC (s:=()) (_,_,_,_) ((hE ⟨rfl,r,r,r,r,r,r,r,r,trivial⟩ ⟨rfl,r,r,r,r,trivial⟩))
   ·refine eT<|Qw<|lE<|bH<|xS<|sQ<|rG<|lO (v:=.agg [.osl 14 _ 0 x7.length]) (z:=.agg [.osl 14 _ 0 x7.length]) r r r r r r<|sV (z':=.agg [.osl 14 _ 0 x7.length]) r r r r r r r r r<|nI<|xS<|rT<|Ng (b:=((Me.mk x7),(LU.mk c5 c6))) r ?_ r r ?_ (by first | rfl | (simp only [Mt,Mz]; rfl) | simp [QZ,Nl])
    all_goals first|(simp;done)|(simp;omega)|rfl|(simp [Ma,LZ];done)
  ·refine oF r<|oF r<|oF r<|oF r<|pF r r r r<|nI<|xS<|Ny r<|eT<|Qw<|lE<|bH<|xS<|sQ<|rG<|lO (v:=.agg [.osl 14 _ 0 x7.length]) (z:=.agg [.osl 14 _ 0 x7.length]) r r r r r r<|sV (z':=.agg [.osl 14 _ 0 x7.length]) r r r r r r r r r<|nI<|xS<|rT<|Ng (b:=((Me.mk x7),(LU.mk c5 c6))) r ?_ r r ?_ (by first | rfl | (simp only [Mt,Mz]; rfl) | simp [QZ,Nl])
   all_goals first|(simp;done)|(simp;omega)|rfl|(simp [Ma,LZ];done)
 ·rintro ⟨⟩ ⟨v3x2,v4x2,v6x2,v14x2⟩ nn
  try dsimp only
  unfold QB
  refine bC (E:=fun (s : (List Int) × Int × (List (List Int))) (g : Nat × Nat × Nat × Nat)=>[(0,.optr 8192 0 0 0),(3,.optr 3 g.1 0 0),(4,.optr 4 g.2.1 0 0),(6,.optr 6 g.2.2.1 0 0),(7,.int .i64 n8),(21,.optr 3 g.1 0 1),(22,.sl (f2.Slots.map LY)),(23,.int .i64 (f2.Slots.length : Int)),(24,.bool (decide ((f2.Slots.length : Int) > 0)))]) (O:=fun s g=>[(3,some (g.1,⟨false,true,3,33,[.agg [.int .i64 f2.Params,.sl (f2.Slots.map LY),.sl (f2.Code.map LV)]]⟩)),(4,some (g.2.1,⟨false,true,1,37,[.agg [.nils]]⟩)),(6,some (g.2.2.1,⟨false,true,1,37,[.agg [.osl 14 g.2.2.2 0 s.2.2.length]]⟩)),(14,some (g.2.2.2,⟨false,false,1,42,s.2.2.map (eL LR)⟩)),(8192,some (0,⟨false,true,2,59,[.agg [.sl (s.1.map eU8),.int .i64 s.2.1]]⟩))]) (j:=fun s=>QC n8 s.1 s.2.1 s.2.2) ?_ ?_
  ·refine sQ<|rG<|mV r r<|fA r r<|lO (v:=.sl (f2.Slots.map LY)) (z:=.agg [.int .i64 f2.Params,.sl (f2.Slots.map LY),.sl (f2.Code.map LV)]) r r r r r r<|lS r r<|bD fun r12 hr12=>cV ((LU.mk c5 c6),(f2.Slots.length : Int)) r r r Mg r r (by simp) r hr12<|aS r r<|nI<|xS<|sQ<|rG<|aS r r<|nI<|xS<|bK<|lP (E:=fun (s : (List (List Int)) × Int) (g : Nat × Nat × Nat × Nat)=>[(0,.optr 8192 0 0 0),(3,.optr 3 g.1 0 0),(4,.optr 4 g.2.1 0 0),(6,.optr 6 g.2.2.1 0 0),(7,.int .i64 n8),(8,.int .i64 r12.1),(9,.int .i64 s.2),(21,.optr 3 g.1 0 1),(22,.sl (f2.Slots.map LY)),(23,.int .i64 (f2.Slots.length : Int)),(24,.bool (decide ((f2.Slots.length : Int) > 0)))]) (O:=fun s g=>[(3,some (g.1,⟨false,true,3,33,[.agg [.int .i64 f2.Params,.sl (f2.Slots.map LY),.sl (f2.Code.map LV)]]⟩)),(4,some (g.2.1,⟨false,true,1,37,[.agg [.nils]]⟩)),(6,some (g.2.2.1,⟨false,true,1,37,[.agg [.osl 14 g.2.2.2 0 s.1.length]]⟩)),(14,some (g.2.2.2,⟨false,false,1,42,s.1.map (eL LR)⟩)),(8192,some (0,⟨false,true,2,59,[.agg [.sl (r12.2.list.map eU8),.int .i64 r12.2.at_]]⟩))]) (body:=fun s=>QA r12 n8 s.1 s.2) (s:=(x7,0)) (_,_,_,_) ((hE ⟨rfl,r,r,r,r,r,r,r,r,r,r,trivial⟩ ⟨rfl,r,r,r,r,trivial⟩))<|?_
   rintro ⟨x13,k14⟩ ⟨v3x3,v4x3,v6x3,v14x3⟩ nn
   try dsimp only
   unfold QA
   refine sQ<|sQ<|rG<|mV r r<|fA r r<|lO (v:=.osl 14 _ 0 x13.length) (z:=.agg [.osl 14 _ 0 x13.length]) r r r r r r<|lW r r<|bN (v:=.bool (decide (k14 < (x13.length : Int)))) r r r r r<|nI<|xS<|cD (c:=(decide (k14 < (x13.length : Int)))) r ?_ ?_
   ·exact sK<|xS<|sQ<|bK<|rG<|fA r r<|lO (v:=.osl 14 _ 0 x13.length) (z:=.agg [.osl 14 _ 0 x13.length]) r r r r r r<|mV r r<|fA r r<|lO (v:=.osl 14 _ 0 x13.length) (z:=.agg [.osl 14 _ 0 x13.length]) r r r r r r<|mV r r<|cK fun hq=>iO (l:=x13) (en:=(eL LR)) r r r r r hq<|bD fun x_e15 hx_e15=>lO (v:=.sl (x_e15.map LR)) (z:=(eL LR) x_e15) r r r (OU hx_e15) r r<|mV r r<|bD fun r16 hr16=>cR (l:=r16) (en:=LR) (x_e15,r12.1) r r r TE r r (by simp) r hr16 r<|cK fun hq=>iO (l:=x13) (en:=(eL LR)) r r r r r hq<|bD fun x_o17 hx_o17=>sE (l:=x13) (en:=(eL LR)) (q':=r16) r r r r r r r (by simp) hx_o17 r r r (by simp [MK,cells,setAt,eL]) r<|Mj (by kernel_rfl)<|bM<|xS<|rG<|mV r r<|bN (v:=.int .i64 (IntKind.i64.wrap (k14 + 1))) r r r r r<|aS r r<|nI<|xL (s:=(x13.set k14.toNat r16,IntKind.i64.wrap (k14 + 1))) (_,_,_,_) ((hE ⟨rfl,r,r,r,r,r,r,r,r,r,r,trivial⟩ ⟨rfl,r,(Eq.trans (b:=some (_,⟨false,true,1,37,[.agg [.osl 14 _ 0 x13.length]]⟩)) r (by simp)),r,r,trivial⟩))
   ·exact eT<|xE<|lE<|bH<|PN (s:=(r12.2.list,r12.2.at_,x13)) (_,_,_,_) ((hE ⟨rfl,r,r,r,r,r,r,r,r,trivial⟩ ⟨rfl,r,r,r,r,trivial⟩))
  ·rintro ⟨c9,c10,x11⟩ ⟨v3x4,v4x4,v6x4,v14x4⟩ nn
   try dsimp only
   unfold QC
   exact rG<|mV r r<|bN (v:=.int .i64 (IntKind.i64.wrap (n8 - 1))) r r r r r<|aS r r<|nI<|xL (s:=(c9,c10,x11,IntKind.i64.wrap (n8 - 1))) (_,_,_,_) ((hE ⟨rfl,r,r,r,r,trivial⟩ ⟨rfl,r,r,r,r,trivial⟩))

def Agm : Ml:=(.seq (.reg [P 2 (.asg (.c (.bool false)) none)] false) (.seq (.seq (.reg [P 3 (.asg (C 0) none)] false) (.block 0 (.loop (.seq (.seq (.reg [M 4 3,M 5 0,P 6 (.len false (T 5)),P 7 (.bin .lss (T 4) (T 6))] false) (.cond (T 7) .skip (.exit 0))) (.seq (.block 1 (.seq (.reg [M 10 0,M 11 3,⟨(some 12),(.ixA 1 (T 10) (T 11)),none,[0,1]⟩,⟨(some 13),(.ld 1 false (T 12)),none,[2]⟩,⟨(some 14),(.call (.c (.clo 40 [])) [(T 13)]),none,[3]⟩,⟨(some 15),(.un .not (T 14)),none,[4]⟩,⟨(some 16),(.mv (T 15)),none,[5,4]⟩,⟨(some 17),(.mv (T 3)),(some ⟨16,false⟩),[6]⟩,⟨(some 18),(.bin .gtr (T 17) (C 0)),(some ⟨16,false⟩),[7,6]⟩,⟨(some 19),(.mv (T 18)),(some ⟨16,false⟩),[8,6,6]⟩,⟨(some 20),(.mv (T 0)),(some ⟨19,true⟩),[9]⟩,⟨(some 21),(.mv (T 3)),(some ⟨19,true⟩),[9]⟩,⟨(some 22),(.ixA 1 (T 20) (T 21)),(some ⟨19,true⟩),[10,11,9]⟩,⟨(some 23),(.ld 1 false (T 22)),(some ⟨19,true⟩),[12,9]⟩,⟨(some 24),(.mv (T 0)),(some ⟨19,true⟩),[9]⟩,⟨(some 25),(.mv (T 3)),(some ⟨19,true⟩),[9]⟩,⟨(some 26),(.bin .sub (T 25) (C 1)),(some ⟨19,true⟩),[15,9]⟩,⟨(some 27),(.ixA 1 (T 24) (T 26)),(some ⟨19,true⟩),[14,16,9]⟩,⟨(some 28),(.ld 1 false (T 27)),(some ⟨19,true⟩),[17,9]⟩,⟨(some 29),(.bin .leq (T 23) (T 28)),(some ⟨19,true⟩),[13,18,9]⟩,⟨(some 30),(.pick (T 19) (T 29) (.c (.bool false))),(some ⟨16,false⟩),[9,19,6]⟩,⟨(some 31),(.pick (T 16) (.c (.bool true)) (T 30)),none,[6,20]⟩] true) (.cond (T 31) (.seq (.reg [P 2 (.asg (.c (.bool false)) none)] false) .ret) .skip))) (.reg [M 8 3,P 9 (.bin .add (T 8) (C 1)),P 3 (.asg (T 9) none)] false)))))) (.seq (.reg [P 2 (.asg (.c (.bool true)) none)] false) .ret)))
theorem Ajs : (Tryd.f81.body.bind (Mn Tryd.prog Tryd.f81.ntmps)) = some Agm:=by kernel_rfl
theorem Ajt : Tryd.f81.results.toList.mapM (Mw Tryd.prog) = some [(.t 2)]:=by kernel_rfl
def VH (a : (List Int)) : List D:=[.sl (a.map LR)]
def VG (ds : List D) : (List Int):=(uL uI) (ds.getD 0 .top)
theorem ZZ (a : (List Int)) : VG (VH a) = a:=by simp [VG,VH,NF (u:=uI) (en:=LR) (fun _=>rfl)]
def AaH (b : Bool) : D:=.bool b
def AaG (_b : Bool) : List D:=[]
noncomputable def Xu : Dw.Spec:=Mk [] .ground VH VG (fun a=>Sz a) AaH AaG
set_option maxHeartbeats 4000000 in
theorem AcU : Mi Tryd.prog 81 Xu:=by
 refine Mu (Mo (l:=[(40,TF)]) (by simp [AaN])) Tryd.func81 (by decide) Ajs Ajt (np:=1) (by decide) ZZ (fun _=>r) (fun _=>r) (by decide)<|?_
 intro s1
 show TrE (specs [(40,TF)]) Agm (Mx [] .ground [(.t 2)] AaH AaG) ⟨[(0,.sl (s1.map LR))],[],262144⟩ (Sz s1)
 refine Mp<|?_
 unfold Agm Sz
 refine sQ<|rG<|aS r r<|nI<|xS<|sQ<|sQ<|rG<|aS r r<|nI<|xS<|bK<|lP (E:=fun (s : Int) (g : Unit)=>[(0,.sl (s1.map LR)),(3,.int .i64 s)]) (O:=fun s g=>[]) (body:=fun s=>OC s1 s) (s:=0) () ((hE ⟨rfl,r,trivial⟩ trivial))<|?_
 rintro i2 ⟨⟩ nn
 try dsimp only
 unfold OC
 refine sQ<|sQ<|rG<|mV r r<|mV r r<|lS r r<|bN (v:=.bool (decide (i2 < (s1.length : Int)))) r r r r r<|nI<|xS<|cD (c:=(decide (i2 < (s1.length : Int)))) r ?_ ?_
 ·refine sK<|xS<|sQ<|bK<|sQ<|rG<|mV r r<|mV r r<|bD fun x_x3 hx_x3=>iS (en:=LR) r r r hx_x3 r<|lF (v:=.int .i64 x_x3) r r r r<|bD fun r4 hr4=>cG x_x3 r r r Xy r r (by simp) r hr4 r<|uN (w:=.bool (!r4)) r r r r trivial<|mV r r<|sP 16 (b:=(!r4)) r ?_ ?_
  ·refine oF r<|oF r<|oF r<|oF r<|oF r<|oF r<|oF r<|oF r<|oF r<|oF r<|oF r<|oF r<|oF r<|oF r<|pT r r r r<|Mj (by kernel_rfl)<|xS<|MY r<|sQ<|rG<|aS r r<|nI<|xS<|rT<|bR<|xR<|lR<|bR<|xR<|Mf (b:=false) r ?_ r r ?_ r
   all_goals first|(simp;done)|(simp;omega)|rfl|(simp [Ma,LZ];done)
  ·refine mV r r<|bN (v:=.bool (decide (i2 > 0))) r r r r r<|mV r r<|sP 19 (b:=(decide (i2 > 0))) r ?_ ?_
   ·refine mV r r<|mV r r<|bD fun x_x5 hx_x5=>iS (en:=LR) r r r hx_x5 r<|lF (v:=.int .i64 x_x5) r r r r<|mV r r<|mV r r<|bN (v:=.int .i64 (IntKind.i64.wrap (i2 - 1))) r r r r r<|bD fun x_x6 hx_x6=>iS (en:=LR) r r r hx_x6 r<|lF (v:=.int .i64 x_x6) r r r r<|bN (v:=.bool (decide (x_x5 ≤ x_x6))) r r r r r<|pT r r r r<|pF r r r r<|Mj (by kernel_rfl)<|xS<|cD (c:=(decide (x_x5 ≤ x_x6))) r ?_ ?_
    ·refine sQ<|rG<|aS r r<|nI<|xS<|rT<|bR<|xR<|lR<|bR<|xR<|Mf (b:=false) r ?_ r r ?_ r
     all_goals first|(simp;done)|(simp;omega)|rfl|(simp [Ma,LZ];done)
    ·exact sK<|bM<|xS<|rG<|mV r r<|bN (v:=.int .i64 (IntKind.i64.wrap (i2 + 1))) r r r r r<|aS r r<|nI<|xL (s:=IntKind.i64.wrap (i2 + 1)) () ((hE ⟨rfl,r,trivial⟩ trivial))
   ·exact oF r<|oF r<|oF r<|oF r<|oF r<|oF r<|oF r<|oF r<|oF r<|oF r<|pF r r r r<|pF r r r r<|Mj (by kernel_rfl)<|xS<|Ny r<|sK<|bM<|xS<|rG<|mV r r<|bN (v:=.int .i64 (IntKind.i64.wrap (i2 + 1))) r r r r r<|aS r r<|nI<|xL (s:=IntKind.i64.wrap (i2 + 1)) () ((hE ⟨rfl,r,trivial⟩ trivial))
 ·refine eT<|xE<|lE<|bH<|xS<|sQ<|rG<|aS r r<|nI<|xS<|rT<|Mf (b:=true) r ?_ r r ?_ r
  all_goals first|(simp;done)|(simp;omega)|rfl|(simp [Ma,LZ];done)

def AfZ : Ml:=(.seq (.reg [P 2 (.box (T 0) 3 33),P 3 (.box (T 1) 1 37),P 4 (.asg (.c (.bool false)) none)] false) (.seq (.seq (.reg [P 7 (.fldA 0 (T 3)),P 8 (.ld 1 false (T 7)),P 9 (.len false (T 8)),P 10 (.fldA 2 (T 2)),P 11 (.ld 1 false (T 10)),P 12 (.len false (T 11)),P 13 (.bin .neq (T 9) (T 12))] false) (.cond (T 13) (.seq (.reg [P 4 (.asg (.c (.bool false)) none)] false) .ret) .skip)) (.seq (.seq (.reg [P 5 (.asg (C 0) none)] false) (.block 0 (.loop (.seq (.seq (.reg [M 14 5,P 15 (.fldA 0 (T 3)),P 16 (.ld 1 false (T 15)),P 17 (.len false (T 16)),P 18 (.bin .lss (T 14) (T 17))] false) (.cond (T 18) .skip (.exit 0))) (.seq (.block 1 (.seq (.seq (.reg [P 21 (.fldA 0 (T 3)),P 22 (.ld 1 false (T 21)),M 23 5,P 24 (.ixA 1 (T 22) (T 23)),P 25 (.ld 1 false (T 24)),P 26 (.call (.c (.clo 81 [])) [(T 25)]),P 27 (.un .not (T 26))] false) (.cond (T 27) (.seq (.reg [P 4 (.asg (.c (.bool false)) none)] false) .ret) .skip)) (.seq (.reg [P 28 (.fldA 0 (T 3)),P 29 (.ld 1 false (T 28)),M 30 5,P 31 (.ixA 1 (T 29) (T 30)),P 32 (.ld 1 false (T 31)),P 33 (.len false (T 32)),P 6 (.asg (T 33) none)] false) (.seq (.reg [M 34 6,⟨(some 35),(.bin .gtr (T 34) (C 0)),none,[0]⟩,⟨(some 36),(.mv (T 35)),none,[1]⟩,⟨(some 37),(.fldA 0 (T 3)),(some ⟨36,true⟩),[2]⟩,⟨(some 38),(.ld 1 false (T 37)),(some ⟨36,true⟩),[3,2]⟩,⟨(some 39),(.mv (T 5)),(some ⟨36,true⟩),[2]⟩,⟨(some 40),(.ixA 1 (T 38) (T 39)),(some ⟨36,true⟩),[4,5,2]⟩,⟨(some 41),(.ld 1 false (T 40)),(some ⟨36,true⟩),[6,2]⟩,⟨(some 42),(.mv (T 6)),(some ⟨36,true⟩),[2]⟩,⟨(some 43),(.bin .sub (T 42) (C 1)),(some ⟨36,true⟩),[8,2]⟩,⟨(some 44),(.ixA 1 (T 41) (T 43)),(some ⟨36,true⟩),[7,9,2]⟩,⟨(some 45),(.ld 1 false (T 44)),(some ⟨36,true⟩),[10,2]⟩,⟨(some 46),(.fldA 1 (T 2)),(some ⟨36,true⟩),[2]⟩,⟨(some 47),(.ld 1 false (T 46)),(some ⟨36,true⟩),[12,2]⟩,⟨(some 48),(.len false (T 47)),(some ⟨36,true⟩),[13,2]⟩,⟨(some 49),(.bin .geq (T 45) (T 48)),(some ⟨36,true⟩),[11,14,2]⟩,⟨(some 50),(.pick (T 36) (T 49) (.c (.bool false))),none,[2,15]⟩] true) (.cond (T 50) (.seq (.reg [P 4 (.asg (.c (.bool false)) none)] false) .ret) .skip))))) (.reg [M 19 5,P 20 (.bin .add (T 19) (C 1)),P 5 (.asg (T 20) none)] false)))))) (.seq (.reg [P 4 (.asg (.c (.bool true)) none)] false) .ret))))
theorem AiS : (Tryd.f66.body.bind (Mn Tryd.prog Tryd.f66.ntmps)) = some AfZ:=by kernel_rfl
theorem AiT : Tryd.f66.results.toList.mapM (Mw Tryd.prog) = some [(.t 4)]:=by kernel_rfl
def VU (a : LX × Me) : List D:=[MF a.1,Nl a.2]
def VT (ds : List D) : LX × Me:=(NJ (ds.getD 0 .top),Pb (ds.getD 1 .top))
theorem WM (a : LX × Me) : VT (VU a) = a:=by simp [VT,VU]
def AaY (b : Bool) : D:=.bool b
def AaX (_b : Bool) : List D:=[]
noncomputable def Sr : Dw.Spec:=Mk [] .ground VU VT (fun a=>Ro a.1 a.2) AaY AaX
set_option maxHeartbeats 4000000 in
theorem Aag : Mi Tryd.prog 66 Sr:=by
 refine Mu (Mo (l:=[(81,Xu)]) (by simp [AcU])) Tryd.func66 (by decide) AiS AiT (np:=2) (by decide) WM (fun _=>r) (fun _=>r) (by decide)<|?_
 rintro ⟨f1,l2⟩
 show TrE (specs [(81,Xu)]) AfZ (Mx [] .ground [(.t 4)] AaY AaX) ⟨[(0,.agg [.int .i64 f1.Params,.sl (f1.Slots.map LY),.sl (f1.Code.map LV)]),(1,.agg [.sl (l2.Out.map (eL LR))])],[],262144⟩ (Ro f1 l2)
 refine Mp<|?_
 unfold AfZ Ro
 refine sQ<|rG<|bX r r r r r<|bX r r r r r<|aS r r<|nI<|xS<|sQ<|sQ<|rG<|fA r r<|lO (v:=.sl (l2.Out.map (eL LR))) (z:=.agg [.sl (l2.Out.map (eL LR))]) r r r r r r<|lS r r<|fA r r<|lO (v:=.sl (f1.Code.map LV)) (z:=.agg [.int .i64 f1.Params,.sl (f1.Slots.map LY),.sl (f1.Code.map LV)]) r r r r r r<|lS r r<|bN (v:=.bool ((l2.Out.length : Int) != (f1.Code.length : Int))) r r r r r<|nI<|xS<|cD (c:=((l2.Out.length : Int) != (f1.Code.length : Int))) r ?_ ?_
 ·refine sQ<|rG<|aS r r<|nI<|xS<|rT<|xR<|Mf (b:=false) r ?_ r r ?_ r
  all_goals first|(simp;done)|(simp;omega)|rfl|(simp [Ma,LZ];done)
 ·refine sK<|xS<|sQ<|sQ<|rG<|aS r r<|nI<|xS<|bK<|lP (E:=fun (s : Int) (g : Nat × Nat)=>[(2,.optr 2 g.1 0 0),(3,.optr 3 g.2 0 0),(5,.int .i64 s)]) (O:=fun s g=>[(2,some (g.1,⟨false,true,3,33,[.agg [.int .i64 f1.Params,.sl (f1.Slots.map LY),.sl (f1.Code.map LV)]]⟩)),(3,some (g.2,⟨false,true,1,37,[.agg [.sl (l2.Out.map (eL LR))]]⟩))]) (body:=fun s=>TU l2 f1 s) (s:=0) (_,_) ((hE ⟨rfl,r,r,trivial⟩ ⟨rfl,r,trivial⟩))<|?_
  rintro k3 ⟨v2x1,v3x1⟩ nn
  try dsimp only
  unfold TU
  refine sQ<|sQ<|rG<|mV r r<|fA r r<|lO (v:=.sl (l2.Out.map (eL LR))) (z:=.agg [.sl (l2.Out.map (eL LR))]) r r r r r r<|lS r r<|bN (v:=.bool (decide (k3 < (l2.Out.length : Int)))) r r r r r<|nI<|xS<|cD (c:=(decide (k3 < (l2.Out.length : Int)))) r ?_ ?_
  ·refine sK<|xS<|sQ<|bK<|sQ<|sQ<|rG<|fA r r<|lO (v:=.sl (l2.Out.map (eL LR))) (z:=.agg [.sl (l2.Out.map (eL LR))]) r r r r r r<|mV r r<|bD fun x_x4 hx_x4=>iS (en:=(eL LR)) r r r hx_x4 r<|lF (v:=.sl (x_x4.map LR)) r r r r<|bD fun r5 hr5=>cG x_x4 r r r ZZ r r (by simp) r hr5 r<|uN (w:=.bool (!r5)) r r r r trivial<|nI<|xS<|cD (c:=(!r5)) r ?_ ?_
   ·refine sQ<|rG<|aS r r<|nI<|xS<|rT<|xR<|bR<|xR<|lR<|bR<|xR<|Mf (b:=false) r ?_ r r ?_ r
    all_goals first|(simp;done)|(simp;omega)|rfl|(simp [Ma,LZ];done)
   ·refine sK<|xS<|sQ<|rG<|fA r r<|lO (v:=.sl (l2.Out.map (eL LR))) (z:=.agg [.sl (l2.Out.map (eL LR))]) r r r r r r<|mV r r<|bD fun x_x6 hx_x6=>iS (en:=(eL LR)) r r r hx_x6 r<|lF (v:=.sl (x_x6.map LR)) r r r r<|lS r r<|aS r r<|nI<|xS<|sQ<|rG<|mV r r<|bN (v:=.bool (decide ((x_x6.length : Int) > 0))) r r r r r<|mV r r<|sP 36 (b:=(decide ((x_x6.length : Int) > 0))) r ?_ ?_
    ·refine fA r r<|lO (v:=.sl (l2.Out.map (eL LR))) (z:=.agg [.sl (l2.Out.map (eL LR))]) r r r r r r<|mV r r<|bD fun x_x7 hx_x7=>iS (en:=(eL LR)) r r r hx_x7 r<|lF (v:=.sl (x_x7.map LR)) r r r r<|mV r r<|bN (v:=.int .i64 (IntKind.i64.wrap ((x_x6.length : Int) - 1))) r r r r r<|bD fun x_x8 hx_x8=>iS (en:=LR) r r r hx_x8 r<|lF (v:=.int .i64 x_x8) r r r r<|fA r r<|lO (v:=.sl (f1.Slots.map LY)) (z:=.agg [.int .i64 f1.Params,.sl (f1.Slots.map LY),.sl (f1.Code.map LV)]) r r r r r r<|lS r r<|bN (v:=.bool (decide (x_x8 ≥ (f1.Slots.length : Int)))) r r r r r<|pT r r r r<|Mj (by kernel_rfl)<|xS<|cD (c:=(decide (x_x8 ≥ (f1.Slots.length : Int)))) r ?_ ?_
     ·refine sQ<|rG<|aS r r<|nI<|xS<|rT<|bR<|xR<|lR<|bR<|xR<|Mf (b:=false) r ?_ r r ?_ r
      all_goals first|(simp;done)|(simp;omega)|rfl|(simp [Ma,LZ];done)
     ·exact sK<|bM<|xS<|rG<|mV r r<|bN (v:=.int .i64 (IntKind.i64.wrap (k3 + 1))) r r r r r<|aS r r<|nI<|xL (s:=IntKind.i64.wrap (k3 + 1)) (_,_) ((hE ⟨rfl,r,r,trivial⟩ ⟨rfl,r,trivial⟩))
    ·exact oF r<|oF r<|oF r<|oF r<|oF r<|oF r<|oF r<|oF r<|oF r<|oF r<|oF r<|oF r<|oF r<|pF r r r r<|Mj (by kernel_rfl)<|xS<|Ny r<|sK<|bM<|xS<|rG<|mV r r<|bN (v:=.int .i64 (IntKind.i64.wrap (k3 + 1))) r r r r r<|aS r r<|nI<|xL (s:=IntKind.i64.wrap (k3 + 1)) (_,_) ((hE ⟨rfl,r,r,trivial⟩ ⟨rfl,r,trivial⟩))
  ·refine eT<|xE<|lE<|bH<|xS<|sQ<|rG<|aS r r<|nI<|xS<|rT<|Mf (b:=true) r ?_ r r ?_ r
   all_goals first|(simp;done)|(simp;omega)|rfl|(simp [Ma,LZ];done)

def AfV : Ml:=(.seq (.reg [P 4 (.asg (.c (.bool false)) none)] false) (.seq (.seq (.reg [P 5 (.asg (C 0) none)] false) (.block 0 (.loop (.seq (.seq (.reg [M 6 5,M 7 0,P 8 (.len false (T 7)),P 9 (.bin .lss (T 6) (T 8))] false) (.cond (T 9) .skip (.exit 0))) (.seq (.block 1 (.seq (.reg [M 12 0,M 13 5,P 14 (.ixA 1 (T 12) (T 13)),P 15 (.ld 1 false (T 14)),M 16 1,P 17 (.bin .eql (T 15) (T 16))] false) (.cond (T 17) (.seq (.reg [P 4 (.asg (.c (.bool true)) none)] false) .ret) .skip))) (.reg [M 10 5,P 11 (.bin .add (T 10) (C 1)),P 5 (.asg (T 11) none)] false)))))) (.seq (.reg [P 4 (.asg (.c (.bool false)) none)] false) .ret)))
theorem AiK : (Tryd.f62.body.bind (Mn Tryd.prog Tryd.f62.ntmps)) = some AfV:=by kernel_rfl
theorem AiL : Tryd.f62.results.toList.mapM (Mw Tryd.prog) = some [(.t 4)]:=by kernel_rfl
def Xw (a : (List Int) × Int) : List D:=[.sl (a.1.map LR),.int .i64 a.2]
def Xv (ds : List D) : (List Int) × Int:=((uL uI) (ds.getD 0 .top),uI (ds.getD 1 .top))
theorem Abs (a : (List Int) × Int) : Xv (Xw a) = a:=by simp [Xv,Xw,uI,NF (u:=uI) (en:=LR) (fun _=>rfl)]
def Acj (b : Bool) : D:=.bool b
def Aci (_b : Bool) : List D:=[]
noncomputable def ZK : Dw.Spec:=Mk [] .ground Xw Xv (fun a=>Vn a.1 a.2) Acj Aci
set_option maxHeartbeats 4000000 in
theorem Aec : Mi Tryd.prog 62 ZK:=by
 refine Mu (Nn) Tryd.func62 (by decide) AiK AiL (np:=2) (by decide) Abs (fun _=>r) (fun _=>r) (by decide)<|?_
 rintro ⟨s1,n2⟩
 show TrE (specs []) AfV (Mx [] .ground [(.t 4)] Acj Aci) ⟨[(0,.sl (s1.map LR)),(1,.int .i64 n2)],[],262144⟩ (Vn s1 n2)
 refine Mp<|?_
 unfold AfV Vn
 refine sQ<|rG<|aS r r<|nI<|xS<|sQ<|sQ<|rG<|aS r r<|nI<|xS<|bK<|lP (E:=fun (s : Int) (g : Unit)=>[(0,.sl (s1.map LR)),(1,.int .i64 n2),(5,.int .i64 s)]) (O:=fun s g=>[]) (body:=fun s=>RH s1 n2 s) (s:=0) () ((hE ⟨rfl,r,r,trivial⟩ trivial))<|?_
 rintro i3 ⟨⟩ nn
 try dsimp only
 unfold RH
 refine sQ<|sQ<|rG<|mV r r<|mV r r<|lS r r<|bN (v:=.bool (decide (i3 < (s1.length : Int)))) r r r r r<|nI<|xS<|cD (c:=(decide (i3 < (s1.length : Int)))) r ?_ ?_
 ·refine sK<|xS<|sQ<|bK<|sQ<|rG<|mV r r<|mV r r<|bD fun x_x4 hx_x4=>iS (en:=LR) r r r hx_x4 r<|lF (v:=.int .i64 x_x4) r r r r<|mV r r<|bN (v:=.bool (x_x4 == n2)) r r r r r<|nI<|xS<|cD (c:=(x_x4 == n2)) r ?_ ?_
  ·refine sQ<|rG<|aS r r<|nI<|xS<|rT<|bR<|xR<|lR<|bR<|xR<|Mf (b:=true) r ?_ r r ?_ r
   all_goals first|(simp;done)|(simp;omega)|rfl|(simp [Ma,LZ];done)
  ·exact sK<|bM<|xS<|rG<|mV r r<|bN (v:=.int .i64 (IntKind.i64.wrap (i3 + 1))) r r r r r<|aS r r<|nI<|xL (s:=IntKind.i64.wrap (i3 + 1)) () ((hE ⟨rfl,r,r,trivial⟩ trivial))
 ·refine eT<|xE<|lE<|bH<|xS<|sQ<|rG<|aS r r<|nI<|xS<|rT<|Mf (b:=false) r ?_ r r ?_ r
  all_goals first|(simp;done)|(simp;omega)|rfl|(simp [Ma,LZ];done)

def AfC : Ml:=(.seq (.reg [⟨(some 4),(.asg (.c .nils) (some ⟨1,3⟩)),none,[]⟩] false) (.seq (.reg [⟨(some 5),(.asg (.c .nils) (some ⟨1,3⟩)),none,[]⟩] false) (.seq (.seq (.reg [P 6 (.asg (C 0) none)] false) (.block 0 (.loop (.seq (.seq (.reg [M 7 6,M 8 0,P 9 (.len false (T 8)),P 10 (.bin .lss (T 7) (T 9))] false) (.cond (T 10) .skip (.exit 0))) (.seq (.block 1 (.seq (.reg [M 13 1,M 14 0,M 15 6,P 16 (.ixA 1 (T 14) (T 15)),P 17 (.ld 1 false (T 16)),P 18 (.call (.c (.clo 62 [])) [(T 13),(T 17)]),P 19 (.un .not (T 18))] false) (.cond (T 19) (.reg [M 20 5,M 21 0,M 22 6,P 23 (.ixA 1 (T 21) (T 22)),P 24 (.ld 1 false (T 23)),⟨(some 25),(.bldS 1 3 (.int .i64 0) 1 [⟨0,(T 24)⟩]),none,[]⟩,P 26 (.app 1 3 8 (T 20) (T 25)),⟨(some 5),(.asg (T 26) (some ⟨1,3⟩)),none,[]⟩] false) .skip))) (.reg [M 11 6,P 12 (.bin .add (T 11) (C 1)),P 6 (.asg (T 12) none)] false)))))) (.seq (.reg [M 27 5,⟨(some 4),(.asg (T 27) (some ⟨1,3⟩)),none,[]⟩] false) .ret))))
theorem AhY : (Tryd.f36.body.bind (Mn Tryd.prog Tryd.f36.ntmps)) = some AfC:=by kernel_rfl
theorem AhZ : Tryd.f36.results.toList.mapM (Mw Tryd.prog) = some [(.t 4)]:=by kernel_rfl
def Tg (a : (List Int) × (List Int)) : List D:=[.sl (a.1.map LR),.sl (a.2.map LR)]
def VI (ds : List D) : (List Int) × (List Int):=((uL uI) (ds.getD 0 .top),(uL uI) (ds.getD 1 .top))
theorem Aaa (a : (List Int) × (List Int)) : VI (Tg a) = a:=by simp [VI,Tg,NF (u:=uI) (en:=LR) (fun _=>rfl)]
def AaJ (b : (List Int)) : D:=.sl (b.map LR)
def AaI (_b : (List Int)) : List D:=[]
noncomputable def Xx : Dw.Spec:=Mk [] (.row 1 3) Tg VI (fun a=>SA a.1 a.2) AaJ AaI
set_option maxHeartbeats 4000000 in
theorem AcV : Mi Tryd.prog 36 Xx:=by
 refine Mu (Mo (l:=[(62,ZK)]) (by simp [Aec])) Tryd.func36 (by decide) AhY AhZ (np:=2) (by decide) Aaa (fun _=>r) (fun _=>r) (by decide)<|?_
 rintro ⟨a1,b2⟩
 show TrE (specs [(62,ZK)]) AfC (Mx [] (.row 1 3) [(.t 4)] AaJ AaI) ⟨[(0,.sl (a1.map LR)),(1,.sl (b2.map LR))],[],262144⟩ (SA a1 b2)
 refine Mp<|?_
 unfold AfC SA
 refine sQ<|rG<|aN (α:=Int) r LR r<|nI<|xS<|sQ<|rG<|aN (α:=Int) r LR r<|nI<|xS<|sQ<|sQ<|rG<|aS r r<|nI<|xS<|bK<|lP (E:=fun (s : (List Int) × Int) (g : Nat)=>[(0,.sl (a1.map LR)),(1,.sl (b2.map LR)),(5,.osl 5 g 0 s.1.length),(6,.int .i64 s.2)]) (O:=fun s g=>[(5,some (g,⟨false,false,1,3,s.1.map LR⟩))]) (body:=fun s=>Pl a1 b2 s.1 s.2) (s:=(([] : List Int),0)) _ ((hE ⟨rfl,r,r,r,trivial⟩ ⟨rfl,trivial⟩))<|?_
 rintro ⟨out3,i4⟩ v5x1 nn
 try dsimp only
 unfold Pl
 refine sQ<|sQ<|rG<|mV r r<|mV r r<|lS r r<|bN (v:=.bool (decide (i4 < (a1.length : Int)))) r r r r r<|nI<|xS<|cD (c:=(decide (i4 < (a1.length : Int)))) r ?_ ?_
 ·refine sK<|xS<|sQ<|bK<|sQ<|rG<|mV r r<|mV r r<|mV r r<|bD fun x_x5 hx_x5=>iS (en:=LR) r r r hx_x5 r<|lF (v:=.int .i64 x_x5) r r r r<|bD fun r6 hr6=>cG (b2,x_x5) r r r Abs r r (by simp) r hr6 r<|uN (w:=.bool (!r6)) r r r r trivial<|nI<|xS<|cD (c:=(!r6)) r ?_ ?_
  ·exact rG<|mV r r<|mV r r<|mV r r<|bD fun x_x7 hx_x7=>iS (en:=LR) r r r hx_x7 r<|lF (v:=.int .i64 x_x7) r r r r<|bS ([x_x7] : List Int) LR r r r (by simp) r r r<|cK fun hq=>aP (out3) (([x_x7] : List Int)) LR r r r r r r r (by simp) (Mr _ _ r) r r (by simp) (Md _ _ r) (fun _=>r) r hq<|aO (l:=out3 ++ ([x_x7] : List Int)) (en:=LR) r r r r<|nI<|bM<|xS<|rG<|mV r r<|bN (v:=.int .i64 (IntKind.i64.wrap (i4 + 1))) r r r r r<|aS r r<|nI<|xL (s:=(out3 ++ ([x_x7] : List Int),IntKind.i64.wrap (i4 + 1))) _ ((hE ⟨rfl,r,r,r,trivial⟩ ⟨rfl,trivial⟩))
  ·exact sK<|bM<|xS<|rG<|mV r r<|bN (v:=.int .i64 (IntKind.i64.wrap (i4 + 1))) r r r r r<|aS r r<|nI<|xL (s:=(out3,IntKind.i64.wrap (i4 + 1))) _ ((hE ⟨rfl,r,r,r,trivial⟩ ⟨rfl,trivial⟩))
 ·refine eT<|xE<|lE<|bH<|xS<|sQ<|rG<|mV r r<|aO (l:=out3) (en:=LR) r r r r<|nI<|xS<|rT<|MA (b:=out3) r ?_ r r ?_ r ?_ (congrArg D.sl (Md _ _ r)) r
  all_goals first|(simp;done)|(simp;omega)|rfl|(simp [Ma,LZ];done)

def Agl : Ml:=(.seq (.reg [P 3 (.box (T 0) 3 33),P 4 (.box (T 1) 1 37),⟨(some 6),(.asg (.c .nils) (some ⟨1,3⟩)),none,[]⟩] false) (.seq (.reg [⟨(some 7),(.asg (.c .nils) (some ⟨1,3⟩)),none,[]⟩] false) (.seq (.reg [P 11 (.ld 3 true (T 3)),M 12 2,P 13 (.call (.c (.clo 51 [])) [(T 11),(T 12)]),⟨(some 8),(.asg (T 13) (some ⟨1,3⟩)),none,[]⟩] false) (.seq (.seq (.reg [P 9 (.asg (C 0) none)] false) (.block 0 (.loop (.seq (.seq (.reg [M 14 9,M 15 8,P 16 (.len false (T 15)),P 17 (.bin .lss (T 14) (T 16))] false) (.cond (T 17) .skip (.exit 0))) (.seq (.block 1 (.seq (.reg [M 20 8,M 21 9,P 22 (.ixA 1 (T 20) (T 21)),P 23 (.ld 1 false (T 22)),P 10 (.asg (T 23) none)] false) (.reg [M 24 7,P 25 (.fldA 2 (T 3)),⟨(some 26),(.ld 1 false (T 25)),none,[1]⟩,M 27 10,⟨(some 28),(.ixA 5 (T 26) (T 27)),none,[2,3]⟩,⟨(some 29),(.ld 5 true (T 28)),none,[4]⟩,P 30 (.fldA 0 (T 4)),⟨(some 31),(.ld 1 false (T 30)),none,[6]⟩,M 32 10,⟨(some 33),(.ixA 1 (T 31) (T 32)),none,[7,8]⟩,⟨(some 34),(.ld 1 false (T 33)),none,[9]⟩,⟨(some 35),(.call (.c (.clo 53 [])) [(T 29),(T 34)]),none,[5,10]⟩,P 36 (.fldA 0 (T 4)),⟨(some 37),(.ld 1 false (T 36)),none,[12]⟩,M 38 2,⟨(some 39),(.ixA 1 (T 37) (T 38)),none,[13,14]⟩,⟨(some 40),(.ld 1 false (T 39)),none,[15]⟩,⟨(some 41),(.call (.c (.clo 36 [])) [(T 35),(T 40)]),none,[11,16,11]⟩,⟨(some 42),(.call (.c (.clo 52 [])) [(T 24),(T 41)]),none,[0,17,17]⟩,⟨(some 7),(.asg (T 42) (some ⟨1,3⟩)),none,[18,18,0,1,2,3,4,5,6,7,8,9,10,11,12,13,14,15,16,17,18]⟩] true))) (.reg [M 18 9,P 19 (.bin .add (T 18) (C 1)),P 9 (.asg (T 19) none)] false)))))) (.seq (.reg [M 43 7,⟨(some 6),(.asg (T 43) (some ⟨1,3⟩)),none,[]⟩] false) .ret)))))
theorem Ajq : (Tryd.f80.body.bind (Mn Tryd.prog Tryd.f80.ntmps)) = some Agl:=by kernel_rfl
theorem Ajr : Tryd.f80.results.toList.mapM (Mw Tryd.prog) = some [(.t 6)]:=by kernel_rfl
def Ut (a : LX × Me × Int) : List D:=[MF a.1,Nl a.2.1,.int .i64 a.2.2]
def Us (ds : List D) : LX × Me × Int:=(NJ (ds.getD 0 .top),Pb (ds.getD 1 .top),uI (ds.getD 2 .top))
theorem YX (a : LX × Me × Int) : Us (Ut a) = a:=by simp [Us,Ut,uI]
def Zy (b : (List Int)) : D:=.sl (b.map LR)
def Zx (_b : (List Int)) : List D:=[]
noncomputable def VS : Dw.Spec:=Mk [] (.row 1 3) Ut Us (fun a=>QT a.1 a.2.1 a.2.2) Zy Zx
set_option maxHeartbeats 4000000 in
theorem Acs : Mi Tryd.prog 80 VS:=by
 refine Mu (Mo (l:=[(51,TG),(53,VL),(36,Xx),(52,PS)]) (by simp [AaO,Ack,AcV,WA])) Tryd.func80 (by decide) Ajq Ajr (np:=3) (by decide) YX (fun _=>r) (fun _=>r) (by decide)<|?_
 rintro ⟨f1,l2,k3⟩
 show TrE (specs [(51,TG),(53,VL),(36,Xx),(52,PS)]) Agl (Mx [] (.row 1 3) [(.t 6)] Zy Zx) ⟨[(0,.agg [.int .i64 f1.Params,.sl (f1.Slots.map LY),.sl (f1.Code.map LV)]),(1,.agg [.sl (l2.Out.map (eL LR))]),(2,.int .i64 k3)],[],262144⟩ (QT f1 l2 k3)
 refine Mp<|?_
 unfold Agl QT
 refine sQ<|rG<|bX r r r r r<|bX r r r r r<|aN (α:=Int) r LR r<|nI<|xS<|sQ<|rG<|aN (α:=Int) r LR r<|nI<|xS<|sQ<|rG<|lO (v:=.agg [.int .i64 f1.Params,.sl (f1.Slots.map LY),.sl (f1.Code.map LV)]) (z:=.agg [.int .i64 f1.Params,.sl (f1.Slots.map LY),.sl (f1.Code.map LV)]) r r r r r r<|mV r r<|bD fun r4 hr4=>cR (l:=r4) (en:=LR) (f1,k3) r r r Xz r r (by simp) r hr4 r<|aO (l:=r4) (en:=LR) r r r r<|nI<|xS<|sQ<|sQ<|rG<|aS r r<|nI<|xS<|bK<|lP (E:=fun (s : (List Int) × Int) (g : Nat × Nat × Nat × Nat)=>[(2,.int .i64 k3),(3,.optr 3 g.1 0 0),(4,.optr 4 g.2.1 0 0),(7,.osl 7 g.2.2.1 0 s.1.length),(8,.osl 8 g.2.2.2 0 r4.length),(9,.int .i64 s.2)]) (O:=fun s g=>[(3,some (g.1,⟨false,true,3,33,[.agg [.int .i64 f1.Params,.sl (f1.Slots.map LY),.sl (f1.Code.map LV)]]⟩)),(4,some (g.2.1,⟨false,true,1,37,[.agg [.sl (l2.Out.map (eL LR))]]⟩)),(7,some (g.2.2.1,⟨false,false,1,3,s.1.map LR⟩)),(8,some (g.2.2.2,⟨false,false,1,3,r4.map LR⟩))]) (body:=fun s=>Pm r4 f1 l2 k3 s.1 s.2) (s:=(([] : List Int),0)) (_,_,_,_) ((hE ⟨rfl,r,r,r,r,r,trivial⟩ ⟨rfl,r,r,r,trivial⟩))<|?_
 rintro ⟨out5,i6⟩ ⟨v3x1,v4x1,v7x1,v8x1⟩ nn
 try dsimp only
 unfold Pm
 refine sQ<|sQ<|rG<|mV r r<|mV r r<|lW r r<|bN (v:=.bool (decide (i6 < (r4.length : Int)))) r r r r r<|nI<|xS<|cD (c:=(decide (i6 < (r4.length : Int)))) r ?_ ?_
 ·exact sK<|xS<|sQ<|bK<|sQ<|rG<|mV r r<|mV r r<|cK fun hq=>iO (l:=r4) (en:=LR) r r r r r hq<|bD fun next_e7 hnext_e7=>lO (v:=.int .i64 next_e7) (z:=LR next_e7) r r r (OU hnext_e7) r r<|aS r r<|nI<|xS<|rG<|mV r r<|fA r r<|lO (v:=.sl (f1.Code.map LV)) (z:=.agg [.int .i64 f1.Params,.sl (f1.Slots.map LY),.sl (f1.Code.map LV)]) r r r r r r<|mV r r<|bD fun x_x8 hx_x8=>iS (en:=LV) r r r hx_x8 r<|lF (v:=.agg [.int .i64 x_x8.Op,.int .i64 x_x8.A,.int .i64 x_x8.B,.int .i64 x_x8.C,.int .u64 x_x8.Imm]) r r r r<|fA r r<|lO (v:=.sl (l2.Out.map (eL LR))) (z:=.agg [.sl (l2.Out.map (eL LR))]) r r r r r r<|mV r r<|bD fun x_x9 hx_x9=>iS (en:=(eL LR)) r r r hx_x9 r<|lF (v:=.sl (x_x9.map LR)) r r r r<|bD fun r10 hr10=>cR (l:=r10) (en:=LR) (x_x8,x_x9) r r r ZL r r (by simp) r hr10 r<|fA r r<|lO (v:=.sl (l2.Out.map (eL LR))) (z:=.agg [.sl (l2.Out.map (eL LR))]) r r r r r r<|mV r r<|bD fun x_x11 hx_x11=>iS (en:=(eL LR)) r r r hx_x11 r<|lF (v:=.sl (x_x11.map LR)) r r r r<|bD fun r12 hr12=>cR (l:=r12) (en:=LR) (r10,x_x11) r r r Aaa r r (by simp) (by first | rfl | (simp only [Mt,Mz]; rfl) | simp [Tg]) hr12 r<|bD fun r13 hr13=>cR (l:=r13) (en:=LR) (out5,r12) r r r RJ r r (by simp) (by first | rfl | (simp only [Mt,Mz]; rfl) | simp [OR]) hr13 r<|aO (l:=r13) (en:=LR) r r r r<|Mj (by kernel_rfl)<|bM<|xS<|rG<|mV r r<|bN (v:=.int .i64 (IntKind.i64.wrap (i6 + 1))) r r r r r<|aS r r<|nI<|xL (s:=(r13,IntKind.i64.wrap (i6 + 1))) (_,_,_,_) ((hE ⟨rfl,r,r,r,r,r,trivial⟩ ⟨rfl,r,r,r,trivial⟩))
 ·refine eT<|xE<|lE<|bH<|xS<|sQ<|rG<|mV r r<|aO (l:=out5) (en:=LR) r r r r<|nI<|xS<|rT<|MA (b:=out5) r ?_ r r ?_ r ?_ (congrArg D.sl (Md _ _ r)) r
  all_goals first|(simp;done)|(simp;omega)|rfl|(simp [Ma,LZ];done)

def AfY : Ml:=(.seq (.reg [P 2 (.box (T 0) 3 33),P 3 (.box (T 1) 1 37),P 4 (.asg (C 0) none),P 5 (.asg (C 0) none),P 6 (.asg (.c (.bool false)) none)] false) (.seq (.seq (.reg [P 9 (.ld 3 true (T 2)),P 10 (.ld 1 true (T 3)),P 11 (.call (.c (.clo 66 [])) [(T 9),(T 10)]),P 12 (.un .not (T 11))] false) (.cond (T 12) (.seq (.reg [P 4 (.asg (C 0) none),P 5 (.asg (C 0) none),P 6 (.asg (.c (.bool false)) none)] false) .ret) .skip)) (.seq (.seq (.reg [P 7 (.asg (C 0) none)] false) (.block 0 (.loop (.seq (.seq (.reg [M 13 7,P 14 (.fldA 2 (T 2)),P 15 (.ld 1 false (T 14)),P 16 (.len false (T 15)),P 17 (.bin .lss (T 13) (T 16))] false) (.cond (T 17) .skip (.exit 0))) (.seq (.block 1 (.seq (.reg [P 20 (.ld 3 true (T 2)),P 21 (.ld 1 true (T 3)),M 22 7,P 23 (.call (.c (.clo 80 [])) [(T 20),(T 21),(T 22)]),⟨(some 8),(.asg (T 23) (some ⟨1,3⟩)),none,[]⟩] false) (.seq (.reg [M 24 8,P 25 (.len false (T 24)),P 26 (.bin .gtr (T 25) (C 0))] false) (.cond (T 26) (.seq (.reg [M 27 7,M 28 8,⟨(some 29),(.ixA 1 (T 28) (C 0)),none,[1]⟩,⟨(some 30),(.ld 1 false (T 29)),none,[2]⟩,⟨(some 4),(.asg (T 27) none),none,[0,0]⟩,⟨(some 5),(.asg (T 30) none),none,[3,4,0,1,2,3,4]⟩,⟨(some 6),(.asg (.c (.bool true)) none),none,[5,0,1,2,3,4,5]⟩] true) .ret) .skip)))) (.reg [M 18 7,P 19 (.bin .add (T 18) (C 1)),P 7 (.asg (T 19) none)] false)))))) (.seq (.reg [P 4 (.asg (C 0) none),P 5 (.asg (C 0) none),P 6 (.asg (.c (.bool false)) none)] false) .ret))))
theorem AiQ : (Tryd.f65.body.bind (Mn Tryd.prog Tryd.f65.ntmps)) = some AfY:=by kernel_rfl
theorem AiR : Tryd.f65.results.toList.mapM (Mw Tryd.prog) = some [(.t 4),(.t 5),(.t 6)]:=by kernel_rfl
def VR (a : LX × Me) : List D:=[MF a.1,Nl a.2]
def VQ (ds : List D) : LX × Me:=(NJ (ds.getD 0 .top),Pb (ds.getD 1 .top))
theorem Aaf (a : LX × Me) : VQ (VR a) = a:=by simp [VQ,VR]
def AaW (b : Int × Int × Bool) : D:=.tup [.int .i64 b.1,.int .i64 b.2.1,.bool b.2.2]
def AaV (_b : Int × Int × Bool) : List D:=[]
noncomputable def XD : Dw.Spec:=Mk [] .ground VR VQ (fun a=>SD a.1 a.2) AaW AaV
set_option maxHeartbeats 4000000 in
theorem AcY : Mi Tryd.prog 65 XD:=by
 refine Mu (Mo (l:=[(66,Sr),(80,VS)]) (by simp [Aag,Acs])) Tryd.func65 (by decide) AiQ AiR (np:=2) (by decide) Aaf (fun _=>r) (fun _=>r) (by decide)<|?_
 rintro ⟨f1,l2⟩
 show TrE (specs [(66,Sr),(80,VS)]) AfY (Mx [] .ground [(.t 4),(.t 5),(.t 6)] AaW AaV) ⟨[(0,.agg [.int .i64 f1.Params,.sl (f1.Slots.map LY),.sl (f1.Code.map LV)]),(1,.agg [.sl (l2.Out.map (eL LR))])],[],262144⟩ (SD f1 l2)
 refine Mp<|?_
 unfold AfY SD
 refine sQ<|rG<|bX r r r r r<|bX r r r r r<|aS r r<|aS r r<|aS r r<|nI<|xS<|sQ<|sQ<|rG<|lO (v:=.agg [.int .i64 f1.Params,.sl (f1.Slots.map LY),.sl (f1.Code.map LV)]) (z:=.agg [.int .i64 f1.Params,.sl (f1.Slots.map LY),.sl (f1.Code.map LV)]) r r r r r r<|lO (v:=.agg [.sl (l2.Out.map (eL LR))]) (z:=.agg [.sl (l2.Out.map (eL LR))]) r r r r r r<|bD fun r3 hr3=>cG (f1,l2) r r r WM r r (by simp) r hr3 r<|uN (w:=.bool (!r3)) r r r r trivial<|nI<|xS<|cD (c:=(!r3)) r ?_ ?_
 ·refine sQ<|rG<|aS r r<|aS r r<|aS r r<|nI<|xS<|rT<|xR<|MB (b:=(0,0,false)) r ?_ r r ?_ r (by decide)
  all_goals first|(simp;done)|(simp;omega)|rfl|(simp [Ma,LZ];done)
 ·refine sK<|xS<|sQ<|sQ<|rG<|aS r r<|nI<|xS<|bK<|lP (E:=fun (s : Int) (g : Nat × Nat)=>[(2,.optr 2 g.1 0 0),(3,.optr 3 g.2 0 0),(7,.int .i64 s)]) (O:=fun s g=>[(2,some (g.1,⟨false,true,3,33,[.agg [.int .i64 f1.Params,.sl (f1.Slots.map LY),.sl (f1.Code.map LV)]]⟩)),(3,some (g.2,⟨false,true,1,37,[.agg [.sl (l2.Out.map (eL LR))]]⟩))]) (body:=fun s=>TT f1 l2 s) (s:=0) (_,_) ((hE ⟨rfl,r,r,trivial⟩ ⟨rfl,r,trivial⟩))<|?_
  rintro k4 ⟨v2x1,v3x1⟩ nn
  try dsimp only
  unfold TT
  refine sQ<|sQ<|rG<|mV r r<|fA r r<|lO (v:=.sl (f1.Code.map LV)) (z:=.agg [.int .i64 f1.Params,.sl (f1.Slots.map LY),.sl (f1.Code.map LV)]) r r r r r r<|lS r r<|bN (v:=.bool (decide (k4 < (f1.Code.length : Int)))) r r r r r<|nI<|xS<|cD (c:=(decide (k4 < (f1.Code.length : Int)))) r ?_ ?_
  ·refine sK<|xS<|sQ<|bK<|sQ<|rG<|lO (v:=.agg [.int .i64 f1.Params,.sl (f1.Slots.map LY),.sl (f1.Code.map LV)]) (z:=.agg [.int .i64 f1.Params,.sl (f1.Slots.map LY),.sl (f1.Code.map LV)]) r r r r r r<|lO (v:=.agg [.sl (l2.Out.map (eL LR))]) (z:=.agg [.sl (l2.Out.map (eL LR))]) r r r r r r<|mV r r<|bD fun r5 hr5=>cR (l:=r5) (en:=LR) (f1,l2,k4) r r r YX r r (by simp) r hr5 r<|aO (l:=r5) (en:=LR) r r r r<|nI<|xS<|sQ<|rG<|mV r r<|lW r r<|bN (v:=.bool (decide ((r5.length : Int) > 0))) r r r r r<|nI<|xS<|cD (c:=(decide ((r5.length : Int) > 0))) r ?_ ?_
   ·refine sQ<|rG<|mV r r<|mV r r<|cK fun hq=>iO (l:=r5) (en:=LR) r r r r r hq<|bD fun m_e6 hm_e6=>lO (v:=.int .i64 m_e6) (z:=LR m_e6) r r r (OU hm_e6) r r<|aS r r<|aS r r<|aS r r<|Mj (by kernel_rfl)<|xS<|rT<|bR<|xR<|lR<|bR<|xR<|MB (b:=(k4,m_e6,true)) r ?_ r r ?_ r (by decide)
    all_goals first|(simp;done)|(simp;omega)|rfl|(simp [Ma,LZ];done)
   ·exact sK<|bM<|xS<|rG<|mV r r<|bN (v:=.int .i64 (IntKind.i64.wrap (k4 + 1))) r r r r r<|aS r r<|nI<|xL (s:=IntKind.i64.wrap (k4 + 1)) (_,_) ((hE ⟨rfl,r,r,trivial⟩ ⟨rfl,r,trivial⟩))
  ·refine eT<|xE<|lE<|bH<|xS<|sQ<|rG<|aS r r<|aS r r<|aS r r<|nI<|xS<|rT<|MB (b:=(0,0,false)) r ?_ r r ?_ r (by decide)
   all_goals first|(simp;done)|(simp;omega)|rfl|(simp [Ma,LZ];done)

end Go.Proofs.YtfpgidpffhmadaaDoor
