/-
  Programs on typed data, and the proofs that the code does what they say; written by a program (dx.py).
-/
import Derived.Test.YtcelninhkmhjkaaDoorProg
import Derived.Test.YtcelninhkmhjkaaDoorDc
import Derived.KernelRfl
import Derived.Test.YtcelninhkmhjkaaDoorDxP
import Derived.Test.YtcelninhkmhjkaaDoorDxF1
import Derived.Test.YtcelninhkmhjkaaDoorDxF2
import Derived.Test.YtcelninhkmhjkaaDoorDxF3
import Derived.Test.YtcelninhkmhjkaaDoorDxF4
namespace Go.Proofs.YtcelninhkmhjkaaDoor
open Go Go.Dw Go.Proofs
set_option maxRecDepth 100000
open Go.Dw renaming YC → mV,WI → bN,Qv → lO,Vi → bD,WL → cK,WN → nI,WR → xS,YD → rG,YF → sQ,SZ → aO,WH → aS,WO → oF,WJ → bL,Vj → bS,Qc → cV,Ps → cG,Qb → cR,WG → aP,Qw → sV,Vn → sE,Sk → iS,Ta → iO,Sl → lS,Tb → lW,Vk → fA,WD → fF,Aaa → eX,ZV → nC,Ty → lF,TN → sP,OY → pT,Ov → pF,ZW → uN,Abf → cT,WM → nW,WK → bX,SY → aN,WC → aL,WS → cD,Vm → bK,YE → rT,WV → sK,WT → eT,WQ → xC,Vl → xL,Te → xR,RV → lR,TG → hE,OZ → lE,Qe → bH,Ow → bM,Td → bR,Qf → xE,UD → cP,WU → lP,Sn → sC,Sm → bC,rf → r
def AdQ : Kb:=(.seq (.reg [P 3 (.box (T 1) 3 27),P 4 (.new (.agg [.nils]) 1 30)] false) (.seq (.reg [P 11 (.ld 3 true (T 3)),P 12 (.call (.c (.clo 24 [])) [(T 11)]),P 5 (.new (.agg [.nils]) 1 30),⟨none,(.st 1 (T 5) (T 12)),none,[]⟩] false) (.seq (.seq (.reg [M 13 0,P 14 (.call (.c (.clo 54 [])) [(T 13),(C 3)]),P 15 (.bin .eql (T 14) (C 0))] false) (.cond (T 15) (.seq (.reg [P 16 (.ld 1 true (T 5)),⟨none,(.st 1 (T 4) (T 16)),none,[]⟩] false) .ret) .skip)) (.seq (.reg [P 17 (.fldA 0 (T 5)),P 18 (.ld 1 false (T 17)),P 19 (.app 1 36 24 (.c .nils) (T 18)),⟨(some 20),(.bld [.nils] [⟨0,⟨1,(T 19)⟩⟩]),none,[]⟩,P 6 (.new (.agg [.nils]) 1 30),⟨none,(.st 1 (T 6) (T 20)),none,[]⟩] false) (.seq (.seq (.reg [M 21 0,P 22 (.call (.c (.clo 54 [])) [(T 21),(C 4)]),P 7 (.asg (T 22) none)] false) (.block 0 (.loop (.seq (.seq (.reg [M 23 7,P 24 (.bin .gtr (T 23) (C 0)),M 25 24,⟨(some 26),(.fldA 1 (T 3)),(some ⟨25,true⟩),[]⟩,⟨(some 27),(.ld 1 false (T 26)),(some ⟨25,true⟩),[]⟩,⟨(some 28),(.len false (T 27)),(some ⟨25,true⟩),[]⟩,⟨(some 29),(.bin .gtr (T 28) (C 0)),(some ⟨25,true⟩),[]⟩,P 30 (.pick (T 25) (T 29) (.c (.bool false)))] false) (.cond (T 30) .skip (.exit 0))) (.seq (.block 1 (.seq (.reg [M 33 0,P 34 (.fldA 1 (T 3)),P 35 (.ld 1 false (T 34)),P 36 (.len false (T 35)),P 37 (.call (.c (.clo 54 [])) [(T 33),(T 36)]),P 8 (.asg (T 37) none)] false) (.seq (.seq (.reg [M 38 0,P 39 (.call (.c (.clo 54 [])) [(T 38),(C 2)]),P 40 (.bin .eql (T 39) (C 0))] false) (.cond (T 40) (.seq (.seq (.reg [P 9 (.asg (C 0) none)] false) (.block 2 (.loop (.seq (.seq (.reg [M 41 9,P 42 (.fldA 0 (T 6)),P 43 (.ld 1 false (T 42)),P 44 (.len false (T 43)),P 45 (.bin .lss (T 41) (T 44))] false) (.cond (T 45) .skip (.exit 2))) (.seq (.block 3 (.reg [P 48 (.fldA 0 (T 6)),⟨(some 49),(.ld 1 false (T 48)),none,[0]⟩,M 50 9,P 51 (.fldA 0 (T 6)),⟨(some 52),(.ld 1 false (T 51)),none,[3]⟩,M 53 9,⟨(some 54),(.ixA 1 (T 52) (T 53)),none,[4,5]⟩,⟨(some 55),(.ld 1 false (T 54)),none,[6]⟩,M 56 8,⟨(some 57),(.call (.c (.clo 44 [])) [(T 55),(T 56)]),none,[7,8]⟩,⟨(some 58),(.ixA 1 (T 49) (T 50)),none,[1,2,0,1,2,3,4,5,6,7,8,9]⟩,⟨none,(.st 1 (T 58) (T 57)),none,[10,9,9,0,1,2,3,4,5,6,7,8,9]⟩] true)) (.reg [M 46 9,P 47 (.bin .add (T 46) (C 1)),P 9 (.asg (T 47) none)] false)))))) (.exit 1)) .skip)) (.seq (.reg [M 59 0,P 60 (.fldA 0 (T 6)),P 61 (.ld 1 false (T 60)),P 62 (.len false (T 61)),P 63 (.call (.c (.clo 54 [])) [(T 59),(T 62)]),P 10 (.asg (T 63) none)] false) (.seq (.reg [M 64 0,P 65 (.call (.c (.clo 54 [])) [(T 64),(C 2)]),P 66 (.bin .eql (T 65) (C 0))] false) (.cond (T 66) (.reg [P 67 (.fldA 0 (T 6)),⟨(some 68),(.ld 1 false (T 67)),none,[0]⟩,M 69 10,P 70 (.fldA 0 (T 6)),⟨(some 71),(.ld 1 false (T 70)),none,[3]⟩,M 72 10,⟨(some 73),(.ixA 1 (T 71) (T 72)),none,[4,5]⟩,⟨(some 74),(.ld 1 false (T 73)),none,[6]⟩,M 75 8,⟨(some 76),(.call (.c (.clo 44 [])) [(T 74),(T 75)]),none,[7,8]⟩,⟨(some 77),(.ixA 1 (T 68) (T 69)),none,[1,2,0,1,2,3,4,5,6,7,8,9]⟩,⟨none,(.st 1 (T 77) (T 76)),none,[10,9,9,0,1,2,3,4,5,6,7,8,9]⟩] true) (.reg [P 78 (.fldA 0 (T 6)),⟨(some 79),(.ld 1 false (T 78)),none,[0]⟩,M 80 10,P 81 (.fldA 0 (T 6)),⟨(some 82),(.ld 1 false (T 81)),none,[3]⟩,M 83 10,⟨(some 84),(.ixA 1 (T 82) (T 83)),none,[4,5]⟩,⟨(some 85),(.ld 1 false (T 84)),none,[6]⟩,M 86 8,⟨(some 87),(.call (.c (.clo 29 [])) [(T 85),(T 86)]),none,[7,8]⟩,⟨(some 88),(.ixA 1 (T 79) (T 80)),none,[1,2,0,1,2,3,4,5,6,7,8,9]⟩,⟨none,(.st 1 (T 88) (T 87)),none,[10,9,9,0,1,2,3,4,5,6,7,8,9]⟩] true))))))) (.reg [M 31 7,P 32 (.bin .sub (T 31) (C 1)),P 7 (.asg (T 32) none)] false)))))) (.seq (.seq (.reg [M 89 0,P 90 (.call (.c (.clo 54 [])) [(T 89),(C 12)])] false) (.block 4 (.seq (.reg [P 92 (.bin .eql (T 90) (C 10)),P 91 (.asg (T 92) none)] false) (.cond (T 91) (.reg [P 93 (.fldA 0 (T 6)),P 94 (.ld 1 false (T 93)),⟨(some 95),(.slc 1 (T 94) (some (C 1)) none),none,[]⟩,P 96 (.fldA 0 (T 6)),⟨none,(.st 1 (T 96) (T 95)),none,[]⟩] false) (.seq (.reg [P 98 (.bin .eql (T 90) (C 11)),P 97 (.asg (T 98) none)] false) (.cond (T 97) (.reg [P 99 (.fldA 0 (T 6)),⟨(some 100),(.ld 1 false (T 99)),none,[0]⟩,M 101 0,⟨(some 102),(.call (.c (.clo 72 [])) [(T 101)]),none,[2]⟩,M 103 0,⟨(some 104),(.call (.c (.clo 72 [])) [(T 103)]),none,[4,3]⟩,⟨(some 105),(.bldS 1 3 (.int .i64 0) 2 [⟨0,(T 102)⟩,⟨1,(T 104)⟩]),none,[3,5]⟩,⟨(some 106),(.ixA 1 (T 100) (C 0)),none,[1,0,1,2,3,4,5,6]⟩,⟨none,(.st 1 (T 106) (T 105)),none,[7,6,5,0,1,2,3,4,5,6]⟩] true) .skip)))))) (.seq (.reg [P 107 (.ld 1 true (T 6)),⟨none,(.st 1 (T 4) (T 107)),none,[]⟩] false) .ret)))))))
theorem AgC : (Tryd.f34.body.bind (Ke Tryd.prog Tryd.f34.ntmps)) = some AdQ:=by kernel_rfl
theorem AgD : Tryd.f34.results.toList.mapM (Kl Tryd.prog) = some [(.c 4 1 true)]:=by kernel_rfl
def QS (a : JJ × JN) : List D:=[Kp a.1,Ku a.2]
def QQ (ds : List D) : JJ × JN:=(LG (ds.getD 0 .top),Mi (ds.getD 1 .top))
theorem Vr (a : JJ × JN) : QQ (QS a) = a:=by simp [QQ,QS]
def Oc (b : JP × JJ) : D:=KF b.1
def Wb (b : JP × JJ) : List D:=[Kp b.2]
noncomputable def SC : Dw.Spec:=JZ [(0,(2,100))] .val QS QQ (fun a=>NO a.1 a.2) Oc Wb
set_option maxHeartbeats 4000000 in
theorem Zw : JX Tryd.prog 34 SC:=by
 refine Kh (Kd (l:=[(24,VU),(54,Ki),(44,SW),(29,Nt),(72,Tq)]) (by simp [Abc,KT,ZG,Uo,Aae])) Tryd.func34 (by decide) AgC AgD (np:=2) (by decide) Vr (fun _=>r) (fun _=>r) (by decide)<|?_
 rintro ⟨c1,f2⟩
 show TrE (specs [(24,VU),(54,Ki),(44,SW),(29,Nt),(72,Tq)]) AdQ (Km [(0,(2,100))] .val [(.c 4 1 true)] Oc Wb) ⟨[(0,.optr 8192 0 0 0),(1,.agg [.int .i64 f2.Params,.sl (f2.Slots.map JQ),.sl (f2.Code.map JM)])],[(8192,some (0,⟨false,true,2,100,[.agg [.sl (c1.list.map eU8),.int .i64 c1.at_]]⟩))],262144⟩ (NO c1 f2)
 refine Kf<|?_
 unfold AdQ NO
 refine sQ<|rG<|bX r r r r r<|nW r<|nI<|xS<|sQ<|rG<|lO (v:=.agg [.int .i64 f2.Params,.sl (f2.Slots.map JQ),.sl (f2.Code.map JM)]) (z:=.agg [.int .i64 f2.Params,.sl (f2.Slots.map JQ),.sl (f2.Code.map JM)]) r r r r r r<|bD fun r3 hr3=>cV f2 r r r Yx r r (by simp) r hr3<|nW r<|sV (z':=.agg [.sl (r3.Out.map (eL Ed))]) r r r r r r r r r<|nI<|xS<|sQ<|sQ<|rG<|mV r r<|bD fun r4 hr4=>cV (c1,3) r r r JS r r (by simp) r hr4<|bN (v:=.bool (r4.1 == 0)) r r r r r<|nI<|xS<|cD (c:=(r4.1 == 0)) r ?_ ?_
 ·refine sQ<|rG<|lO (v:=.agg [.sl (r3.Out.map (eL Ed))]) (z:=.agg [.sl (r3.Out.map (eL Ed))]) r r r r r r<|sV (z':=.agg [.sl (r3.Out.map (eL Ed))]) r r r r r r r r r<|nI<|xS<|rT<|xR<|KC (b:=(r3,r4.2)) r ?_ r r ?_ r
  all_goals first|(simp;done)|(simp;omega)|rfl|(simp [JR,JO];done)
 ·refine sK<|xS<|sQ<|rG<|fA r r<|lO (v:=.sl (r3.Out.map (eL Ed))) (z:=.agg [.sl (r3.Out.map (eL Ed))]) r r r r r r<|cK fun hq=>aP (([] : List (List Int))) (r3.Out) (eL Ed) r r r r r r r (by simp) r r r (by simp) r (fun _=>r) r hq<|bL (cs:=[.osl 19 _ 0 ((([] : List (List Int)) ++ r3.Out).length)]) (ps:=[(0,1,.osl 19 _ 0 ((([] : List (List Int)) ++ r3.Out).length))]) r r r r<|nW r<|sV (z':=.agg [.osl 19 _ 0 ((([] : List (List Int)) ++ r3.Out).length)]) r r r r r r r r r<|nI<|xS<|sC (E:=fun (s : (List Int) × Int × (List (List Int))) (g : Nat × Nat × Nat)=>[(0,.optr 8192 0 0 0),(4,.optr 4 g.1 0 0),(6,.optr 6 g.2.1 0 0)]) (O:=fun s g=>[(4,some (g.1,⟨false,true,1,30,[.agg [.nils]]⟩)),(6,some (g.2.1,⟨false,true,1,30,[.agg [.osl 19 g.2.2 0 s.2.2.length]]⟩)),(19,some (g.2.2,⟨false,false,1,36,s.2.2.map (eL Ed)⟩)),(8192,some (0,⟨false,true,2,100,[.agg [.sl (s.1.map eU8),.int .i64 s.2.1]]⟩))]) (j:=fun s=>Mw s.1 s.2.1 s.2.2) ?_ ?_
  ·refine sQ<|rG<|mV r r<|bD fun r8 hr8=>cV (r4.2,4) r r r JS r r (by simp) r hr8<|aS r r<|nI<|xS<|bK<|lP (E:=fun (s : (List Int) × Int × (List (List Int)) × Int) (g : Nat × Nat × Nat × Nat)=>[(0,.optr 8192 0 0 0),(3,.optr 3 g.1 0 0),(4,.optr 4 g.2.1 0 0),(6,.optr 6 g.2.2.1 0 0),(7,.int .i64 s.2.2.2)]) (O:=fun s g=>[(3,some (g.1,⟨false,true,3,27,[.agg [.int .i64 f2.Params,.sl (f2.Slots.map JQ),.sl (f2.Code.map JM)]]⟩)),(4,some (g.2.1,⟨false,true,1,30,[.agg [.nils]]⟩)),(6,some (g.2.2.1,⟨false,true,1,30,[.agg [.osl 19 g.2.2.2 0 s.2.2.1.length]]⟩)),(19,some (g.2.2.2,⟨false,false,1,36,s.2.2.1.map (eL Ed)⟩)),(8192,some (0,⟨false,true,2,100,[.agg [.sl (s.1.map eU8),.int .i64 s.2.1]]⟩))]) (body:=fun s=>Pe f2 s.1 s.2.1 s.2.2.1 s.2.2.2) (s:=(r8.2.list,r8.2.at_,([] : List (List Int)) ++ r3.Out,r8.1)) (_,_,_,_) ((hE ⟨rfl,r,r,r,r,trivial⟩ ⟨rfl,r,r,r,r,trivial⟩))<|?_
   rintro ⟨c9,c10,x11,n12⟩ ⟨v3x1,v4x1,v6x1,v19x1⟩ nn
   try dsimp only
   unfold Pe
   refine sC (E:=fun (s : Unit) (g : Nat × Nat × Nat × Nat)=>[(0,.optr 8192 0 0 0),(3,.optr 3 g.1 0 0),(4,.optr 4 g.2.1 0 0),(6,.optr 6 g.2.2.1 0 0),(7,.int .i64 n12),(26,.optr 3 g.1 0 1),(27,.sl (f2.Slots.map JQ)),(28,.int .i64 (f2.Slots.length : Int)),(29,.bool (decide ((f2.Slots.length : Int) > 0)))]) (O:=fun s g=>[(3,some (g.1,⟨false,true,3,27,[.agg [.int .i64 f2.Params,.sl (f2.Slots.map JQ),.sl (f2.Code.map JM)]]⟩)),(4,some (g.2.1,⟨false,true,1,30,[.agg [.nils]]⟩)),(6,some (g.2.2.1,⟨false,true,1,30,[.agg [.osl 19 g.2.2.2 0 x11.length]]⟩)),(19,some (g.2.2.2,⟨false,false,1,36,x11.map (eL Ed)⟩)),(8192,some (0,⟨false,true,2,100,[.agg [.sl (c9.map eU8),.int .i64 c10]]⟩))]) (j:=fun s=>Pg c9 c10 f2 n12 x11) ?_ ?_
   ·refine sQ<|rG<|mV r r<|bN (v:=.bool (decide (n12 > 0))) r r r r r<|mV r r<|sP 25 (b:=(decide (n12 > 0))) r ?_ ?_
    ·refine fA r r<|lO (v:=.sl (f2.Slots.map JQ)) (z:=.agg [.int .i64 f2.Params,.sl (f2.Slots.map JQ),.sl (f2.Code.map JM)]) r r r r r r<|lS r r<|bN (v:=.bool (decide ((f2.Slots.length : Int) > 0))) r r r r r<|pT r r r r<|nI<|xS<|cD (c:=(decide ((f2.Slots.length : Int) > 0))) r ?_ ?_
     ·exact sK<|xC (s:=()) (_,_,_,_) ((hE ⟨rfl,r,r,r,r,r,r,r,r,trivial⟩ ⟨rfl,r,r,r,r,trivial⟩))
     ·exact eT<|ZX<|lE<|bH<|xC (s:=(c9,c10,x11)) (_,_,_) ((hE ⟨rfl,r,r,trivial⟩ ⟨rfl,r,r,r,trivial⟩))
    ·exact oF r<|oF r<|oF r<|oF r<|pF r r r r<|nI<|xS<|QF r<|eT<|ZX<|lE<|bH<|xC (s:=(c9,c10,x11)) (_,_,_) ((hE ⟨rfl,r,r,trivial⟩ ⟨rfl,r,r,r,trivial⟩))
   ·rintro ⟨⟩ ⟨v3x2,v4x2,v6x2,v19x2⟩ nn
    try dsimp only
    unfold Pg
    refine bC (E:=fun (s : (List Int) × Int × (List (List Int))) (g : Nat × Nat × Nat × Nat)=>[(0,.optr 8192 0 0 0),(3,.optr 3 g.1 0 0),(4,.optr 4 g.2.1 0 0),(6,.optr 6 g.2.2.1 0 0),(7,.int .i64 n12),(26,.optr 3 g.1 0 1),(27,.sl (f2.Slots.map JQ)),(28,.int .i64 (f2.Slots.length : Int)),(29,.bool (decide ((f2.Slots.length : Int) > 0)))]) (O:=fun s g=>[(3,some (g.1,⟨false,true,3,27,[.agg [.int .i64 f2.Params,.sl (f2.Slots.map JQ),.sl (f2.Code.map JM)]]⟩)),(4,some (g.2.1,⟨false,true,1,30,[.agg [.nils]]⟩)),(6,some (g.2.2.1,⟨false,true,1,30,[.agg [.osl 19 g.2.2.2 0 s.2.2.length]]⟩)),(19,some (g.2.2.2,⟨false,false,1,36,s.2.2.map (eL Ed)⟩)),(8192,some (0,⟨false,true,2,100,[.agg [.sl (s.1.map eU8),.int .i64 s.2.1]]⟩))]) (j:=fun s=>LX n12 s.1 s.2.1 s.2.2) ?_ ?_
    ·refine sQ<|rG<|mV r r<|fA r r<|lO (v:=.sl (f2.Slots.map JQ)) (z:=.agg [.int .i64 f2.Params,.sl (f2.Slots.map JQ),.sl (f2.Code.map JM)]) r r r r r r<|lS r r<|bD fun r16 hr16=>cV ((JJ.mk c9 c10),(f2.Slots.length : Int)) r r r JS r r (by simp) r hr16<|aS r r<|nI<|xS<|sQ<|sQ<|rG<|mV r r<|bD fun r17 hr17=>cV (r16.2,2) r r r JS r r (by simp) r hr17<|bN (v:=.bool (r17.1 == 0)) r r r r r<|nI<|xS<|cD (c:=(r17.1 == 0)) r ?_ ?_
     ·refine sQ<|sQ<|rG<|aS r r<|nI<|xS<|bK<|lP (E:=fun (s : (List (List Int)) × Int) (g : Nat × Nat × Nat × Nat)=>[(0,.optr 8192 0 0 0),(3,.optr 3 g.1 0 0),(4,.optr 4 g.2.1 0 0),(6,.optr 6 g.2.2.1 0 0),(7,.int .i64 n12),(8,.int .i64 r16.1),(9,.int .i64 s.2),(26,.optr 3 g.1 0 1),(27,.sl (f2.Slots.map JQ)),(28,.int .i64 (f2.Slots.length : Int)),(29,.bool (decide ((f2.Slots.length : Int) > 0)))]) (O:=fun s g=>[(3,some (g.1,⟨false,true,3,27,[.agg [.int .i64 f2.Params,.sl (f2.Slots.map JQ),.sl (f2.Code.map JM)]]⟩)),(4,some (g.2.1,⟨false,true,1,30,[.agg [.nils]]⟩)),(6,some (g.2.2.1,⟨false,true,1,30,[.agg [.osl 19 g.2.2.2 0 s.1.length]]⟩)),(19,some (g.2.2.2,⟨false,false,1,36,s.1.map (eL Ed)⟩)),(8192,some (0,⟨false,true,2,100,[.agg [.sl (r17.2.list.map eU8),.int .i64 r17.2.at_]]⟩))]) (body:=fun s=>Pf r16 n12 r17 s.1 s.2) (s:=(x11,0)) (_,_,_,_) ((hE ⟨rfl,r,r,r,r,r,r,r,r,r,r,trivial⟩ ⟨rfl,r,r,r,r,trivial⟩))<|?_
      rintro ⟨x18,k19⟩ ⟨v3x3,v4x3,v6x3,v19x3⟩ nn
      try dsimp only
      unfold Pf
      refine sQ<|sQ<|rG<|mV r r<|fA r r<|lO (v:=.osl 19 _ 0 x18.length) (z:=.agg [.osl 19 _ 0 x18.length]) r r r r r r<|lW r r<|bN (v:=.bool (decide (k19 < (x18.length : Int)))) r r r r r<|nI<|xS<|cD (c:=(decide (k19 < (x18.length : Int)))) r ?_ ?_
      ·exact sK<|xS<|sQ<|bK<|rG<|fA r r<|lO (v:=.osl 19 _ 0 x18.length) (z:=.agg [.osl 19 _ 0 x18.length]) r r r r r r<|mV r r<|fA r r<|lO (v:=.osl 19 _ 0 x18.length) (z:=.agg [.osl 19 _ 0 x18.length]) r r r r r r<|mV r r<|cK fun hq=>iO (l:=x18) (en:=(eL Ed)) r r r r r hq<|bD fun x_e20 hx_e20=>lO (v:=.sl (x_e20.map Ed)) (z:=(eL Ed) x_e20) r r r (Md hx_e20) r r<|mV r r<|bD fun r21 hr21=>cR (l:=r21) (en:=Ed) (x_e20,r16.1) r r r Uk r r (by simp) r hr21 r<|cK fun hq=>iO (l:=x18) (en:=(eL Ed)) r r r r r hq<|bD fun x_o22 hx_o22=>sE (l:=x18) (en:=(eL Ed)) (q':=r21) r r r r r r r (by simp) hx_o22 r r r (by simp [Lf,cells,setAt,eL]) r<|Ka (by kernel_rfl)<|bM<|xS<|rG<|mV r r<|bN (v:=.int .i64 (IntKind.i64.wrap (k19 + 1))) r r r r r<|aS r r<|nI<|xL (s:=(x18.set k19.toNat r21,IntKind.i64.wrap (k19 + 1))) (_,_,_,_) ((hE ⟨rfl,r,r,r,r,r,r,r,r,r,r,trivial⟩ ⟨rfl,r,(Eq.trans (b:=some (_,⟨false,true,1,30,[.agg [.osl 19 _ 0 x18.length]]⟩)) r (by simp)),r,r,trivial⟩))
      ·exact eT<|xE<|lE<|bH<|xS<|eT<|xE<|Abw (s:=(r17.2.list,r17.2.at_,x18)) (_,_,_,_) ((hE ⟨rfl,r,r,r,r,r,r,r,r,trivial⟩ ⟨rfl,r,r,r,r,trivial⟩))
     ·refine sK<|xS<|sQ<|rG<|mV r r<|fA r r<|lO (v:=.osl 19 _ 0 x11.length) (z:=.agg [.osl 19 _ 0 x11.length]) r r r r r r<|lW r r<|bD fun r23 hr23=>cV (r17.2,(x11.length : Int)) r r r JS r r (by simp) r hr23<|aS r r<|nI<|xS<|sQ<|rG<|mV r r<|bD fun r24 hr24=>cV (r23.2,2) r r r JS r r (by simp) r hr24<|bN (v:=.bool (r24.1 == 0)) r r r r r<|nI<|xS<|cD (c:=(r24.1 == 0)) r ?_ ?_
      ·exact rG<|fA r r<|lO (v:=.osl 19 _ 0 x11.length) (z:=.agg [.osl 19 _ 0 x11.length]) r r r r r r<|mV r r<|fA r r<|lO (v:=.osl 19 _ 0 x11.length) (z:=.agg [.osl 19 _ 0 x11.length]) r r r r r r<|mV r r<|cK fun hq=>iO (l:=x11) (en:=(eL Ed)) r r r r r hq<|bD fun x_e25 hx_e25=>lO (v:=.sl (x_e25.map Ed)) (z:=(eL Ed) x_e25) r r r (Md hx_e25) r r<|mV r r<|bD fun r26 hr26=>cR (l:=r26) (en:=Ed) (x_e25,r16.1) r r r Uk r r (by simp) r hr26 r<|cK fun hq=>iO (l:=x11) (en:=(eL Ed)) r r r r r hq<|bD fun x_o27 hx_o27=>sE (l:=x11) (en:=(eL Ed)) (q':=r26) r r r r r r r (by simp) hx_o27 r r r (by simp [Lf,cells,setAt,eL]) r<|Ka (by kernel_rfl)<|Pt (s:=(r24.2.list,r24.2.at_,x11.set r23.1.toNat r26)) (_,_,_,_) ((hE ⟨rfl,r,r,r,r,r,r,r,r,trivial⟩ ⟨rfl,r,(Eq.trans (b:=some (_,⟨false,true,1,30,[.agg [.osl 19 _ 0 x11.length]]⟩)) r (by simp)),r,r,trivial⟩))
      ·exact rG<|fA r r<|lO (v:=.osl 19 _ 0 x11.length) (z:=.agg [.osl 19 _ 0 x11.length]) r r r r r r<|mV r r<|fA r r<|lO (v:=.osl 19 _ 0 x11.length) (z:=.agg [.osl 19 _ 0 x11.length]) r r r r r r<|mV r r<|cK fun hq=>iO (l:=x11) (en:=(eL Ed)) r r r r r hq<|bD fun x_e28 hx_e28=>lO (v:=.sl (x_e28.map Ed)) (z:=(eL Ed) x_e28) r r r (Md hx_e28) r r<|mV r r<|bD fun r29 hr29=>cR (l:=r29) (en:=Ed) (x_e28,r16.1) r r r Rq r r (by simp) r hr29 r<|cK fun hq=>iO (l:=x11) (en:=(eL Ed)) r r r r r hq<|bD fun x_o30 hx_o30=>sE (l:=x11) (en:=(eL Ed)) (q':=r29) r r r r r r r (by simp) hx_o30 r r r (by simp [Lf,cells,setAt,eL]) r<|Ka (by kernel_rfl)<|Pt (s:=(r24.2.list,r24.2.at_,x11.set r23.1.toNat r29)) (_,_,_,_) ((hE ⟨rfl,r,r,r,r,r,r,r,r,trivial⟩ ⟨rfl,r,(Eq.trans (b:=some (_,⟨false,true,1,30,[.agg [.osl 19 _ 0 x11.length]]⟩)) r (by simp)),r,r,trivial⟩))
    ·rintro ⟨c13,c14,x15⟩ ⟨v3x4,v4x4,v6x4,v19x4⟩ nn
     try dsimp only
     unfold LX
     exact rG<|mV r r<|bN (v:=.int .i64 (IntKind.i64.wrap (n12 - 1))) r r r r r<|aS r r<|nI<|xL (s:=(c13,c14,x15,IntKind.i64.wrap (n12 - 1))) (_,_,_,_) ((hE ⟨rfl,r,r,r,r,trivial⟩ ⟨rfl,r,r,r,r,trivial⟩))
  ·rintro ⟨c5,c6,x7⟩ ⟨v4x5,v6x5,v19x5⟩ nn
   try dsimp only
   unfold Mw
   refine sQ<|sQ<|rG<|mV r r<|bD fun r31 hr31=>cV ((JJ.mk c5 c6),12) r r r JS r r (by simp) r hr31<|nI<|xS<|bK<|sQ<|rG<|bN (v:=.bool (r31.1 == 10)) r r r r r<|aS r r<|nI<|xS<|cD (c:=(r31.1 == 10)) r ?_ ?_
   ·refine rG<|fA r r<|lO (v:=.osl 19 _ 0 x7.length) (z:=.agg [.osl 19 _ 0 x7.length]) r r r r r r<|cK fun hq=>Abh (l:=x7) r r r r r r hq<|fA r r<|sV (z':=.agg [.osl 19 _ ((1 : Int).toNat) (x7.length - (1 : Int).toNat)]) r r r r r r r r r<|nI<|bM<|xS<|sQ<|rG<|lO (v:=.agg [.osl 19 _ ((1 : Int).toNat) (x7.length - (1 : Int).toNat)]) (z:=.agg [.osl 19 _ ((1 : Int).toNat) (x7.length - (1 : Int).toNat)]) r r r r r r<|sV (z':=.agg [.osl 19 _ ((1 : Int).toNat) (x7.length - (1 : Int).toNat)]) r r r r r r r r r<|nI<|xS<|rT<|KC (b:=((JP.mk (x7.drop ((1 : Int).toNat))),r31.2)) r ?_ r r ?_ (by first | rfl | (simp only [Kn,Ks]; rfl) | simp [Oc,KF])
    all_goals first|(simp;done)|(simp;omega)|rfl|(simp [JR,JO];done)
   ·refine sQ<|rG<|bN (v:=.bool (r31.1 == 11)) r r r r r<|aS r r<|nI<|xS<|cD (c:=(r31.1 == 11)) r ?_ ?_
    ·refine rG<|fA r r<|lO (v:=.osl 19 _ 0 x7.length) (z:=.agg [.osl 19 _ 0 x7.length]) r r r r r r<|mV r r<|bD fun r32 hr32=>cV r31.2 r r r SA r r (by simp) r hr32<|mV r r<|bD fun r33 hr33=>cV r32.2 r r r SA r r (by simp) r hr33<|bS ([r32.1,r33.1] : List Int) Ed r r r (by simp) r r r<|cK fun hq=>iO (l:=x7) (en:=(eL Ed)) r r r r r hq<|bD fun x_o34 hx_o34=>sE (l:=x7) (en:=(eL Ed)) (q':=([r32.1,r33.1] : List Int)) r r r r r r r (by simp) hx_o34 r r r (by simp [Lf,cells,setAt,eL]) r<|Ka (by kernel_rfl)<|bM<|xS<|sQ<|rG<|lO (v:=.agg [.osl 19 _ 0 x7.length]) (z:=.agg [.osl 19 _ 0 x7.length]) r r r r r r<|sV (z':=.agg [.osl 19 _ 0 x7.length]) r r r r r r r r r<|nI<|xS<|rT<|KC (b:=((JP.mk (x7.set ((0 : Int).toNat) ([r32.1,r33.1] : List Int))),r33.2)) r ?_ r r ?_ (by first | rfl | (simp only [Kn,Ks]; rfl) | simp [Oc,KF])
     all_goals first|(simp;done)|(simp;omega)|rfl|(simp [JR,JO];done)
    ·refine sK<|bM<|xS<|sQ<|rG<|lO (v:=.agg [.osl 19 _ 0 x7.length]) (z:=.agg [.osl 19 _ 0 x7.length]) r r r r r r<|sV (z':=.agg [.osl 19 _ 0 x7.length]) r r r r r r r r r<|nI<|xS<|rT<|KC (b:=((JP.mk x7),r31.2)) r ?_ r r ?_ (by first | rfl | (simp only [Kn,Ks]; rfl) | simp [Oc,KF])
     all_goals first|(simp;done)|(simp;omega)|rfl|(simp [JR,JO];done)

def AdI : Kb:=(.seq (.reg [P 2 (.new (.agg [(.int .i64 0),.nils,.nils]) 3 27),P 3 (.new (.agg [.nils]) 1 30),P 4 (.asg (.c .top) none)] false) (.seq (.reg [M 8 0,P 9 (.call (.c (.clo 52 [])) [(T 8),(C 250)]),P 5 (.asg (T 9) none)] false) (.seq (.reg [M 10 5,P 11 (.call (.c (.clo 53 [])) [(T 10),(C 3),(C 12)]),P 6 (.new (.agg [.nils]) 1 70),⟨none,(.st 1 (T 6) (T 11)),none,[]⟩] false) (.seq (.reg [P 12 (.fldA 0 (T 6)),⟨(some 13),(.ld 1 false (T 12)),none,[0]⟩,M 14 5,P 15 (.fldA 0 (T 6)),⟨(some 16),(.ld 1 false (T 15)),none,[3]⟩,⟨(some 17),(.len false (T 16)),none,[4]⟩,⟨(some 18),(.call (.c (.clo 54 [])) [(T 14),(T 17)]),none,[2,5]⟩,⟨(some 19),(.ixA 3 (T 13) (T 18)),none,[1,6]⟩,⟨(some 20),(.ld 3 true (T 19)),none,[7]⟩,P 7 (.new (.agg [(.int .i64 0),.nils,.nils]) 3 27),⟨none,(.st 3 (T 7) (T 20)),none,[9,8,6,0,1,2,3,4,5,6,7,8,9]⟩] true) (.seq (.reg [P 21 (.ld 3 true (T 7)),M 22 5,P 23 (.ld 3 true (T 7)),⟨(some 24),(.call (.c (.clo 34 [])) [(T 22),(T 23)]),none,[1,2]⟩,M 25 5,⟨none,(.st 3 (T 2) (T 21)),none,[0,3,0]⟩,⟨none,(.st 1 (T 3) (T 24)),none,[3,5,0,1,2,3,5]⟩,⟨(some 4),(.asg (T 25) none),none,[4,6,0,1,2,3,4,5,6]⟩] true) .ret)))))
theorem Agm : (Tryd.f21.body.bind (Ke Tryd.prog Tryd.f21.ntmps)) = some AdI:=by kernel_rfl
theorem Agn : Tryd.f21.results.toList.mapM (Kl Tryd.prog) = some [(.c 2 3 true),(.c 3 1 true),(.t 4)]:=by kernel_rfl
def Ui (a : (List Int)) : List D:=[.sl (a.map eU8)]
def Uh (ds : List D) : (List Int):=(uL uI) (ds.getD 0 .top)
theorem Ys (a : (List Int)) : Uh (Ui a) = a:=by simp [Uh,Ui,Lr (u:=uI) (en:=eU8) (fun _=>rfl)]
def YX (b : JN × JP × JJ) : D:=.tup [Ku b.1,KF b.2.1,Kp b.2.2]
def YW (_b : JN × JP × JJ) : List D:=[]
noncomputable def VK : Dw.Spec:=JZ [] (.tupPtr 2 2 100) Ui Uh (fun a=>QH a) YX YW
set_option maxHeartbeats 4000000 in
theorem AaY : JX Tryd.prog 21 VK:=by
 refine Kh (Kd (l:=[(52,YM),(53,Qn),(54,Ki),(34,SC)]) (by simp [Acm,Yq,KT,Zw])) Tryd.func21 (by decide) Agm Agn (np:=1) (by decide) Ys (fun _=>r) (fun _=>r) (by decide)<|?_
 intro codes1
 show TrE (specs [(52,YM),(53,Qn),(54,Ki),(34,SC)]) AdI (Km [] (.tupPtr 2 2 100) [(.c 2 3 true),(.c 3 1 true),(.t 4)] YX YW) ⟨[(0,.sl (codes1.map eU8))],[],262144⟩ (QH codes1)
 refine Kf<|?_
 unfold AdI QH
 refine sQ<|rG<|nW r<|nW r<|aS r r<|nI<|xS<|sQ<|rG<|mV r r<|bD fun r2 hr2=>cP (codes1,250) r r r Aam r r (by simp) r hr2<|aS r r<|nI<|xS<|sQ<|rG<|mV r r<|bD fun r3 hr3=>cV (r2,3,12) r r r TE r r (by simp) r hr3<|nW r<|sV (z':=.agg [.sl (r3.1.Funcs.map Ku)]) r r r r r r r r r<|nI<|xS<|sQ<|rG<|fA r r<|lO (v:=.sl (r3.1.Funcs.map Ku)) (z:=.agg [.sl (r3.1.Funcs.map Ku)]) r r r r r r<|mV r r<|fA r r<|lO (v:=.sl (r3.1.Funcs.map Ku)) (z:=.agg [.sl (r3.1.Funcs.map Ku)]) r r r r r r<|lS r r<|bD fun r4 hr4=>cV (r3.2,(r3.1.Funcs.length : Int)) r r r JS r r (by simp) r hr4<|bD fun x_x5 hx_x5=>iS (en:=Ku) r r r hx_x5 r<|lF (v:=.agg [.int .i64 x_x5.Params,.sl (x_x5.Slots.map JQ),.sl (x_x5.Code.map JM)]) r r r r<|nW r<|sV (z':=.agg [.int .i64 x_x5.Params,.sl (x_x5.Slots.map JQ),.sl (x_x5.Code.map JM)]) r r r r r r r r r<|Ka (by kernel_rfl)<|xS<|sQ<|rG<|lO (v:=.agg [.int .i64 x_x5.Params,.sl (x_x5.Slots.map JQ),.sl (x_x5.Code.map JM)]) (z:=.agg [.int .i64 x_x5.Params,.sl (x_x5.Slots.map JQ),.sl (x_x5.Code.map JM)]) r r r r r r<|mV r r<|lO (v:=.agg [.int .i64 x_x5.Params,.sl (x_x5.Slots.map JQ),.sl (x_x5.Code.map JM)]) (z:=.agg [.int .i64 x_x5.Params,.sl (x_x5.Slots.map JQ),.sl (x_x5.Code.map JM)]) r r r r r r<|bD fun r6 hr6=>cV (r4.2,x_x5) r r r Vr r r (by simp) r hr6<|mV r r<|sV (z':=.agg [.int .i64 x_x5.Params,.sl (x_x5.Slots.map JQ),.sl (x_x5.Code.map JM)]) r r r r r r r r r<|sV (z':=.agg [.sl (r6.1.Out.map (eL Ed))]) r r r r r r r r r<|aS r r<|Ka (by kernel_rfl)<|xS<|rT<|AcV (b:=(x_x5,r6.1,r6.2)) (by decide) (by decide) r ?_ r ?_ r ?_ r ?_ r r ?_ r
 all_goals first|(simp;done)|(simp;omega)|rfl|(simp [JR,JO];done)

def AeA : Kb:=(.seq (.reg [P 2 (.asg (.c (.bool false)) none)] false) (.seq (.seq (.reg [P 3 (.asg (C 0) none)] false) (.block 0 (.loop (.seq (.seq (.reg [M 4 3,M 5 0,P 6 (.len false (T 5)),P 7 (.bin .lss (T 4) (T 6))] false) (.cond (T 7) .skip (.exit 0))) (.seq (.block 1 (.seq (.reg [M 10 0,M 11 3,⟨(some 12),(.ixA 1 (T 10) (T 11)),none,[0,1]⟩,⟨(some 13),(.ld 1 false (T 12)),none,[2]⟩,⟨(some 14),(.call (.c (.clo 80 [])) [(T 13)]),none,[3]⟩,⟨(some 15),(.un .not (T 14)),none,[4]⟩,⟨(some 16),(.mv (T 15)),none,[5,4]⟩,⟨(some 17),(.mv (T 3)),(some ⟨16,false⟩),[6]⟩,⟨(some 18),(.bin .gtr (T 17) (C 0)),(some ⟨16,false⟩),[7,6]⟩,⟨(some 19),(.mv (T 18)),(some ⟨16,false⟩),[8,6,6]⟩,⟨(some 20),(.mv (T 0)),(some ⟨19,true⟩),[9]⟩,⟨(some 21),(.mv (T 3)),(some ⟨19,true⟩),[9]⟩,⟨(some 22),(.ixA 1 (T 20) (T 21)),(some ⟨19,true⟩),[10,11,9]⟩,⟨(some 23),(.ld 1 false (T 22)),(some ⟨19,true⟩),[12,9]⟩,⟨(some 24),(.mv (T 0)),(some ⟨19,true⟩),[9]⟩,⟨(some 25),(.mv (T 3)),(some ⟨19,true⟩),[9]⟩,⟨(some 26),(.bin .sub (T 25) (C 1)),(some ⟨19,true⟩),[15,9]⟩,⟨(some 27),(.ixA 1 (T 24) (T 26)),(some ⟨19,true⟩),[14,16,9]⟩,⟨(some 28),(.ld 1 false (T 27)),(some ⟨19,true⟩),[17,9]⟩,⟨(some 29),(.bin .leq (T 23) (T 28)),(some ⟨19,true⟩),[13,18,9]⟩,⟨(some 30),(.pick (T 19) (T 29) (.c (.bool false))),(some ⟨16,false⟩),[9,19,6]⟩,⟨(some 31),(.pick (T 16) (.c (.bool true)) (T 30)),none,[6,20]⟩] true) (.cond (T 31) (.seq (.reg [P 2 (.asg (.c (.bool false)) none)] false) .ret) .skip))) (.reg [M 8 3,P 9 (.bin .add (T 8) (C 1)),P 3 (.asg (T 9) none)] false)))))) (.seq (.reg [P 2 (.asg (.c (.bool true)) none)] false) .ret)))
theorem AhW : (Tryd.f93.body.bind (Ke Tryd.prog Tryd.f93.ntmps)) = some AeA:=by kernel_rfl
theorem AhX : Tryd.f93.results.toList.mapM (Kl Tryd.prog) = some [(.t 2)]:=by kernel_rfl
def Um (a : (List Int)) : List D:=[.sl (a.map Ed)]
def Ul (ds : List D) : (List Int):=(uL uI) (ds.getD 0 .top)
theorem Yt (a : (List Int)) : Ul (Um a) = a:=by simp [Ul,Um,Lr (u:=uI) (en:=Ed) (fun _=>rfl)]
def YZ (b : Bool) : D:=.bool b
def YY (_b : Bool) : List D:=[]
noncomputable def VN : Dw.Spec:=JZ [] .ground Um Ul (fun a=>QI a) YZ YY
set_option maxHeartbeats 4000000 in
theorem Aba : JX Tryd.prog 93 VN:=by
 refine Kh (Kd (l:=[(80,RQ)]) (by simp [Zf])) Tryd.func93 (by decide) AhW AhX (np:=1) (by decide) Yt (fun _=>r) (fun _=>r) (by decide)<|?_
 intro s1
 show TrE (specs [(80,RQ)]) AeA (Km [] .ground [(.t 2)] YZ YY) ⟨[(0,.sl (s1.map Ed))],[],262144⟩ (QI s1)
 refine Kf<|?_
 unfold AeA QI
 refine sQ<|rG<|aS r r<|nI<|xS<|sQ<|sQ<|rG<|aS r r<|nI<|xS<|bK<|lP (E:=fun (s : Int) (g : Unit)=>[(0,.sl (s1.map Ed)),(3,.int .i64 s)]) (O:=fun s g=>[]) (body:=fun s=>MF s1 s) (s:=0) () ((hE ⟨rfl,r,trivial⟩ trivial))<|?_
 rintro i2 ⟨⟩ nn
 try dsimp only
 unfold MF
 refine sQ<|sQ<|rG<|mV r r<|mV r r<|lS r r<|bN (v:=.bool (decide (i2 < (s1.length : Int)))) r r r r r<|nI<|xS<|cD (c:=(decide (i2 < (s1.length : Int)))) r ?_ ?_
 ·refine sK<|xS<|sQ<|bK<|sQ<|rG<|mV r r<|mV r r<|bD fun x_x3 hx_x3=>iS (en:=Ed) r r r hx_x3 r<|lF (v:=.int .i64 x_x3) r r r r<|bD fun r4 hr4=>cG x_x3 r r r VR r r (by simp) r hr4 r<|uN (w:=.bool (!r4)) r r r r trivial<|mV r r<|sP 16 (b:=(!r4)) r ?_ ?_
  ·refine oF r<|oF r<|oF r<|oF r<|oF r<|oF r<|oF r<|oF r<|oF r<|oF r<|oF r<|oF r<|oF r<|oF r<|pT r r r r<|Ka (by kernel_rfl)<|xS<|Ly r<|sQ<|rG<|aS r r<|nI<|xS<|rT<|bR<|xR<|lR<|bR<|xR<|JV (b:=false) r ?_ r r ?_ r
   all_goals first|(simp;done)|(simp;omega)|rfl|(simp [JR,JO];done)
  ·refine mV r r<|bN (v:=.bool (decide (i2 > 0))) r r r r r<|mV r r<|sP 19 (b:=(decide (i2 > 0))) r ?_ ?_
   ·refine mV r r<|mV r r<|bD fun x_x5 hx_x5=>iS (en:=Ed) r r r hx_x5 r<|lF (v:=.int .i64 x_x5) r r r r<|mV r r<|mV r r<|bN (v:=.int .i64 (IntKind.i64.wrap (i2 - 1))) r r r r r<|bD fun x_x6 hx_x6=>iS (en:=Ed) r r r hx_x6 r<|lF (v:=.int .i64 x_x6) r r r r<|bN (v:=.bool (decide (x_x5 ≤ x_x6))) r r r r r<|pT r r r r<|pF r r r r<|Ka (by kernel_rfl)<|xS<|cD (c:=(decide (x_x5 ≤ x_x6))) r ?_ ?_
    ·refine sQ<|rG<|aS r r<|nI<|xS<|rT<|bR<|xR<|lR<|bR<|xR<|JV (b:=false) r ?_ r r ?_ r
     all_goals first|(simp;done)|(simp;omega)|rfl|(simp [JR,JO];done)
    ·exact sK<|bM<|xS<|rG<|mV r r<|bN (v:=.int .i64 (IntKind.i64.wrap (i2 + 1))) r r r r r<|aS r r<|nI<|xL (s:=IntKind.i64.wrap (i2 + 1)) () ((hE ⟨rfl,r,trivial⟩ trivial))
   ·exact oF r<|oF r<|oF r<|oF r<|oF r<|oF r<|oF r<|oF r<|oF r<|oF r<|pF r r r r<|pF r r r r<|Ka (by kernel_rfl)<|xS<|QF r<|sK<|bM<|xS<|rG<|mV r r<|bN (v:=.int .i64 (IntKind.i64.wrap (i2 + 1))) r r r r r<|aS r r<|nI<|xL (s:=IntKind.i64.wrap (i2 + 1)) () ((hE ⟨rfl,r,trivial⟩ trivial))
 ·refine eT<|xE<|lE<|bH<|xS<|sQ<|rG<|aS r r<|nI<|xS<|rT<|JV (b:=true) r ?_ r r ?_ r
  all_goals first|(simp;done)|(simp;omega)|rfl|(simp [JR,JO];done)

def Aee : Kb:=(.seq (.reg [P 2 (.box (T 0) 3 27),P 3 (.box (T 1) 1 30),P 4 (.asg (.c (.bool false)) none)] false) (.seq (.seq (.reg [P 7 (.fldA 0 (T 3)),P 8 (.ld 1 false (T 7)),P 9 (.len false (T 8)),P 10 (.fldA 2 (T 2)),P 11 (.ld 1 false (T 10)),P 12 (.len false (T 11)),P 13 (.bin .neq (T 9) (T 12))] false) (.cond (T 13) (.seq (.reg [P 4 (.asg (.c (.bool false)) none)] false) .ret) .skip)) (.seq (.seq (.reg [P 5 (.asg (C 0) none)] false) (.block 0 (.loop (.seq (.seq (.reg [M 14 5,P 15 (.fldA 0 (T 3)),P 16 (.ld 1 false (T 15)),P 17 (.len false (T 16)),P 18 (.bin .lss (T 14) (T 17))] false) (.cond (T 18) .skip (.exit 0))) (.seq (.block 1 (.seq (.seq (.reg [P 21 (.fldA 0 (T 3)),P 22 (.ld 1 false (T 21)),M 23 5,P 24 (.ixA 1 (T 22) (T 23)),P 25 (.ld 1 false (T 24)),P 26 (.call (.c (.clo 93 [])) [(T 25)]),P 27 (.un .not (T 26))] false) (.cond (T 27) (.seq (.reg [P 4 (.asg (.c (.bool false)) none)] false) .ret) .skip)) (.seq (.reg [P 28 (.fldA 0 (T 3)),P 29 (.ld 1 false (T 28)),M 30 5,P 31 (.ixA 1 (T 29) (T 30)),P 32 (.ld 1 false (T 31)),P 33 (.len false (T 32)),P 6 (.asg (T 33) none)] false) (.seq (.reg [M 34 6,⟨(some 35),(.bin .gtr (T 34) (C 0)),none,[0]⟩,⟨(some 36),(.mv (T 35)),none,[1]⟩,⟨(some 37),(.fldA 0 (T 3)),(some ⟨36,true⟩),[2]⟩,⟨(some 38),(.ld 1 false (T 37)),(some ⟨36,true⟩),[3,2]⟩,⟨(some 39),(.mv (T 5)),(some ⟨36,true⟩),[2]⟩,⟨(some 40),(.ixA 1 (T 38) (T 39)),(some ⟨36,true⟩),[4,5,2]⟩,⟨(some 41),(.ld 1 false (T 40)),(some ⟨36,true⟩),[6,2]⟩,⟨(some 42),(.mv (T 6)),(some ⟨36,true⟩),[2]⟩,⟨(some 43),(.bin .sub (T 42) (C 1)),(some ⟨36,true⟩),[8,2]⟩,⟨(some 44),(.ixA 1 (T 41) (T 43)),(some ⟨36,true⟩),[7,9,2]⟩,⟨(some 45),(.ld 1 false (T 44)),(some ⟨36,true⟩),[10,2]⟩,⟨(some 46),(.fldA 1 (T 2)),(some ⟨36,true⟩),[2]⟩,⟨(some 47),(.ld 1 false (T 46)),(some ⟨36,true⟩),[12,2]⟩,⟨(some 48),(.len false (T 47)),(some ⟨36,true⟩),[13,2]⟩,⟨(some 49),(.bin .geq (T 45) (T 48)),(some ⟨36,true⟩),[11,14,2]⟩,⟨(some 50),(.pick (T 36) (T 49) (.c (.bool false))),none,[2,15]⟩] true) (.cond (T 50) (.seq (.reg [P 4 (.asg (.c (.bool false)) none)] false) .ret) .skip))))) (.reg [M 19 5,P 20 (.bin .add (T 19) (C 1)),P 5 (.asg (T 20) none)] false)))))) (.seq (.reg [P 4 (.asg (.c (.bool true)) none)] false) .ret))))
theorem Ahe : (Tryd.f64.body.bind (Ke Tryd.prog Tryd.f64.ntmps)) = some Aee:=by kernel_rfl
theorem Ahf : Tryd.f64.results.toList.mapM (Kl Tryd.prog) = some [(.t 4)]:=by kernel_rfl
def UC (a : JN × JP) : List D:=[Ku a.1,KF a.2]
def UB (ds : List D) : JN × JP:=(Mi (ds.getD 0 .top),Mp (ds.getD 1 .top))
theorem Vh (a : JN × JP) : UB (UC a) = a:=by simp [UB,UC]
def Zs (b : Bool) : D:=.bool b
def Zr (_b : Bool) : List D:=[]
noncomputable def QD : Dw.Spec:=JZ [] .ground UC UB (fun a=>PD a.1 a.2) Zs Zr
set_option maxHeartbeats 4000000 in
theorem YB : JX Tryd.prog 64 QD:=by
 refine Kh (Kd (l:=[(93,VN)]) (by simp [Aba])) Tryd.func64 (by decide) Ahe Ahf (np:=2) (by decide) Vh (fun _=>r) (fun _=>r) (by decide)<|?_
 rintro ⟨f1,l2⟩
 show TrE (specs [(93,VN)]) Aee (Km [] .ground [(.t 4)] Zs Zr) ⟨[(0,.agg [.int .i64 f1.Params,.sl (f1.Slots.map JQ),.sl (f1.Code.map JM)]),(1,.agg [.sl (l2.Out.map (eL Ed))])],[],262144⟩ (PD f1 l2)
 refine Kf<|?_
 unfold Aee PD
 refine sQ<|rG<|bX r r r r r<|bX r r r r r<|aS r r<|nI<|xS<|sQ<|sQ<|rG<|fA r r<|lO (v:=.sl (l2.Out.map (eL Ed))) (z:=.agg [.sl (l2.Out.map (eL Ed))]) r r r r r r<|lS r r<|fA r r<|lO (v:=.sl (f1.Code.map JM)) (z:=.agg [.int .i64 f1.Params,.sl (f1.Slots.map JQ),.sl (f1.Code.map JM)]) r r r r r r<|lS r r<|bN (v:=.bool ((l2.Out.length : Int) != (f1.Code.length : Int))) r r r r r<|nI<|xS<|cD (c:=((l2.Out.length : Int) != (f1.Code.length : Int))) r ?_ ?_
 ·refine sQ<|rG<|aS r r<|nI<|xS<|rT<|xR<|JV (b:=false) r ?_ r r ?_ r
  all_goals first|(simp;done)|(simp;omega)|rfl|(simp [JR,JO];done)
 ·refine sK<|xS<|sQ<|sQ<|rG<|aS r r<|nI<|xS<|bK<|lP (E:=fun (s : Int) (g : Nat × Nat)=>[(2,.optr 2 g.1 0 0),(3,.optr 3 g.2 0 0),(5,.int .i64 s)]) (O:=fun s g=>[(2,some (g.1,⟨false,true,3,27,[.agg [.int .i64 f1.Params,.sl (f1.Slots.map JQ),.sl (f1.Code.map JM)]]⟩)),(3,some (g.2,⟨false,true,1,30,[.agg [.sl (l2.Out.map (eL Ed))]]⟩))]) (body:=fun s=>Si l2 f1 s) (s:=0) (_,_) ((hE ⟨rfl,r,r,trivial⟩ ⟨rfl,r,trivial⟩))<|?_
  rintro k3 ⟨v2x1,v3x1⟩ nn
  try dsimp only
  unfold Si
  refine sQ<|sQ<|rG<|mV r r<|fA r r<|lO (v:=.sl (l2.Out.map (eL Ed))) (z:=.agg [.sl (l2.Out.map (eL Ed))]) r r r r r r<|lS r r<|bN (v:=.bool (decide (k3 < (l2.Out.length : Int)))) r r r r r<|nI<|xS<|cD (c:=(decide (k3 < (l2.Out.length : Int)))) r ?_ ?_
  ·refine sK<|xS<|sQ<|bK<|sQ<|sQ<|rG<|fA r r<|lO (v:=.sl (l2.Out.map (eL Ed))) (z:=.agg [.sl (l2.Out.map (eL Ed))]) r r r r r r<|mV r r<|bD fun x_x4 hx_x4=>iS (en:=(eL Ed)) r r r hx_x4 r<|lF (v:=.sl (x_x4.map Ed)) r r r r<|bD fun r5 hr5=>cG x_x4 r r r Yt r r (by simp) r hr5 r<|uN (w:=.bool (!r5)) r r r r trivial<|nI<|xS<|cD (c:=(!r5)) r ?_ ?_
   ·refine sQ<|rG<|aS r r<|nI<|xS<|rT<|xR<|bR<|xR<|lR<|bR<|xR<|JV (b:=false) r ?_ r r ?_ r
    all_goals first|(simp;done)|(simp;omega)|rfl|(simp [JR,JO];done)
   ·refine sK<|xS<|sQ<|rG<|fA r r<|lO (v:=.sl (l2.Out.map (eL Ed))) (z:=.agg [.sl (l2.Out.map (eL Ed))]) r r r r r r<|mV r r<|bD fun x_x6 hx_x6=>iS (en:=(eL Ed)) r r r hx_x6 r<|lF (v:=.sl (x_x6.map Ed)) r r r r<|lS r r<|aS r r<|nI<|xS<|sQ<|rG<|mV r r<|bN (v:=.bool (decide ((x_x6.length : Int) > 0))) r r r r r<|mV r r<|sP 36 (b:=(decide ((x_x6.length : Int) > 0))) r ?_ ?_
    ·refine fA r r<|lO (v:=.sl (l2.Out.map (eL Ed))) (z:=.agg [.sl (l2.Out.map (eL Ed))]) r r r r r r<|mV r r<|bD fun x_x7 hx_x7=>iS (en:=(eL Ed)) r r r hx_x7 r<|lF (v:=.sl (x_x7.map Ed)) r r r r<|mV r r<|bN (v:=.int .i64 (IntKind.i64.wrap ((x_x6.length : Int) - 1))) r r r r r<|bD fun x_x8 hx_x8=>iS (en:=Ed) r r r hx_x8 r<|lF (v:=.int .i64 x_x8) r r r r<|fA r r<|lO (v:=.sl (f1.Slots.map JQ)) (z:=.agg [.int .i64 f1.Params,.sl (f1.Slots.map JQ),.sl (f1.Code.map JM)]) r r r r r r<|lS r r<|bN (v:=.bool (decide (x_x8 ≥ (f1.Slots.length : Int)))) r r r r r<|pT r r r r<|Ka (by kernel_rfl)<|xS<|cD (c:=(decide (x_x8 ≥ (f1.Slots.length : Int)))) r ?_ ?_
     ·refine sQ<|rG<|aS r r<|nI<|xS<|rT<|bR<|xR<|lR<|bR<|xR<|JV (b:=false) r ?_ r r ?_ r
      all_goals first|(simp;done)|(simp;omega)|rfl|(simp [JR,JO];done)
     ·exact sK<|bM<|xS<|rG<|mV r r<|bN (v:=.int .i64 (IntKind.i64.wrap (k3 + 1))) r r r r r<|aS r r<|nI<|xL (s:=IntKind.i64.wrap (k3 + 1)) (_,_) ((hE ⟨rfl,r,r,trivial⟩ ⟨rfl,r,trivial⟩))
    ·exact oF r<|oF r<|oF r<|oF r<|oF r<|oF r<|oF r<|oF r<|oF r<|oF r<|oF r<|oF r<|oF r<|pF r r r r<|Ka (by kernel_rfl)<|xS<|QF r<|sK<|bM<|xS<|rG<|mV r r<|bN (v:=.int .i64 (IntKind.i64.wrap (k3 + 1))) r r r r r<|aS r r<|nI<|xL (s:=IntKind.i64.wrap (k3 + 1)) (_,_) ((hE ⟨rfl,r,r,trivial⟩ ⟨rfl,r,trivial⟩))
  ·refine eT<|xE<|lE<|bH<|xS<|sQ<|rG<|aS r r<|nI<|xS<|rT<|JV (b:=true) r ?_ r r ?_ r
   all_goals first|(simp;done)|(simp;omega)|rfl|(simp [JR,JO];done)

def AdG : Kb:=(.seq (.reg [P 4 (.asg (.c (.bool false)) none)] false) (.seq (.seq (.reg [P 5 (.asg (C 0) none)] false) (.block 0 (.loop (.seq (.seq (.reg [M 6 5,M 7 0,P 8 (.len false (T 7)),P 9 (.bin .lss (T 6) (T 8))] false) (.cond (T 9) .skip (.exit 0))) (.seq (.block 1 (.seq (.reg [M 12 0,M 13 5,P 14 (.ixA 1 (T 12) (T 13)),P 15 (.ld 1 false (T 14)),M 16 1,P 17 (.bin .eql (T 15) (T 16))] false) (.cond (T 17) (.seq (.reg [P 4 (.asg (.c (.bool true)) none)] false) .ret) .skip))) (.reg [M 10 5,P 11 (.bin .add (T 10) (C 1)),P 5 (.asg (T 11) none)] false)))))) (.seq (.reg [P 4 (.asg (.c (.bool false)) none)] false) .ret)))
theorem Agi : (Tryd.f18.body.bind (Ke Tryd.prog Tryd.f18.ntmps)) = some AdG:=by kernel_rfl
theorem Agj : Tryd.f18.results.toList.mapM (Kl Tryd.prog) = some [(.t 4)]:=by kernel_rfl
def VP (a : (List Int) × Int) : List D:=[.sl (a.1.map Ed),.int .i64 a.2]
def VO (ds : List D) : (List Int) × Int:=((uL uI) (ds.getD 0 .top),uI (ds.getD 1 .top))
theorem ZH (a : (List Int) × Int) : VO (VP a) = a:=by simp [VO,VP,uI,Lr (u:=uI) (en:=Ed) (fun _=>rfl)]
def Aaw (b : Bool) : D:=.bool b
def Aav (_b : Bool) : List D:=[]
noncomputable def Ye : Dw.Spec:=JZ [] .ground VP VO (fun a=>TM a.1 a.2) Aaw Aav
set_option maxHeartbeats 4000000 in
theorem AbW : JX Tryd.prog 18 Ye:=by
 refine Kh (Ls) Tryd.func18 (by decide) Agi Agj (np:=2) (by decide) ZH (fun _=>r) (fun _=>r) (by decide)<|?_
 rintro ⟨s1,n2⟩
 show TrE (specs []) AdG (Km [] .ground [(.t 4)] Aaw Aav) ⟨[(0,.sl (s1.map Ed)),(1,.int .i64 n2)],[],262144⟩ (TM s1 n2)
 refine Kf<|?_
 unfold AdG TM
 refine sQ<|rG<|aS r r<|nI<|xS<|sQ<|sQ<|rG<|aS r r<|nI<|xS<|bK<|lP (E:=fun (s : Int) (g : Unit)=>[(0,.sl (s1.map Ed)),(1,.int .i64 n2),(5,.int .i64 s)]) (O:=fun s g=>[]) (body:=fun s=>PX s1 n2 s) (s:=0) () ((hE ⟨rfl,r,r,trivial⟩ trivial))<|?_
 rintro i3 ⟨⟩ nn
 try dsimp only
 unfold PX
 refine sQ<|sQ<|rG<|mV r r<|mV r r<|lS r r<|bN (v:=.bool (decide (i3 < (s1.length : Int)))) r r r r r<|nI<|xS<|cD (c:=(decide (i3 < (s1.length : Int)))) r ?_ ?_
 ·refine sK<|xS<|sQ<|bK<|sQ<|rG<|mV r r<|mV r r<|bD fun x_x4 hx_x4=>iS (en:=Ed) r r r hx_x4 r<|lF (v:=.int .i64 x_x4) r r r r<|mV r r<|bN (v:=.bool (x_x4 == n2)) r r r r r<|nI<|xS<|cD (c:=(x_x4 == n2)) r ?_ ?_
  ·refine sQ<|rG<|aS r r<|nI<|xS<|rT<|bR<|xR<|lR<|bR<|xR<|JV (b:=true) r ?_ r r ?_ r
   all_goals first|(simp;done)|(simp;omega)|rfl|(simp [JR,JO];done)
  ·exact sK<|bM<|xS<|rG<|mV r r<|bN (v:=.int .i64 (IntKind.i64.wrap (i3 + 1))) r r r r r<|aS r r<|nI<|xL (s:=IntKind.i64.wrap (i3 + 1)) () ((hE ⟨rfl,r,r,trivial⟩ trivial))
 ·refine eT<|xE<|lE<|bH<|xS<|sQ<|rG<|aS r r<|nI<|xS<|rT<|JV (b:=false) r ?_ r r ?_ r
  all_goals first|(simp;done)|(simp;omega)|rfl|(simp [JR,JO];done)

def Aef : Kb:=(.seq (.reg [⟨(some 4),(.asg (.c .nils) (some ⟨1,3⟩)),none,[]⟩] false) (.seq (.reg [⟨(some 5),(.asg (.c .nils) (some ⟨1,3⟩)),none,[]⟩] false) (.seq (.seq (.reg [P 6 (.asg (C 0) none)] false) (.block 0 (.loop (.seq (.seq (.reg [M 7 6,M 8 0,P 9 (.len false (T 8)),P 10 (.bin .lss (T 7) (T 9))] false) (.cond (T 10) .skip (.exit 0))) (.seq (.block 1 (.seq (.reg [M 13 1,M 14 0,M 15 6,P 16 (.ixA 1 (T 14) (T 15)),P 17 (.ld 1 false (T 16)),P 18 (.call (.c (.clo 18 [])) [(T 13),(T 17)]),P 19 (.un .not (T 18))] false) (.cond (T 19) (.reg [M 20 5,M 21 0,M 22 6,P 23 (.ixA 1 (T 21) (T 22)),P 24 (.ld 1 false (T 23)),⟨(some 25),(.bldS 1 3 (.int .i64 0) 1 [⟨0,(T 24)⟩]),none,[]⟩,P 26 (.app 1 3 8 (T 20) (T 25)),⟨(some 5),(.asg (T 26) (some ⟨1,3⟩)),none,[]⟩] false) .skip))) (.reg [M 11 6,P 12 (.bin .add (T 11) (C 1)),P 6 (.asg (T 12) none)] false)))))) (.seq (.reg [M 27 5,⟨(some 4),(.asg (T 27) (some ⟨1,3⟩)),none,[]⟩] false) .ret))))
theorem Ahg : (Tryd.f65.body.bind (Ke Tryd.prog Tryd.f65.ntmps)) = some Aef:=by kernel_rfl
theorem Ahh : Tryd.f65.results.toList.mapM (Kl Tryd.prog) = some [(.t 4)]:=by kernel_rfl
def Rp (a : (List Int) × (List Int)) : List D:=[.sl (a.1.map Ed),.sl (a.2.map Ed)]
def Un (ds : List D) : (List Int) × (List Int):=((uL uI) (ds.getD 0 .top),(uL uI) (ds.getD 1 .top))
theorem Yu (a : (List Int) × (List Int)) : Un (Rp a) = a:=by simp [Un,Rp,Lr (u:=uI) (en:=Ed) (fun _=>rfl)]
def Zb (b : (List Int)) : D:=.sl (b.map Ed)
def Za (_b : (List Int)) : List D:=[]
noncomputable def VQ : Dw.Spec:=JZ [] (.row 1 3) Rp Un (fun a=>QJ a.1 a.2) Zb Za
set_option maxHeartbeats 4000000 in
theorem Abb : JX Tryd.prog 65 VQ:=by
 refine Kh (Kd (l:=[(18,Ye)]) (by simp [AbW])) Tryd.func65 (by decide) Ahg Ahh (np:=2) (by decide) Yu (fun _=>r) (fun _=>r) (by decide)<|?_
 rintro ⟨a1,b2⟩
 show TrE (specs [(18,Ye)]) Aef (Km [] (.row 1 3) [(.t 4)] Zb Za) ⟨[(0,.sl (a1.map Ed)),(1,.sl (b2.map Ed))],[],262144⟩ (QJ a1 b2)
 refine Kf<|?_
 unfold Aef QJ
 refine sQ<|rG<|aN (α:=Int) r Ed r<|nI<|xS<|sQ<|rG<|aN (α:=Int) r Ed r<|nI<|xS<|sQ<|sQ<|rG<|aS r r<|nI<|xS<|bK<|lP (E:=fun (s : (List Int) × Int) (g : Nat)=>[(0,.sl (a1.map Ed)),(1,.sl (b2.map Ed)),(5,.osl 5 g 0 s.1.length),(6,.int .i64 s.2)]) (O:=fun s g=>[(5,some (g,⟨false,false,1,3,s.1.map Ed⟩))]) (body:=fun s=>Ns a1 b2 s.1 s.2) (s:=(([] : List Int),0)) _ ((hE ⟨rfl,r,r,r,trivial⟩ ⟨rfl,trivial⟩))<|?_
 rintro ⟨out3,i4⟩ v5x1 nn
 try dsimp only
 unfold Ns
 refine sQ<|sQ<|rG<|mV r r<|mV r r<|lS r r<|bN (v:=.bool (decide (i4 < (a1.length : Int)))) r r r r r<|nI<|xS<|cD (c:=(decide (i4 < (a1.length : Int)))) r ?_ ?_
 ·refine sK<|xS<|sQ<|bK<|sQ<|rG<|mV r r<|mV r r<|mV r r<|bD fun x_x5 hx_x5=>iS (en:=Ed) r r r hx_x5 r<|lF (v:=.int .i64 x_x5) r r r r<|bD fun r6 hr6=>cG (b2,x_x5) r r r ZH r r (by simp) r hr6 r<|uN (w:=.bool (!r6)) r r r r trivial<|nI<|xS<|cD (c:=(!r6)) r ?_ ?_
  ·exact rG<|mV r r<|mV r r<|mV r r<|bD fun x_x7 hx_x7=>iS (en:=Ed) r r r hx_x7 r<|lF (v:=.int .i64 x_x7) r r r r<|bS ([x_x7] : List Int) Ed r r r (by simp) r r r<|cK fun hq=>aP (out3) (([x_x7] : List Int)) Ed r r r r r r r (by simp) (Kq _ _ r) r r (by simp) (JT _ _ r) (fun _=>r) r hq<|aO (l:=out3 ++ ([x_x7] : List Int)) (en:=Ed) r r r r<|nI<|bM<|xS<|rG<|mV r r<|bN (v:=.int .i64 (IntKind.i64.wrap (i4 + 1))) r r r r r<|aS r r<|nI<|xL (s:=(out3 ++ ([x_x7] : List Int),IntKind.i64.wrap (i4 + 1))) _ ((hE ⟨rfl,r,r,r,trivial⟩ ⟨rfl,trivial⟩))
  ·exact sK<|bM<|xS<|rG<|mV r r<|bN (v:=.int .i64 (IntKind.i64.wrap (i4 + 1))) r r r r r<|aS r r<|nI<|xL (s:=(out3,IntKind.i64.wrap (i4 + 1))) _ ((hE ⟨rfl,r,r,r,trivial⟩ ⟨rfl,trivial⟩))
 ·refine eT<|xE<|lE<|bH<|xS<|sQ<|rG<|mV r r<|aO (l:=out3) (en:=Ed) r r r r<|nI<|xS<|rT<|Kr (b:=out3) r ?_ r r ?_ r ?_ (congrArg D.sl (JT _ _ r)) r
  all_goals first|(simp;done)|(simp;omega)|rfl|(simp [JR,JO];done)

def Aeo : Kb:=(.seq (.reg [P 3 (.box (T 0) 3 27),P 4 (.box (T 1) 1 30),⟨(some 6),(.asg (.c .nils) (some ⟨1,3⟩)),none,[]⟩] false) (.seq (.reg [⟨(some 7),(.asg (.c .nils) (some ⟨1,3⟩)),none,[]⟩] false) (.seq (.reg [P 11 (.ld 3 true (T 3)),M 12 2,P 13 (.call (.c (.clo 60 [])) [(T 11),(T 12)]),⟨(some 8),(.asg (T 13) (some ⟨1,3⟩)),none,[]⟩] false) (.seq (.seq (.reg [P 9 (.asg (C 0) none)] false) (.block 0 (.loop (.seq (.seq (.reg [M 14 9,M 15 8,P 16 (.len false (T 15)),P 17 (.bin .lss (T 14) (T 16))] false) (.cond (T 17) .skip (.exit 0))) (.seq (.block 1 (.seq (.reg [M 20 8,M 21 9,P 22 (.ixA 1 (T 20) (T 21)),P 23 (.ld 1 false (T 22)),P 10 (.asg (T 23) none)] false) (.reg [M 24 7,P 25 (.fldA 2 (T 3)),⟨(some 26),(.ld 1 false (T 25)),none,[1]⟩,M 27 10,⟨(some 28),(.ixA 5 (T 26) (T 27)),none,[2,3]⟩,⟨(some 29),(.ld 5 true (T 28)),none,[4]⟩,P 30 (.fldA 0 (T 4)),⟨(some 31),(.ld 1 false (T 30)),none,[6]⟩,M 32 10,⟨(some 33),(.ixA 1 (T 31) (T 32)),none,[7,8]⟩,⟨(some 34),(.ld 1 false (T 33)),none,[9]⟩,⟨(some 35),(.call (.c (.clo 75 [])) [(T 29),(T 34)]),none,[5,10]⟩,P 36 (.fldA 0 (T 4)),⟨(some 37),(.ld 1 false (T 36)),none,[12]⟩,M 38 2,⟨(some 39),(.ixA 1 (T 37) (T 38)),none,[13,14]⟩,⟨(some 40),(.ld 1 false (T 39)),none,[15]⟩,⟨(some 41),(.call (.c (.clo 65 [])) [(T 35),(T 40)]),none,[11,16,11]⟩,⟨(some 42),(.call (.c (.clo 27 [])) [(T 24),(T 41)]),none,[0,17,17]⟩,⟨(some 7),(.asg (T 42) (some ⟨1,3⟩)),none,[18,18,0,1,2,3,4,5,6,7,8,9,10,11,12,13,14,15,16,17,18]⟩] true))) (.reg [M 18 9,P 19 (.bin .add (T 18) (C 1)),P 9 (.asg (T 19) none)] false)))))) (.seq (.reg [M 43 7,⟨(some 6),(.asg (T 43) (some ⟨1,3⟩)),none,[]⟩] false) .ret)))))
theorem Ahy : (Tryd.f76.body.bind (Ke Tryd.prog Tryd.f76.ntmps)) = some Aeo:=by kernel_rfl
theorem Ahz : Tryd.f76.results.toList.mapM (Kl Tryd.prog) = some [(.t 6)]:=by kernel_rfl
def SO (a : JN × JP × Int) : List D:=[Ku a.1,KF a.2.1,.int .i64 a.2.2]
def SN (ds : List D) : JN × JP × Int:=(Mi (ds.getD 0 .top),Mp (ds.getD 1 .top),uI (ds.getD 2 .top))
theorem XA (a : JN × JP × Int) : SN (SO a) = a:=by simp [SN,SO,uI]
def XV (b : (List Int)) : D:=.sl (b.map Ed)
def XU (_b : (List Int)) : List D:=[]
noncomputable def UA : Dw.Spec:=JZ [] (.row 1 3) SO SN (fun a=>OX a.1 a.2.1 a.2.2) XV XU
set_option maxHeartbeats 4000000 in
theorem AaE : JX Tryd.prog 76 UA:=by
 refine Kh (Kd (l:=[(60,RR),(75,Us),(65,VQ),(27,Ob)]) (by simp [Zg,Aax,Abb,UU])) Tryd.func76 (by decide) Ahy Ahz (np:=3) (by decide) XA (fun _=>r) (fun _=>r) (by decide)<|?_
 rintro ⟨f1,l2,k3⟩
 show TrE (specs [(60,RR),(75,Us),(65,VQ),(27,Ob)]) Aeo (Km [] (.row 1 3) [(.t 6)] XV XU) ⟨[(0,.agg [.int .i64 f1.Params,.sl (f1.Slots.map JQ),.sl (f1.Code.map JM)]),(1,.agg [.sl (l2.Out.map (eL Ed))]),(2,.int .i64 k3)],[],262144⟩ (OX f1 l2 k3)
 refine Kf<|?_
 unfold Aeo OX
 refine sQ<|rG<|bX r r r r r<|bX r r r r r<|aN (α:=Int) r Ed r<|nI<|xS<|sQ<|rG<|aN (α:=Int) r Ed r<|nI<|xS<|sQ<|rG<|lO (v:=.agg [.int .i64 f1.Params,.sl (f1.Slots.map JQ),.sl (f1.Code.map JM)]) (z:=.agg [.int .i64 f1.Params,.sl (f1.Slots.map JQ),.sl (f1.Code.map JM)]) r r r r r r<|mV r r<|bD fun r4 hr4=>cR (l:=r4) (en:=Ed) (f1,k3) r r r VS r r (by simp) r hr4 r<|aO (l:=r4) (en:=Ed) r r r r<|nI<|xS<|sQ<|sQ<|rG<|aS r r<|nI<|xS<|bK<|lP (E:=fun (s : (List Int) × Int) (g : Nat × Nat × Nat × Nat)=>[(2,.int .i64 k3),(3,.optr 3 g.1 0 0),(4,.optr 4 g.2.1 0 0),(7,.osl 7 g.2.2.1 0 s.1.length),(8,.osl 8 g.2.2.2 0 r4.length),(9,.int .i64 s.2)]) (O:=fun s g=>[(3,some (g.1,⟨false,true,3,27,[.agg [.int .i64 f1.Params,.sl (f1.Slots.map JQ),.sl (f1.Code.map JM)]]⟩)),(4,some (g.2.1,⟨false,true,1,30,[.agg [.sl (l2.Out.map (eL Ed))]]⟩)),(7,some (g.2.2.1,⟨false,false,1,3,s.1.map Ed⟩)),(8,some (g.2.2.2,⟨false,false,1,3,r4.map Ed⟩))]) (body:=fun s=>Nu r4 f1 l2 k3 s.1 s.2) (s:=(([] : List Int),0)) (_,_,_,_) ((hE ⟨rfl,r,r,r,r,r,trivial⟩ ⟨rfl,r,r,r,trivial⟩))<|?_
 rintro ⟨out5,i6⟩ ⟨v3x1,v4x1,v7x1,v8x1⟩ nn
 try dsimp only
 unfold Nu
 refine sQ<|sQ<|rG<|mV r r<|mV r r<|lW r r<|bN (v:=.bool (decide (i6 < (r4.length : Int)))) r r r r r<|nI<|xS<|cD (c:=(decide (i6 < (r4.length : Int)))) r ?_ ?_
 ·exact sK<|xS<|sQ<|bK<|sQ<|rG<|mV r r<|mV r r<|cK fun hq=>iO (l:=r4) (en:=Ed) r r r r r hq<|bD fun next_e7 hnext_e7=>lO (v:=.int .i64 next_e7) (z:=Ed next_e7) r r r (Md hnext_e7) r r<|aS r r<|nI<|xS<|rG<|mV r r<|fA r r<|lO (v:=.sl (f1.Code.map JM)) (z:=.agg [.int .i64 f1.Params,.sl (f1.Slots.map JQ),.sl (f1.Code.map JM)]) r r r r r r<|mV r r<|bD fun x_x8 hx_x8=>iS (en:=JM) r r r hx_x8 r<|lF (v:=.agg [.int .i64 x_x8.Op,.int .i64 x_x8.A,.int .i64 x_x8.B,.int .i64 x_x8.C,.int .u64 x_x8.Imm]) r r r r<|fA r r<|lO (v:=.sl (l2.Out.map (eL Ed))) (z:=.agg [.sl (l2.Out.map (eL Ed))]) r r r r r r<|mV r r<|bD fun x_x9 hx_x9=>iS (en:=(eL Ed)) r r r hx_x9 r<|lF (v:=.sl (x_x9.map Ed)) r r r r<|bD fun r10 hr10=>cR (l:=r10) (en:=Ed) (x_x8,x_x9) r r r Yf r r (by simp) r hr10 r<|fA r r<|lO (v:=.sl (l2.Out.map (eL Ed))) (z:=.agg [.sl (l2.Out.map (eL Ed))]) r r r r r r<|mV r r<|bD fun x_x11 hx_x11=>iS (en:=(eL Ed)) r r r hx_x11 r<|lF (v:=.sl (x_x11.map Ed)) r r r r<|bD fun r12 hr12=>cR (l:=r12) (en:=Ed) (r10,x_x11) r r r Yu r r (by simp) (by first | rfl | (simp only [Kn,Ks]; rfl) | simp [Rp]) hr12 r<|bD fun r13 hr13=>cR (l:=r13) (en:=Ed) (out5,r12) r r r PY r r (by simp) (by first | rfl | (simp only [Kn,Ks]; rfl) | simp [MX]) hr13 r<|aO (l:=r13) (en:=Ed) r r r r<|Ka (by kernel_rfl)<|bM<|xS<|rG<|mV r r<|bN (v:=.int .i64 (IntKind.i64.wrap (i6 + 1))) r r r r r<|aS r r<|nI<|xL (s:=(r13,IntKind.i64.wrap (i6 + 1))) (_,_,_,_) ((hE ⟨rfl,r,r,r,r,r,trivial⟩ ⟨rfl,r,r,r,trivial⟩))
 ·refine eT<|xE<|lE<|bH<|xS<|sQ<|rG<|mV r r<|aO (l:=out5) (en:=Ed) r r r r<|nI<|xS<|rT<|Kr (b:=out5) r ?_ r r ?_ r ?_ (congrArg D.sl (JT _ _ r)) r
  all_goals first|(simp;done)|(simp;omega)|rfl|(simp [JR,JO];done)

def AdT : Kb:=(.seq (.reg [P 2 (.box (T 0) 3 27),P 3 (.box (T 1) 1 30),P 4 (.asg (C 0) none),P 5 (.asg (C 0) none),P 6 (.asg (.c (.bool false)) none)] false) (.seq (.seq (.reg [P 9 (.ld 3 true (T 2)),P 10 (.ld 1 true (T 3)),P 11 (.call (.c (.clo 64 [])) [(T 9),(T 10)]),P 12 (.un .not (T 11))] false) (.cond (T 12) (.seq (.reg [P 4 (.asg (C 0) none),P 5 (.asg (C 0) none),P 6 (.asg (.c (.bool false)) none)] false) .ret) .skip)) (.seq (.seq (.reg [P 7 (.asg (C 0) none)] false) (.block 0 (.loop (.seq (.seq (.reg [M 13 7,P 14 (.fldA 2 (T 2)),P 15 (.ld 1 false (T 14)),P 16 (.len false (T 15)),P 17 (.bin .lss (T 13) (T 16))] false) (.cond (T 17) .skip (.exit 0))) (.seq (.block 1 (.seq (.reg [P 20 (.ld 3 true (T 2)),P 21 (.ld 1 true (T 3)),M 22 7,P 23 (.call (.c (.clo 76 [])) [(T 20),(T 21),(T 22)]),⟨(some 8),(.asg (T 23) (some ⟨1,3⟩)),none,[]⟩] false) (.seq (.reg [M 24 8,P 25 (.len false (T 24)),P 26 (.bin .gtr (T 25) (C 0))] false) (.cond (T 26) (.seq (.reg [M 27 7,M 28 8,⟨(some 29),(.ixA 1 (T 28) (C 0)),none,[1]⟩,⟨(some 30),(.ld 1 false (T 29)),none,[2]⟩,⟨(some 4),(.asg (T 27) none),none,[0,0]⟩,⟨(some 5),(.asg (T 30) none),none,[3,4,0,1,2,3,4]⟩,⟨(some 6),(.asg (.c (.bool true)) none),none,[5,0,1,2,3,4,5]⟩] true) .ret) .skip)))) (.reg [M 18 7,P 19 (.bin .add (T 18) (C 1)),P 7 (.asg (T 19) none)] false)))))) (.seq (.reg [P 4 (.asg (C 0) none),P 5 (.asg (C 0) none),P 6 (.asg (.c (.bool false)) none)] false) .ret))))
theorem AgI : (Tryd.f41.body.bind (Ke Tryd.prog Tryd.f41.ntmps)) = some AdT:=by kernel_rfl
theorem AgJ : Tryd.f41.results.toList.mapM (Kl Tryd.prog) = some [(.t 4),(.t 5),(.t 6)]:=by kernel_rfl
def Ux (a : JN × JP) : List D:=[Ku a.1,KF a.2]
def Uw (ds : List D) : JN × JP:=(Mi (ds.getD 0 .top),Mp (ds.getD 1 .top))
theorem Vg (a : JN × JP) : Uw (Ux a) = a:=by simp [Uw,Ux]
def Zo (b : Int × Int × Bool) : D:=.tup [.int .i64 b.1,.int .i64 b.2.1,.bool b.2.2]
def Zn (_b : Int × Int × Bool) : List D:=[]
noncomputable def QC : Dw.Spec:=JZ [] .ground Ux Uw (fun a=>PC a.1 a.2) Zo Zn
set_option maxHeartbeats 4000000 in
theorem Yz : JX Tryd.prog 41 QC:=by
 refine Kh (Kd (l:=[(64,QD),(76,UA)]) (by simp [YB,AaE])) Tryd.func41 (by decide) AgI AgJ (np:=2) (by decide) Vg (fun _=>r) (fun _=>r) (by decide)<|?_
 rintro ⟨f1,l2⟩
 show TrE (specs [(64,QD),(76,UA)]) AdT (Km [] .ground [(.t 4),(.t 5),(.t 6)] Zo Zn) ⟨[(0,.agg [.int .i64 f1.Params,.sl (f1.Slots.map JQ),.sl (f1.Code.map JM)]),(1,.agg [.sl (l2.Out.map (eL Ed))])],[],262144⟩ (PC f1 l2)
 refine Kf<|?_
 unfold AdT PC
 refine sQ<|rG<|bX r r r r r<|bX r r r r r<|aS r r<|aS r r<|aS r r<|nI<|xS<|sQ<|sQ<|rG<|lO (v:=.agg [.int .i64 f1.Params,.sl (f1.Slots.map JQ),.sl (f1.Code.map JM)]) (z:=.agg [.int .i64 f1.Params,.sl (f1.Slots.map JQ),.sl (f1.Code.map JM)]) r r r r r r<|lO (v:=.agg [.sl (l2.Out.map (eL Ed))]) (z:=.agg [.sl (l2.Out.map (eL Ed))]) r r r r r r<|bD fun r3 hr3=>cG (f1,l2) r r r Vh r r (by simp) r hr3 r<|uN (w:=.bool (!r3)) r r r r trivial<|nI<|xS<|cD (c:=(!r3)) r ?_ ?_
 ·refine sQ<|rG<|aS r r<|aS r r<|aS r r<|nI<|xS<|rT<|xR<|Lh (b:=(0,0,false)) r ?_ r r ?_ r (by decide)
  all_goals first|(simp;done)|(simp;omega)|rfl|(simp [JR,JO];done)
 ·refine sK<|xS<|sQ<|sQ<|rG<|aS r r<|nI<|xS<|bK<|lP (E:=fun (s : Int) (g : Nat × Nat)=>[(2,.optr 2 g.1 0 0),(3,.optr 3 g.2 0 0),(7,.int .i64 s)]) (O:=fun s g=>[(2,some (g.1,⟨false,true,3,27,[.agg [.int .i64 f1.Params,.sl (f1.Slots.map JQ),.sl (f1.Code.map JM)]]⟩)),(3,some (g.2,⟨false,true,1,30,[.agg [.sl (l2.Out.map (eL Ed))]]⟩))]) (body:=fun s=>Se f1 l2 s) (s:=0) (_,_) ((hE ⟨rfl,r,r,trivial⟩ ⟨rfl,r,trivial⟩))<|?_
  rintro k4 ⟨v2x1,v3x1⟩ nn
  try dsimp only
  unfold Se
  refine sQ<|sQ<|rG<|mV r r<|fA r r<|lO (v:=.sl (f1.Code.map JM)) (z:=.agg [.int .i64 f1.Params,.sl (f1.Slots.map JQ),.sl (f1.Code.map JM)]) r r r r r r<|lS r r<|bN (v:=.bool (decide (k4 < (f1.Code.length : Int)))) r r r r r<|nI<|xS<|cD (c:=(decide (k4 < (f1.Code.length : Int)))) r ?_ ?_
  ·refine sK<|xS<|sQ<|bK<|sQ<|rG<|lO (v:=.agg [.int .i64 f1.Params,.sl (f1.Slots.map JQ),.sl (f1.Code.map JM)]) (z:=.agg [.int .i64 f1.Params,.sl (f1.Slots.map JQ),.sl (f1.Code.map JM)]) r r r r r r<|lO (v:=.agg [.sl (l2.Out.map (eL Ed))]) (z:=.agg [.sl (l2.Out.map (eL Ed))]) r r r r r r<|mV r r<|bD fun r5 hr5=>cR (l:=r5) (en:=Ed) (f1,l2,k4) r r r XA r r (by simp) r hr5 r<|aO (l:=r5) (en:=Ed) r r r r<|nI<|xS<|sQ<|rG<|mV r r<|lW r r<|bN (v:=.bool (decide ((r5.length : Int) > 0))) r r r r r<|nI<|xS<|cD (c:=(decide ((r5.length : Int) > 0))) r ?_ ?_
   ·refine sQ<|rG<|mV r r<|mV r r<|cK fun hq=>iO (l:=r5) (en:=Ed) r r r r r hq<|bD fun m_e6 hm_e6=>lO (v:=.int .i64 m_e6) (z:=Ed m_e6) r r r (Md hm_e6) r r<|aS r r<|aS r r<|aS r r<|Ka (by kernel_rfl)<|xS<|rT<|bR<|xR<|lR<|bR<|xR<|Lh (b:=(k4,m_e6,true)) r ?_ r r ?_ r (by decide)
    all_goals first|(simp;done)|(simp;omega)|rfl|(simp [JR,JO];done)
   ·exact sK<|bM<|xS<|rG<|mV r r<|bN (v:=.int .i64 (IntKind.i64.wrap (k4 + 1))) r r r r r<|aS r r<|nI<|xL (s:=IntKind.i64.wrap (k4 + 1)) (_,_) ((hE ⟨rfl,r,r,trivial⟩ ⟨rfl,r,trivial⟩))
  ·refine eT<|xE<|lE<|bH<|xS<|sQ<|rG<|aS r r<|aS r r<|aS r r<|nI<|xS<|rT<|Lh (b:=(0,0,false)) r ?_ r r ?_ r (by decide)
   all_goals first|(simp;done)|(simp;omega)|rfl|(simp [JR,JO];done)

def AdK : Kb:=(.seq (.reg [P 2 (.box (T 0) 3 27),P 3 (.box (T 1) 1 30),P 4 (.asg (C 0) none)] false) (.seq (.seq (.reg [P 9 (.ld 3 true (T 2)),P 10 (.ld 1 true (T 3)),P 11 (.call (.c (.clo 41 [])) [(T 9),(T 10)]),M 8 11,P 12 (.ext (T 8) 0),P 13 (.ext (T 8) 1),P 14 (.ext (T 8) 2),P 5 (.asg (T 12) none),P 6 (.asg (T 13) none),P 7 (.asg (T 14) none)] false) (.seq (.reg [M 15 7,M 16 15,⟨(some 17),(.ld 3 true (T 2)),(some ⟨16,false⟩),[]⟩,⟨(some 18),(.ld 1 true (T 3)),(some ⟨16,false⟩),[]⟩,⟨(some 19),(.call (.c (.clo 64 [])) [(T 17),(T 18)]),(some ⟨16,false⟩),[]⟩,⟨(some 20),(.un .not (T 19)),(some ⟨16,false⟩),[]⟩,P 21 (.pick (T 16) (.c (.bool true)) (T 20))] false) (.cond (T 21) (.seq (.reg [P 4 (.asg (C 11) none)] false) .ret) .skip))) (.seq (.reg [P 4 (.asg (C 0) none)] false) .ret)))
theorem Agq : (Tryd.f23.body.bind (Ke Tryd.prog Tryd.f23.ntmps)) = some AdK:=by kernel_rfl
theorem Agr : Tryd.f23.results.toList.mapM (Kl Tryd.prog) = some [(.t 4)]:=by kernel_rfl
def Rr (a : JN × JP) : List D:=[Ku a.1,KF a.2]
def Uv (ds : List D) : JN × JP:=(Mi (ds.getD 0 .top),Mp (ds.getD 1 .top))
theorem Sd (a : JN × JP) : Uv (Rr a) = a:=by simp [Uv,Rr]
def Zm (b : Int) : D:=.int .i64 b
def Zl (_b : Int) : List D:=[]
noncomputable def QB : Dw.Spec:=JZ [] .ground Rr Uv (fun a=>On a.1 a.2) Zm Zl
set_option maxHeartbeats 4000000 in
theorem Yy : JX Tryd.prog 23 QB:=by
 refine Kh (Kd (l:=[(41,QC),(64,QD)]) (by simp [Yz,YB])) Tryd.func23 (by decide) Agq Agr (np:=2) (by decide) Sd (fun _=>r) (fun _=>r) (by decide)<|?_
 rintro ⟨f1,l2⟩
 show TrE (specs [(41,QC),(64,QD)]) AdK (Km [] .ground [(.t 4)] Zm Zl) ⟨[(0,.agg [.int .i64 f1.Params,.sl (f1.Slots.map JQ),.sl (f1.Code.map JM)]),(1,.agg [.sl (l2.Out.map (eL Ed))])],[],262144⟩ (On f1 l2)
 refine Kf<|?_
 unfold AdK On
 refine sQ<|rG<|bX r r r r r<|bX r r r r r<|aS r r<|nI<|xS<|sQ<|sQ<|rG<|lO (v:=.agg [.int .i64 f1.Params,.sl (f1.Slots.map JQ),.sl (f1.Code.map JM)]) (z:=.agg [.int .i64 f1.Params,.sl (f1.Slots.map JQ),.sl (f1.Code.map JM)]) r r r r r r<|lO (v:=.agg [.sl (l2.Out.map (eL Ed))]) (z:=.agg [.sl (l2.Out.map (eL Ed))]) r r r r r r<|bD fun r3 hr3=>cG (f1,l2) r r r Vg r r (by simp) r hr3 r<|mV r r<|eX (v:=.int .i64 r3.1) r r r<|eX (v:=.int .i64 r3.2.1) r r r<|eX (v:=.bool r3.2.2) r r r<|aS r r<|aS r r<|aS r r<|nI<|xS<|sQ<|rG<|mV r r<|mV r r<|sP 16 (b:=r3.2.2) r ?_ ?_
 ·refine oF r<|oF r<|oF r<|oF r<|pT r r r r<|nI<|xS<|Ly r<|sQ<|rG<|aS r r<|nI<|xS<|rT<|xR<|JV (b:=11) r ?_ r r ?_ r
  all_goals first|(simp;done)|(simp;omega)|rfl|(simp [JR,JO];done)
 ·refine lO (v:=.agg [.int .i64 f1.Params,.sl (f1.Slots.map JQ),.sl (f1.Code.map JM)]) (z:=.agg [.int .i64 f1.Params,.sl (f1.Slots.map JQ),.sl (f1.Code.map JM)]) r r r r r r<|lO (v:=.agg [.sl (l2.Out.map (eL Ed))]) (z:=.agg [.sl (l2.Out.map (eL Ed))]) r r r r r r<|bD fun r4 hr4=>cG (f1,l2) r r r Vh r r (by simp) r hr4 r<|uN (w:=.bool (!r4)) r r r r trivial<|pF r r r r<|nI<|xS<|cD (c:=(!r4)) r ?_ ?_
  ·refine sQ<|rG<|aS r r<|nI<|xS<|rT<|xR<|JV (b:=11) r ?_ r r ?_ r
   all_goals first|(simp;done)|(simp;omega)|rfl|(simp [JR,JO];done)
  ·refine sK<|xS<|sQ<|rG<|aS r r<|nI<|xS<|rT<|JV (b:=0) r ?_ r r ?_ r
   all_goals first|(simp;done)|(simp;omega)|rfl|(simp [JR,JO];done)

def Aeq : Kb:=(.seq (.reg [⟨(some 5),(.asg (.c .nils) (some ⟨1,3⟩)),none,[]⟩] false) (.seq (.seq (.reg [M 6 0,P 7 (.ld 1 false (T 1)),P 8 (.bin .eql (T 6) (T 7))] false) (.cond (T 8) (.seq (.reg [P 9 (.ld 1 false (T 2)),⟨(some 5),(.asg (T 9) (some ⟨1,3⟩)),none,[]⟩] false) .ret) .skip)) (.seq (.reg [P 10 (.fldA 0 (T 3)),P 11 (.ld 1 false (T 10)),M 12 0,P 13 (.ixA 1 (T 11) (T 12)),P 14 (.ld 1 false (T 13)),⟨(some 5),(.asg (T 14) (some ⟨1,3⟩)),none,[]⟩] false) .ret)))
theorem AhC : (Tryd.f78.body.bind (Ke Tryd.prog Tryd.f78.ntmps)) = some Aeq:=by kernel_rfl
theorem AhD : Tryd.f78.results.toList.mapM (Kl Tryd.prog) = some [(.t 5)]:=by kernel_rfl
def MS (a : Int × Int × (List Int) × JP) : List D:=[.int .i64 a.1,.fptr (.int .i64 a.2.1) 0,.fptr (.sl (a.2.2.1.map Ed)) 0,.fptr (KF a.2.2.2) 0]
def MR (ds : List D) : Int × Int × (List Int) × JP:=(uI (ds.getD 0 .top),uI (fpD (ds.getD 1 .top)),(uL uI) (fpD (ds.getD 2 .top)),Mp (fpD (ds.getD 3 .top)))
theorem Nh (a : Int × Int × (List Int) × JP) : MR (MS a) = a:=by simp [MR,MS,uI,fpD,Lr (u:=uI) (en:=Ed) (fun _=>rfl)]
def PU (b : (List Int)) : D:=.sl (b.map Ed)
def PT (_b : (List Int)) : List D:=[]
noncomputable def Lu : Dw.Spec:=JZ [] .val MS MR (fun a=>KN a.1 a.2.1 a.2.2.1 a.2.2.2) PU PT
set_option maxHeartbeats 4000000 in
theorem PI : JX Tryd.prog 78 Lu:=by
 refine Kh (Ls) Tryd.func78 (by decide) AhC AhD (np:=4) (by decide) Nh (fun _=>r) (fun _=>r) (by decide)<|?_
 rintro ⟨j1,cap2,cap3,cap4⟩
 show TrE (specs []) Aeq (Km [] .val [(.t 5)] PU PT) ⟨[(0,.int .i64 j1),(1,.fptr (.int .i64 cap2) 0),(2,.fptr (.sl (cap3.map Ed)) 0),(3,.fptr (.agg [.sl (cap4.Out.map (eL Ed))]) 0)],[],262144⟩ (KN j1 cap2 cap3 cap4)
 refine Kf<|?_
 unfold Aeq KN
 refine sQ<|rG<|aN (α:=Int) r Ed r<|nI<|xS<|sQ<|sQ<|rG<|mV r r<|lF (v:=.int .i64 cap2) r r r r<|bN (v:=.bool (j1 == cap2)) r r r r r<|nI<|xS<|cD (c:=(j1 == cap2)) r ?_ ?_
 ·refine sQ<|rG<|lF (v:=.sl (cap3.map Ed)) r r r r<|aL r r<|nI<|xS<|rT<|xR<|KC (b:=cap3) r ?_ r r ?_ r
  all_goals first|(simp;done)|(simp;omega)|rfl|(simp [JR,JO];done)
 ·refine sK<|xS<|sQ<|rG<|fF r r<|lF (v:=.sl (cap4.Out.map (eL Ed))) r r r r<|mV r r<|bD fun x_x5 hx_x5=>iS (en:=(eL Ed)) r r r hx_x5 r<|lF (v:=.sl (x_x5.map Ed)) r r r r<|aL r r<|nI<|xS<|rT<|KC (b:=x_x5) r ?_ r r ?_ r
  all_goals first|(simp;done)|(simp;omega)|rfl|(simp [JR,JO];done)

def AcL : Kb:=(.seq (.reg [P 4 (.asg (.c (.bool false)) none)] false) (.seq (.reg [M 5 1,P 6 (.call (.c (.clo 115 [])) [(T 5)]),M 7 6,⟨(some 8),(.mv (T 0)),(some ⟨7,true⟩),[]⟩,⟨(some 9),(.mv (T 1)),(some ⟨7,true⟩),[]⟩,⟨(some 10),(.bin .quo (T 9) (C 64)),(some ⟨7,true⟩),[]⟩,⟨(some 11),(.nilck (T 8)),(some ⟨7,true⟩),[]⟩,⟨(some 12),(.ixP 1 8 (T 11) (T 10)),(some ⟨7,true⟩),[]⟩,⟨(some 13),(.ld 1 false (T 12)),(some ⟨7,true⟩),[]⟩,⟨(some 14),(.mv (T 1)),(some ⟨7,true⟩),[]⟩,⟨(some 15),(.cvt .u64 (T 14)),(some ⟨7,true⟩),[]⟩,⟨(some 16),(.bin .rem (T 15) (.c (.int .u64 64))),(some ⟨7,true⟩),[]⟩,⟨(some 17),(.bin .shr (T 13) (T 16)),(some ⟨7,true⟩),[]⟩,⟨(some 18),(.bin .and (T 17) (.c (.int .u64 1))),(some ⟨7,true⟩),[]⟩,⟨(some 19),(.bin .eql (T 18) (.c (.int .u64 1))),(some ⟨7,true⟩),[]⟩,P 20 (.pick (T 7) (T 19) (.c (.bool false))),P 4 (.asg (T 20) none)] false) .ret))
theorem AfC : (Tryd.f120.body.bind (Ke Tryd.prog Tryd.f120.ntmps)) = some AcL:=by kernel_rfl
theorem AfD : Tryd.f120.results.toList.mapM (Kl Tryd.prog) = some [(.t 4)]:=by kernel_rfl
def Oh (a : JL × Int) : List D:=[.fptr (Kj a.1) 0,.int .i64 a.2]
def Og (ds : List D) : JL × Int:=(KO (fpD (ds.getD 0 .top)),uI (ds.getD 1 .top))
theorem Ry (a : JL × Int) : Og (Oh a) = a:=by simp [Og,Oh,uI,fpD]
def Sp (b : Bool) : D:=.bool b
def So (_b : Bool) : List D:=[]
noncomputable def OJ : Dw.Spec:=JZ [] .ground Oh Og (fun a=>LP a.1 a.2) Sp So
set_option maxHeartbeats 4000000 in
theorem Xf : JX Tryd.prog 120 OJ:=by
 refine Kh (Kd (l:=[(115,LH)]) (by simp [Qm])) Tryd.func120 (by decide) AfC AfD (np:=2) (by decide) Ry (fun _=>r) (fun _=>r) (by decide)<|?_
 rintro ⟨s1,n2⟩
 show TrE (specs [(115,LH)]) AcL (Km [] .ground [(.t 4)] Sp So) ⟨[(0,.fptr (.agg [.int .u64 s1.a0,.int .u64 s1.a1,.int .u64 s1.a2,.int .u64 s1.a3,.int .u64 s1.a4,.int .u64 s1.a5,.int .u64 s1.a6,.int .u64 s1.a7]) 0),(1,.int .i64 n2)],[],262144⟩ (LP s1 n2)
 refine Kf<|?_
 unfold AcL LP
 refine sQ<|rG<|aS r r<|nI<|xS<|sQ<|rG<|mV r r<|bD fun r3 hr3=>cG n2 r r r Oi r r (by simp) r hr3 r<|mV r r<|sP 7 (b:=r3) r ?_ ?_
 ·refine mV r r<|mV r r<|bN (v:=.int .i64 (IntKind.i64.wrap (n2.tdiv 64))) r r r r ⟨rfl,(by decide)⟩<|nC r r r<|cK fun hq=>IK r r r hq<|bD fun e4 he4=>IB (q:=e4) (l:=s1.toList) (en:=SG) (j:=(IntKind.i64.wrap (n2.tdiv 64)).toNat) (by simp) r r he4 (fun _=>r)<|mV r r<|cT r r<|bN (v:=.int .u64 ((IntKind.u64.wrap (n2)).tmod 64)) r r r r ⟨rfl,(by decide)⟩<|cK fun hq=>bN (v:=.int .u64 (e4.fdiv (2 ^ (Nat.min ((IntKind.u64.wrap (n2)).tmod 64).toNat IntKind.u64.bits)))) r r r r hq<|bN (v:=.int .u64 (IntKind.u64.wrap ((BitVec.ofInt IntKind.u64.bits (e4.fdiv (2 ^ (Nat.min ((IntKind.u64.wrap (n2)).tmod 64).toNat IntKind.u64.bits))) &&& BitVec.ofInt IntKind.u64.bits 1).toNat))) r r r r r<|bN (v:=.bool ((IntKind.u64.wrap ((BitVec.ofInt IntKind.u64.bits (e4.fdiv (2 ^ (Nat.min ((IntKind.u64.wrap (n2)).tmod 64).toNat IntKind.u64.bits))) &&& BitVec.ofInt IntKind.u64.bits 1).toNat)) == 1)) r r r r r<|pT r r r r<|aS r r<|nI<|xS<|rT<|JV (b:=((IntKind.u64.wrap ((BitVec.ofInt IntKind.u64.bits (e4.fdiv (2 ^ (Nat.min ((IntKind.u64.wrap (n2)).tmod 64).toNat IntKind.u64.bits))) &&& BitVec.ofInt IntKind.u64.bits 1).toNat)) == 1)) r ?_ r r ?_ r
  all_goals first|(simp;done)|(simp;omega)|rfl|(simp [JR,JO];done)
 ·refine oF r<|oF r<|oF r<|oF r<|oF r<|oF r<|oF r<|oF r<|oF r<|oF r<|oF r<|oF r<|pF r r r r<|aS r r<|nI<|xS<|rT<|JV (b:=false) r ?_ r r ?_ r
  all_goals first|(simp;done)|(simp;omega)|rfl|(simp [JR,JO];done)

def AcK : Kb:=(.seq (.reg [P 3 (.asg (.c (.bool false)) none)] false) (.seq (.reg [P 4 (.ld 1 false (T 1)),M 5 0,P 6 (.call (.c (.clo 120 [])) [(T 4),(T 5)]),P 7 (.un .not (T 6)),P 3 (.asg (T 7) none)] false) .ret))
theorem AfA : (Tryd.f119.body.bind (Ke Tryd.prog Tryd.f119.ntmps)) = some AcK:=by kernel_rfl
theorem AfB : Tryd.f119.results.toList.mapM (Kl Tryd.prog) = some [(.t 3)]:=by kernel_rfl
def Pv (a : Int × JL) : List D:=[.int .i64 a.1,.fptr (.fptr (Kj a.2) 0) 0]
def Pu (ds : List D) : Int × JL:=(uI (ds.getD 0 .top),KO (fpD (fpD (ds.getD 1 .top))))
theorem Tz (a : Int × JL) : Pu (Pv a) = a:=by simp [Pu,Pv,uI,fpD]
def TU (b : Bool) : D:=.bool b
def TT (_b : Bool) : List D:=[]
noncomputable def Qk : Dw.Spec:=JZ [] .ground Pv Pu (fun a=>ND a.1 a.2) TU TT
set_option maxHeartbeats 4000000 in
theorem Yo : JX Tryd.prog 119 Qk:=by
 refine Kh (Kd (l:=[(120,OJ)]) (by simp [Xf])) Tryd.func119 (by decide) AfA AfB (np:=2) (by decide) Tz (fun _=>r) (fun _=>r) (by decide)<|?_
 rintro ⟨n1,cap2⟩
 show TrE (specs [(120,OJ)]) AcK (Km [] .ground [(.t 3)] TU TT) ⟨[(0,.int .i64 n1),(1,.fptr (.fptr (.agg [.int .u64 cap2.a0,.int .u64 cap2.a1,.int .u64 cap2.a2,.int .u64 cap2.a3,.int .u64 cap2.a4,.int .u64 cap2.a5,.int .u64 cap2.a6,.int .u64 cap2.a7]) 0) 0)],[],262144⟩ (ND n1 cap2)
 refine Kf<|?_
 unfold AcK ND
 refine sQ<|rG<|aS r r<|nI<|xS<|sQ<|rG<|lF (v:=.fptr (.agg [.int .u64 cap2.a0,.int .u64 cap2.a1,.int .u64 cap2.a2,.int .u64 cap2.a3,.int .u64 cap2.a4,.int .u64 cap2.a5,.int .u64 cap2.a6,.int .u64 cap2.a7]) 0) r r r r<|mV r r<|bD fun r3 hr3=>cG (cap2,n1) r r r Ry r r (by simp) r hr3 r<|uN (w:=.bool (!r3)) r r r r trivial<|aS r r<|nI<|xS<|rT<|JV (b:=(!r3)) r ?_ r r ?_ r
 all_goals first|(simp;done)|(simp;omega)|rfl|(simp [JR,JO];done)

def AcO : Kb:=(.seq (.reg [P 4 (.asg (C 0) none)] false) (.seq (.seq (.reg [M 6 0,P 7 (.len false (T 6)),P 8 (.mv (C 0))] false) (.block 0 (.loop (.seq (.reg [P 9 (.bin .lss (T 8) (T 7))] false) (.seq (.cond (T 9) .skip (.exit 0)) (.seq (.block 1 (.seq (.reg [M 10 8,P 5 (.asg (T 10) none)] false) (.seq (.reg [M 11 1,M 12 0,M 13 5,P 14 (.ixA 1 (T 12) (T 13)),P 15 (.ld 1 false (T 14)),P 16 (.call (T 11) [(T 15)])] false) (.cond (T 16) (.seq (.reg [M 17 5,P 4 (.asg (T 17) none)] false) .ret) .skip)))) (.reg [P 18 (.bin .add (T 8) (C 1)),M 8 18] false))))))) (.seq (.reg [⟨(some 4),(.asg (.c (.int .i64 (-1))) none),none,[]⟩] false) .ret)))
theorem AfI : (Tryd.f125.body.bind (Ke Tryd.prog Tryd.f125.ntmps)) = some AcO:=by kernel_rfl
theorem AfJ : Tryd.f125.results.toList.mapM (Kl Tryd.prog) = some [(.t 4)]:=by kernel_rfl
def LD (a : (List Int) × JL) : List D:=[.sl (a.1.map Ed),.clo 119 [.fptr (.fptr (Kj a.2) 0) 0]]
def LC (ds : List D) : (List Int) × JL:=((uL uI) (ds.getD 0 .top),KO (fpD (fpD (Ml (ds.getD 1 .top) 0))))
theorem Np (a : (List Int) × JL) : LC (LD a) = a:=by simp [LC,LD,fpD,Ml,Lr (u:=uI) (en:=Ed) (fun _=>rfl)]
def Nw (b : Int) : D:=.int .i64 b
def Nv (_b : Int) : List D:=[]
noncomputable def Le : Dw.Spec:=JZ [] .ground LD LC (fun a=>Kx a.1 a.2) Nw Nv
set_option maxHeartbeats 4000000 in
theorem Rl : JX Tryd.prog 125 Le:=by
 refine Kh (Kd (l:=[(119,Qk)]) (by simp [Yo])) Tryd.func125 (by decide) AfI AfJ (np:=2) (by decide) Np (fun _=>r) (fun _=>r) (by decide)<|?_
 rintro ⟨s1,f2⟩
 show TrE (specs [(119,Qk)]) AcO (Km [] .ground [(.t 4)] Nw Nv) ⟨[(0,.sl (s1.map Ed)),(1,.clo 119 [.fptr (.fptr (.agg [.int .u64 f2.a0,.int .u64 f2.a1,.int .u64 f2.a2,.int .u64 f2.a3,.int .u64 f2.a4,.int .u64 f2.a5,.int .u64 f2.a6,.int .u64 f2.a7]) 0) 0])],[],262144⟩ (Kx s1 f2)
 refine Kf<|?_
 unfold AcO Kx
 refine sQ<|rG<|aS r r<|nI<|xS<|sQ<|sQ<|rG<|mV r r<|lS r r<|mV r r<|nI<|xS<|bK<|lP (E:=fun (s : Int) (g : Unit)=>[(0,.sl (s1.map Ed)),(1,.clo 119 [.fptr (.fptr (.agg [.int .u64 f2.a0,.int .u64 f2.a1,.int .u64 f2.a2,.int .u64 f2.a3,.int .u64 f2.a4,.int .u64 f2.a5,.int .u64 f2.a6,.int .u64 f2.a7]) 0) 0]),(7,.int .i64 (s1.length : Int)),(8,.int .i64 s)]) (O:=fun s g=>[]) (body:=fun s=>KY s1 f2 s) (s:=0) () ((hE ⟨rfl,r,r,r,trivial⟩ trivial))<|?_
 rintro x3 ⟨⟩ nn
 try dsimp only
 unfold KY
 refine sQ<|rG<|bN (v:=.bool (decide (x3 < (s1.length : Int)))) r r r r r<|nI<|xS<|sQ<|cD (c:=(decide (x3 < (s1.length : Int)))) r ?_ ?_
 ·refine sK<|xS<|sQ<|bK<|sQ<|rG<|mV r r<|aS r r<|nI<|xS<|sQ<|rG<|mV r r<|mV r r<|mV r r<|bD fun x_x4 hx_x4=>iS (en:=Ed) r r r hx_x4 r<|lF (v:=.int .i64 x_x4) r r r r<|bD fun r5 hr5=>cG (x_x4,f2) r r r Tz r r (by simp) r hr5 r<|nI<|xS<|cD (c:=r5) r ?_ ?_
  ·refine sQ<|rG<|mV r r<|aS r r<|nI<|xS<|rT<|bR<|xR<|lR<|bR<|xR<|JV (b:=x3) r ?_ r r ?_ r
   all_goals first|(simp;done)|(simp;omega)|rfl|(simp [JR,JO];done)
  ·exact sK<|bM<|xS<|rG<|bN (v:=.int .i64 (IntKind.i64.wrap (x3 + 1))) r r r r r<|mV r r<|nI<|xL (s:=IntKind.i64.wrap (x3 + 1)) () ((hE ⟨rfl,r,r,r,trivial⟩ trivial))
 ·refine eT<|xE<|lE<|bH<|xS<|sQ<|rG<|aS r r<|nI<|xS<|rT<|JV (b:=(-1)) r ?_ r r ?_ r
  all_goals first|(simp;done)|(simp;omega)|rfl|(simp [JR,JO];done)

def AcJ : Kb:=(.seq (.reg [P 4 (.asg (.c (.bool false)) none)] false) (.seq (.reg [M 5 0,M 6 1,P 7 (.call (.c (.clo 125 [])) [(T 5),(T 6)]),P 8 (.bin .geq (T 7) (C 0)),P 4 (.asg (T 8) none)] false) .ret))
theorem Afy : (Tryd.f118.body.bind (Ke Tryd.prog Tryd.f118.ntmps)) = some AcJ:=by kernel_rfl
theorem Afz : Tryd.f118.results.toList.mapM (Kl Tryd.prog) = some [(.t 4)]:=by kernel_rfl
def Lx (a : (List Int) × JL) : List D:=[.sl (a.1.map Ed),.clo 119 [.fptr (.fptr (Kj a.2) 0) 0]]
def Lw (ds : List D) : (List Int) × JL:=((uL uI) (ds.getD 0 .top),KO (fpD (fpD (Ml (ds.getD 1 .top) 0))))
theorem MM (a : (List Int) × JL) : Lw (Lx a) = a:=by simp [Lw,Lx,fpD,Ml,Lr (u:=uI) (en:=Ed) (fun _=>rfl)]
def MZ (b : Bool) : D:=.bool b
def MY (_b : Bool) : List D:=[]
noncomputable def KP : Dw.Spec:=JZ [] .ground Lx Lw (fun a=>KG a.1 a.2) MZ MY
set_option maxHeartbeats 4000000 in
theorem Qg : JX Tryd.prog 118 KP:=by
 refine Kh (Kd (l:=[(491645,Le)]) (by simp [Rl])) Tryd.func118 (by decide) Afy Afz (np:=2) (by decide) MM (fun _=>r) (fun _=>r) (by decide)<|?_
 rintro ⟨s1,f2⟩
 show TrE (specs [(491645,Le)]) AcJ (Km [] .ground [(.t 4)] MZ MY) ⟨[(0,.sl (s1.map Ed)),(1,.clo 119 [.fptr (.fptr (.agg [.int .u64 f2.a0,.int .u64 f2.a1,.int .u64 f2.a2,.int .u64 f2.a3,.int .u64 f2.a4,.int .u64 f2.a5,.int .u64 f2.a6,.int .u64 f2.a7]) 0) 0])],[],262144⟩ (KG s1 f2)
 refine Kf<|?_
 unfold AcJ KG
 refine sQ<|rG<|aS rfl rfl<|nI<|xS<|sQ<|rG<|mV rfl rfl<|mV rfl rfl<|bD fun r3 hr3=>cG (s1,f2) rfl rfl (show _ = some Le from by kernel_rfl) Np rfl rfl (by simp) r hr3 r<|bN (v:=.bool (decide (r3 ≥ 0))) r r r r r<|aS r r<|nI<|xS<|rT<|JV (b:=(decide (r3 ≥ 0))) r ?_ r r ?_ r
 all_goals first|(simp;done)|(simp;omega)|rfl|(simp [JR,JO];done)

end Go.Proofs.YtcelninhkmhjkaaDoor
