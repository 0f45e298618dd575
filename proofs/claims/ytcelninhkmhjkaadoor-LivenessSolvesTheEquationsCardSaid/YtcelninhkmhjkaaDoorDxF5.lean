/-
  Programs on typed data, and the proofs that the code does what they say; written by a program (dx.py).
-/
import Derived.Test.YtcelninhkmhjkaaDoorProg
import Derived.Test.YtcelninhkmhjkaaDoorDc
import Derived.KernelRfl
import Derived.Test.YtcelninhkmhjkaaDoorDxP
import Derived.Test.YtcelninhkmhjkaaDoorDxF1
import Derived.Test.YtcelninhkmhjkaaDoorDxF2
import Derived.Test.YtcelninhkmhjkaaDoorDxF3
import Derived.Test.YtcelninhkmhjkaaDoorDxF4
namespace Go.Proofs.YtcelninhkmhjkaaDoor
open Go Go.Dw Go.Proofs
set_option maxRecDepth 100000
open Go.Dw renaming Yo → mV,WO → bN,RK → lO,VU → bD,WS → cK,WU → nI,WY → xS,Yq → rG,Ys → sQ,Sk → aO,WN → aS,WV → oF,WQ → bL,VV → bS,Rv → cV,QZ → cG,Ru → cR,WM → aP,RL → sV,Uj → sE,Ty → iS,Sl → iO,TA → lS,Sm → lW,VW → fA,Zy → eX,Ug → lF,UA → sP,Qz → pT,Qe → pF,Zn → uN,WT → nW,WR → bX,Sj → aN,Xr → aL,WZ → cD,Wa → bK,Yr → rT,Xc → sK,Xa → eT,WX → xC,VY → xL,Un → xR,Um → zR,VZ → lR,Uy → hE,QA → lE,Rx → bH,Qf → bM,Ul → bR,Ry → xE,Yn → cP,Xb → lP,TC → sC,Uh → bC,rf → r
def AbP : Mj:=(.seq (.reg [P 3 (.box (T 1) 3 27),P 4 (.new (.agg [.nils]) 1 30)] false) (.seq (.reg [P 10 (.ld 3 true (T 3)),P 11 (.call (.c (.clo 24 [])) [(T 10)]),P 5 (.new (.agg [.nils]) 1 30),⟨none,(.st 1 (T 5) (T 11)),none,[]⟩] false) (.seq (.reg [P 12 (.fldA 0 (T 5)),P 13 (.ld 1 false (T 12)),P 14 (.app 1 36 24 (.c .nils) (T 13)),⟨(some 15),(.bld [.nils] [⟨0,⟨1,(T 14)⟩⟩]),none,[]⟩,P 6 (.new (.agg [.nils]) 1 30),⟨none,(.st 1 (T 6) (T 15)),none,[]⟩] false) (.seq (.seq (.reg [M 16 0,P 17 (.call (.c (.clo 54 [])) [(T 16),(C 3)]),P 7 (.asg (T 17) none)] false) (.block 0 (.loop (.seq (.seq (.reg [M 18 7,P 19 (.bin .gtr (T 18) (C 0)),M 20 19,⟨(some 21),(.fldA 1 (T 3)),(some ⟨20,true⟩),[]⟩,⟨(some 22),(.ld 1 false (T 21)),(some ⟨20,true⟩),[]⟩,⟨(some 23),(.len false (T 22)),(some ⟨20,true⟩),[]⟩,⟨(some 24),(.bin .gtr (T 23) (C 0)),(some ⟨20,true⟩),[]⟩,P 25 (.pick (T 20) (T 24) (.c (.bool false)))] false) (.cond (T 25) .skip (.exit 0))) (.seq (.block 1 (.seq (.reg [M 28 0,P 29 (.fldA 1 (T 3)),P 30 (.ld 1 false (T 29)),P 31 (.len false (T 30)),P 32 (.call (.c (.clo 54 [])) [(T 28),(T 31)]),P 8 (.asg (T 32) none)] false) (.seq (.reg [P 9 (.asg (C 0) none)] false) (.block 2 (.loop (.seq (.seq (.reg [M 33 9,P 34 (.fldA 0 (T 6)),P 35 (.ld 1 false (T 34)),P 36 (.len false (T 35)),P 37 (.bin .lss (T 33) (T 36))] false) (.cond (T 37) .skip (.exit 2))) (.seq (.block 3 (.reg [P 40 (.fldA 0 (T 6)),⟨(some 41),(.ld 1 false (T 40)),none,[0]⟩,M 42 9,P 43 (.fldA 0 (T 6)),⟨(some 44),(.ld 1 false (T 43)),none,[3]⟩,M 45 9,⟨(some 46),(.ixA 1 (T 44) (T 45)),none,[4,5]⟩,⟨(some 47),(.ld 1 false (T 46)),none,[6]⟩,M 48 8,⟨(some 49),(.call (.c (.clo 44 [])) [(T 47),(T 48)]),none,[7,8]⟩,⟨(some 50),(.ixA 1 (T 41) (T 42)),none,[1,2,0,1,2,3,4,5,6,7,8,9]⟩,⟨none,(.st 1 (T 50) (T 49)),none,[10,9,9,0,1,2,3,4,5,6,7,8,9]⟩] true)) (.reg [M 38 9,P 39 (.bin .add (T 38) (C 1)),P 9 (.asg (T 39) none)] false)))))))) (.reg [M 26 7,P 27 (.bin .sub (T 26) (C 1)),P 7 (.asg (T 27) none)] false)))))) (.seq (.reg [P 51 (.ld 1 true (T 6)),⟨none,(.st 1 (T 4) (T 51)),none,[]⟩] false) .ret)))))
theorem Aea : (Tryd.f26.body.bind (Mm Tryd.prog Tryd.f26.ntmps)) = some AbP:=by kernel_rfl
theorem Aeb : Tryd.f26.results.toList.mapM (MB Tryd.prog) = some [(.c 4 1 true)]:=by kernel_rfl
def Qn (a : LR × LW) : List D:=[Mt a.1,MN a.2]
def Qm (ds : List D) : LR × LW:=(Nu (ds.getD 0 .top),Qu (ds.getD 1 .top))
theorem TF (a : LR × LW) : Qm (Qn a) = a:=by simp [Qm,Qn]
def Ps (b : Mg × LR) : D:=OL b.1
def Ur (b : Mg × LR) : List D:=[Mt b.2]
noncomputable def Rf : Dw.Spec:=Mk [(0,(2,100))] .val Qn Qm (fun a=>Ob a.1 a.2) Ps Ur
set_option maxHeartbeats 4000000 in
theorem XO : Mi Tryd.prog 26 Rf:=by
 refine MA (Mv (l:=[(24,US),(54,Mo),(44,Sg)]) (by simp [Zw,MW,XY])) Tryd.func26 (by decide) Aea Aeb (np:=2) (by decide) TF (fun _=>r) (fun _=>r) (by decide)<|?_
 rintro ⟨c1,f2⟩
 show TrE (specs [(24,US),(54,Mo),(44,Sg)]) AbP (MD [(0,(2,100))] .val [(.c 4 1 true)] Ps Ur) ⟨[(0,.optr 8192 0 0 0),(1,.agg [.int .i64 f2.Params,.sl (f2.Slots.map LY),.sl (f2.Code.map LU)])],[(8192,some (0,⟨false,true,2,100,[.agg [.sl (c1.list.map eU8),.int .i64 c1.at_]]⟩))],262144⟩ (Ob c1 f2)
 refine Mu<|?_
 unfold AbP Ob
 refine sQ<|rG<|bX r r r r r<|nW r<|nI<|xS<|sQ<|rG<|lO (v:=.agg [.int .i64 f2.Params,.sl (f2.Slots.map LY),.sl (f2.Code.map LU)]) (z:=.agg [.int .i64 f2.Params,.sl (f2.Slots.map LY),.sl (f2.Code.map LU)]) r r r r r r<|bD fun r3 hr3=>cV f2 r r r WK r r (by simp) r hr3<|nW r<|sV (z':=.agg [.sl (r3.Out.map (eL Ed))]) r r r r r r r r r<|nI<|xS<|sQ<|rG<|fA r r<|lO (v:=.sl (r3.Out.map (eL Ed))) (z:=.agg [.sl (r3.Out.map (eL Ed))]) r r r r r r<|cK fun hq=>aP (([] : List (List Int))) (r3.Out) (eL Ed) r r r r r r r (by simp) r r r (by simp) r (fun _=>r) r hq<|bL (cs:=[.osl 14 _ 0 ((([] : List (List Int)) ++ r3.Out).length)]) (ps:=[(0,1,.osl 14 _ 0 ((([] : List (List Int)) ++ r3.Out).length))]) r r r r<|nW r<|sV (z':=.agg [.osl 14 _ 0 ((([] : List (List Int)) ++ r3.Out).length)]) r r r r r r r r r<|nI<|xS<|sQ<|sQ<|rG<|mV r r<|bD fun r4 hr4=>cV (c1,3) r r r Ma r r (by simp) r hr4<|aS r r<|nI<|xS<|bK<|lP (E:=fun (s : (List Int) × Int × (List (List Int)) × Int) (g : Nat × Nat × Nat × Nat)=>[(0,.optr 8192 0 0 0),(3,.optr 3 g.1 0 0),(4,.optr 4 g.2.1 0 0),(6,.optr 6 g.2.2.1 0 0),(7,.int .i64 s.2.2.2)]) (O:=fun s g=>[(3,some (g.1,⟨false,true,3,27,[.agg [.int .i64 f2.Params,.sl (f2.Slots.map LY),.sl (f2.Code.map LU)]]⟩)),(4,some (g.2.1,⟨false,true,1,30,[.agg [.nils]]⟩)),(6,some (g.2.2.1,⟨false,true,1,30,[.agg [.osl 14 g.2.2.2 0 s.2.2.1.length]]⟩)),(14,some (g.2.2.2,⟨false,false,1,36,s.2.2.1.map (eL Ed)⟩)),(8192,some (0,⟨false,true,2,100,[.agg [.sl (s.1.map eU8),.int .i64 s.2.1]]⟩))]) (body:=fun s=>OZ f2 s.1 s.2.1 s.2.2.1 s.2.2.2) (s:=(r4.2.list,r4.2.at_,([] : List (List Int)) ++ r3.Out,r4.1)) (_,_,_,_) ((hE ⟨rfl,r,r,r,r,trivial⟩ ⟨rfl,r,r,r,r,trivial⟩))<|?_
 rintro ⟨c5,c6,x7,n8⟩ ⟨v3x1,v4x1,v6x1,v14x1⟩ nn
 try dsimp only
 unfold OZ
 refine sC (E:=fun (s : Unit) (g : Nat × Nat × Nat × Nat)=>[(0,.optr 8192 0 0 0),(3,.optr 3 g.1 0 0),(4,.optr 4 g.2.1 0 0),(6,.optr 6 g.2.2.1 0 0),(7,.int .i64 n8),(21,.optr 3 g.1 0 1),(22,.sl (f2.Slots.map LY)),(23,.int .i64 (f2.Slots.length : Int)),(24,.bool (decide ((f2.Slots.length : Int) > 0)))]) (O:=fun s g=>[(3,some (g.1,⟨false,true,3,27,[.agg [.int .i64 f2.Params,.sl (f2.Slots.map LY),.sl (f2.Code.map LU)]]⟩)),(4,some (g.2.1,⟨false,true,1,30,[.agg [.nils]]⟩)),(6,some (g.2.2.1,⟨false,true,1,30,[.agg [.osl 14 g.2.2.2 0 x7.length]]⟩)),(14,some (g.2.2.2,⟨false,false,1,36,x7.map (eL Ed)⟩)),(8192,some (0,⟨false,true,2,100,[.agg [.sl (c5.map eU8),.int .i64 c6]]⟩))]) (j:=fun s=>Pb c5 c6 f2 n8 x7) ?_ ?_
 ·refine sQ<|rG<|mV r r<|bN (v:=.bool (decide (n8 > 0))) r r r r r<|mV r r<|sP 20 (b:=(decide (n8 > 0))) r ?_ ?_
  ·refine fA r r<|lO (v:=.sl (f2.Slots.map LY)) (z:=.agg [.int .i64 f2.Params,.sl (f2.Slots.map LY),.sl (f2.Code.map LU)]) r r r r r r<|lS r r<|bN (v:=.bool (decide ((f2.Slots.length : Int) > 0))) r r r r r<|pT r r r r<|nI<|xS<|cD (c:=(decide ((f2.Slots.length : Int) > 0))) r ?_ ?_
   ·exact sK<|xC (s:=()) (_,_,_,_) ((hE ⟨rfl,r,r,r,r,r,r,r,r,trivial⟩ ⟨rfl,r,r,r,r,trivial⟩))
   ·refine eT<|Yp<|lE<|bH<|xS<|sQ<|rG<|lO (v:=.agg [.osl 14 _ 0 x7.length]) (z:=.agg [.osl 14 _ 0 x7.length]) r r r r r r<|sV (z':=.agg [.osl 14 _ 0 x7.length]) r r r r r r r r r<|nI<|xS<|rT<|Nb (b:=((Mg.mk x7),(LR.mk c5 c6))) r ?_ r r ?_ (by first | rfl | (simp only [Mf]; rfl) | (simp only [Mh]; rfl) | (simp only [Mf,Mh]; rfl) | simp [Ps,OL])
    all_goals first|(simp;done)|(simp;omega)|rfl|(simp [Md,LZ];done)
  ·refine oF r<|oF r<|oF r<|oF r<|pF r r r r<|nI<|xS<|XN r<|eT<|Yp<|lE<|bH<|xS<|sQ<|rG<|lO (v:=.agg [.osl 14 _ 0 x7.length]) (z:=.agg [.osl 14 _ 0 x7.length]) r r r r r r<|sV (z':=.agg [.osl 14 _ 0 x7.length]) r r r r r r r r r<|nI<|xS<|rT<|Nb (b:=((Mg.mk x7),(LR.mk c5 c6))) r ?_ r r ?_ (by first | rfl | (simp only [Mf]; rfl) | (simp only [Mh]; rfl) | (simp only [Mf,Mh]; rfl) | simp [Ps,OL])
   all_goals first|(simp;done)|(simp;omega)|rfl|(simp [Md,LZ];done)
 ·rintro ⟨⟩ ⟨v3x2,v4x2,v6x2,v14x2⟩ nn
  try dsimp only
  unfold Pb
  refine bC (E:=fun (s : (List Int) × Int × (List (List Int))) (g : Nat × Nat × Nat × Nat)=>[(0,.optr 8192 0 0 0),(3,.optr 3 g.1 0 0),(4,.optr 4 g.2.1 0 0),(6,.optr 6 g.2.2.1 0 0),(7,.int .i64 n8),(21,.optr 3 g.1 0 1),(22,.sl (f2.Slots.map LY)),(23,.int .i64 (f2.Slots.length : Int)),(24,.bool (decide ((f2.Slots.length : Int) > 0)))]) (O:=fun s g=>[(3,some (g.1,⟨false,true,3,27,[.agg [.int .i64 f2.Params,.sl (f2.Slots.map LY),.sl (f2.Code.map LU)]]⟩)),(4,some (g.2.1,⟨false,true,1,30,[.agg [.nils]]⟩)),(6,some (g.2.2.1,⟨false,true,1,30,[.agg [.osl 14 g.2.2.2 0 s.2.2.length]]⟩)),(14,some (g.2.2.2,⟨false,false,1,36,s.2.2.map (eL Ed)⟩)),(8192,some (0,⟨false,true,2,100,[.agg [.sl (s.1.map eU8),.int .i64 s.2.1]]⟩))]) (j:=fun s=>Pc n8 s.1 s.2.1 s.2.2) ?_ ?_
  ·refine sQ<|rG<|mV r r<|fA r r<|lO (v:=.sl (f2.Slots.map LY)) (z:=.agg [.int .i64 f2.Params,.sl (f2.Slots.map LY),.sl (f2.Code.map LU)]) r r r r r r<|lS r r<|bD fun r12 hr12=>cV ((LR.mk c5 c6),(f2.Slots.length : Int)) r r r Ma r r (by simp) r hr12<|aS r r<|nI<|xS<|sQ<|rG<|aS r r<|nI<|xS<|bK<|lP (E:=fun (s : (List (List Int)) × Int) (g : Nat × Nat × Nat × Nat)=>[(0,.optr 8192 0 0 0),(3,.optr 3 g.1 0 0),(4,.optr 4 g.2.1 0 0),(6,.optr 6 g.2.2.1 0 0),(7,.int .i64 n8),(8,.int .i64 r12.1),(9,.int .i64 s.2),(21,.optr 3 g.1 0 1),(22,.sl (f2.Slots.map LY)),(23,.int .i64 (f2.Slots.length : Int)),(24,.bool (decide ((f2.Slots.length : Int) > 0)))]) (O:=fun s g=>[(3,some (g.1,⟨false,true,3,27,[.agg [.int .i64 f2.Params,.sl (f2.Slots.map LY),.sl (f2.Code.map LU)]]⟩)),(4,some (g.2.1,⟨false,true,1,30,[.agg [.nils]]⟩)),(6,some (g.2.2.1,⟨false,true,1,30,[.agg [.osl 14 g.2.2.2 0 s.1.length]]⟩)),(14,some (g.2.2.2,⟨false,false,1,36,s.1.map (eL Ed)⟩)),(8192,some (0,⟨false,true,2,100,[.agg [.sl (r12.2.list.map eU8),.int .i64 r12.2.at_]]⟩))]) (body:=fun s=>Pa r12 n8 s.1 s.2) (s:=(x7,0)) (_,_,_,_) ((hE ⟨rfl,r,r,r,r,r,r,r,r,r,r,trivial⟩ ⟨rfl,r,r,r,r,trivial⟩))<|?_
   rintro ⟨x13,k14⟩ ⟨v3x3,v4x3,v6x3,v14x3⟩ nn
   try dsimp only
   unfold Pa
   refine sQ<|sQ<|rG<|mV r r<|fA r r<|lO (v:=.osl 14 _ 0 x13.length) (z:=.agg [.osl 14 _ 0 x13.length]) r r r r r r<|lW r r<|bN (v:=.bool (decide (k14 < (x13.length : Int)))) r r r r r<|nI<|xS<|cD (c:=(decide (k14 < (x13.length : Int)))) r ?_ ?_
   ·exact sK<|xS<|sQ<|bK<|rG<|fA r r<|lO (v:=.osl 14 _ 0 x13.length) (z:=.agg [.osl 14 _ 0 x13.length]) r r r r r r<|mV r r<|fA r r<|lO (v:=.osl 14 _ 0 x13.length) (z:=.agg [.osl 14 _ 0 x13.length]) r r r r r r<|mV r r<|cK fun hq=>iO (l:=x13) (en:=(eL Ed)) r r r r r hq<|bD fun x_e15 hx_e15=>lO (v:=.sl (x_e15.map Ed)) (z:=(eL Ed) x_e15) r r r (NN hx_e15) r r<|mV r r<|bD fun r16 hr16=>cR (l:=r16) (en:=Ed) (x_e15,r12.1) r r r VH r r (by simp) r hr16 r<|cK fun hq=>iO (l:=x13) (en:=(eL Ed)) r r r r r hq<|bD fun x_o17 hx_o17=>sE (l:=x13) (en:=(eL Ed)) (q':=r16) r r r r r r r (by simp) hx_o17 r r r (by simp [MI,cells,setAt,eL]) r<|Mw (by kernel_rfl)<|bM<|xS<|rG<|mV r r<|bN (v:=.int .i64 (IntKind.i64.wrap (k14 + 1))) r r r r r<|aS r r<|nI<|xL (s:=(x13.set k14.toNat r16,IntKind.i64.wrap (k14 + 1))) (_,_,_,_) ((hE ⟨rfl,r,r,r,r,r,r,r,r,r,r,trivial⟩ ⟨rfl,r,(Eq.trans (b:=some (_,⟨false,true,1,30,[.agg [.osl 14 _ 0 x13.length]]⟩)) r (by simp)),r,r,trivial⟩))
   ·exact eT<|xE<|lE<|bH<|TB (s:=(r12.2.list,r12.2.at_,x13)) (_,_,_,_) ((hE ⟨rfl,r,r,r,r,r,r,r,r,trivial⟩ ⟨rfl,r,r,r,r,trivial⟩))
  ·rintro ⟨c9,c10,x11⟩ ⟨v3x4,v4x4,v6x4,v14x4⟩ nn
   try dsimp only
   unfold Pc
   exact rG<|mV r r<|bN (v:=.int .i64 (IntKind.i64.wrap (n8 - 1))) r r r r r<|aS r r<|nI<|xL (s:=(c9,c10,x11,IntKind.i64.wrap (n8 - 1))) (_,_,_,_) ((hE ⟨rfl,r,r,r,r,trivial⟩ ⟨rfl,r,r,r,r,trivial⟩))

def AbK : Mj:=(.seq (.reg [P 2 (.new (.agg [(.int .i64 0),.nils,.nils]) 3 27),P 3 (.new (.agg [.nils]) 1 30),P 4 (.asg (.c .top) none)] false) (.seq (.reg [M 8 0,P 9 (.call (.c (.clo 52 [])) [(T 8),(C 250)]),P 5 (.asg (T 9) none)] false) (.seq (.reg [M 10 5,P 11 (.call (.c (.clo 53 [])) [(T 10),(C 3),(C 16)]),P 6 (.new (.agg [.nils]) 1 70),⟨none,(.st 1 (T 6) (T 11)),none,[]⟩] false) (.seq (.reg [P 12 (.fldA 0 (T 6)),⟨(some 13),(.ld 1 false (T 12)),none,[0]⟩,M 14 5,P 15 (.fldA 0 (T 6)),⟨(some 16),(.ld 1 false (T 15)),none,[3]⟩,⟨(some 17),(.len false (T 16)),none,[4]⟩,⟨(some 18),(.call (.c (.clo 54 [])) [(T 14),(T 17)]),none,[2,5]⟩,⟨(some 19),(.ixA 3 (T 13) (T 18)),none,[1,6]⟩,⟨(some 20),(.ld 3 true (T 19)),none,[7]⟩,P 7 (.new (.agg [(.int .i64 0),.nils,.nils]) 3 27),⟨none,(.st 3 (T 7) (T 20)),none,[9,8,6,0,1,2,3,4,5,6,7,8,9]⟩] true) (.seq (.reg [P 21 (.ld 3 true (T 7)),M 22 5,P 23 (.ld 3 true (T 7)),⟨(some 24),(.call (.c (.clo 26 [])) [(T 22),(T 23)]),none,[1,2]⟩,M 25 5,⟨none,(.st 3 (T 2) (T 21)),none,[0,3,0]⟩,⟨none,(.st 1 (T 3) (T 24)),none,[3,5,0,1,2,3,5]⟩,⟨(some 4),(.asg (T 25) none),none,[4,6,0,1,2,3,4,5,6]⟩] true) .ret)))))
theorem AdQ : (Tryd.f16.body.bind (Mm Tryd.prog Tryd.f16.ntmps)) = some AbK:=by kernel_rfl
theorem AdR : Tryd.f16.results.toList.mapM (MB Tryd.prog) = some [(.c 2 3 true),(.c 3 1 true),(.t 4)]:=by kernel_rfl
def Tm (a : (List Int)) : List D:=[.sl (a.map eU8)]
def Tl (ds : List D) : (List Int):=(uL uI) (ds.getD 0 .top)
theorem WC (a : (List Int)) : Tl (Tm a) = a:=by simp [Tl,Tm,Oh (u:=uI) (en:=eU8) (fun _=>rfl)]
def XB (b : LW × Mg × LR) : D:=.tup [MN b.1,OL b.2.1,Mt b.2.2]
def XA (_b : LW × Mg × LR) : List D:=[]
noncomputable def UM : Dw.Spec:=Mk [] (.tupPtr 2 2 100) Tm Tl (fun a=>QE a) XB XA
set_option maxHeartbeats 4000000 in
theorem Zt : Mi Tryd.prog 16 UM:=by
 refine MA (Mv (l:=[(52,Xj),(53,Qo),(54,Mo),(26,Rf)]) (by simp [Aaw,Wz,MW,XO])) Tryd.func16 (by decide) AdQ AdR (np:=1) (by decide) WC (fun _=>r) (fun _=>r) (by decide)<|?_
 intro codes1
 show TrE (specs [(52,Xj),(53,Qo),(54,Mo),(26,Rf)]) AbK (MD [] (.tupPtr 2 2 100) [(.c 2 3 true),(.c 3 1 true),(.t 4)] XB XA) ⟨[(0,.sl (codes1.map eU8))],[],262144⟩ (QE codes1)
 refine Mu<|?_
 unfold AbK QE
 refine sQ<|rG<|nW r<|nW r<|aS r r<|nI<|xS<|sQ<|rG<|mV r r<|bD fun r2 hr2=>cP (codes1,250) r r r YF r r (by simp) r hr2<|aS r r<|nI<|xS<|sQ<|rG<|mV r r<|bD fun r3 hr3=>cV (r2,3,16) r r r SM r r (by simp) r hr3<|nW r<|sV (z':=.agg [.sl (r3.1.Funcs.map MN)]) r r r r r r r r r<|nI<|xS<|sQ<|rG<|fA r r<|lO (v:=.sl (r3.1.Funcs.map MN)) (z:=.agg [.sl (r3.1.Funcs.map MN)]) r r r r r r<|mV r r<|fA r r<|lO (v:=.sl (r3.1.Funcs.map MN)) (z:=.agg [.sl (r3.1.Funcs.map MN)]) r r r r r r<|lS r r<|bD fun r4 hr4=>cV (r3.2,(r3.1.Funcs.length : Int)) r r r Ma r r (by simp) r hr4<|bD fun x_x5 hx_x5=>iS (en:=MN) r r r hx_x5 r<|lF (v:=.agg [.int .i64 x_x5.Params,.sl (x_x5.Slots.map LY),.sl (x_x5.Code.map LU)]) r r r r<|nW r<|sV (z':=.agg [.int .i64 x_x5.Params,.sl (x_x5.Slots.map LY),.sl (x_x5.Code.map LU)]) r r r r r r r r r<|Mw (by kernel_rfl)<|xS<|sQ<|rG<|lO (v:=.agg [.int .i64 x_x5.Params,.sl (x_x5.Slots.map LY),.sl (x_x5.Code.map LU)]) (z:=.agg [.int .i64 x_x5.Params,.sl (x_x5.Slots.map LY),.sl (x_x5.Code.map LU)]) r r r r r r<|mV r r<|lO (v:=.agg [.int .i64 x_x5.Params,.sl (x_x5.Slots.map LY),.sl (x_x5.Code.map LU)]) (z:=.agg [.int .i64 x_x5.Params,.sl (x_x5.Slots.map LY),.sl (x_x5.Code.map LU)]) r r r r r r<|bD fun r6 hr6=>cV (r4.2,x_x5) r r r TF r r (by simp) r hr6<|mV r r<|sV (z':=.agg [.int .i64 x_x5.Params,.sl (x_x5.Slots.map LY),.sl (x_x5.Code.map LU)]) r r r r r r r r r<|sV (z':=.agg [.sl (r6.1.Out.map (eL Ed))]) r r r r r r r r r<|aS r r<|Mw (by kernel_rfl)<|xS<|rT<|LD (b:=(x_x5,r6.1,r6.2)) (by decide) (by decide) r ?_ r ?_ r ?_ r ?_ r r ?_ r
 all_goals first|(simp;done)|(simp;omega)|rfl|(simp [Md,LZ];done)

def Rp (a : LW × Mg × Int) : List D:=[MN a.1,OL a.2.1,.int .i64 a.2.2]
def Ro (ds : List D) : LW × Mg × Int:=(Qu (ds.getD 0 .top),Xu (ds.getD 1 .top),uI (ds.getD 2 .top))
theorem Vj (a : LW × Mg × Int) : Ro (Rp a) = a:=by simp [Ro,Rp,uI]
def VG (b : (List Int)) : D:=.sl (b.map Ed)
def VF (_b : (List Int)) : List D:=[]
noncomputable def SC : Dw.Spec:=Mk [] .val Rp Ro (fun a=>Of a.1 a.2.1 a.2.2) VG VF
set_option maxHeartbeats 4000000 in
theorem Yy : Mi Tryd.prog 58 SC:=by
 refine MA (Mv (l:=[(88,PI),(74,Sf),(69,Oa)]) (by simp [VD,XW,SW])) Tryd.func58 (by decide) Abh Abi (np:=3) (by decide) Vj (fun _=>r) (fun _=>r) (by decide)<|?_
 rintro ⟨f1,l2,k3⟩
 show TrE (specs [(88,PI),(74,Sf),(69,Oa)]) ZZ (MD [] .val [(.t 6)] VG VF) ⟨[(0,.agg [.int .i64 f1.Params,.sl (f1.Slots.map LY),.sl (f1.Code.map LU)]),(1,.agg [.sl (l2.Out.map (eL Ed))]),(2,.int .i64 k3)],[],262144⟩ (Of f1 l2 k3)
 refine Mu<|?_
 unfold ZZ Of
 refine sQ<|rG<|bX r r r r r<|bX r r r r r<|aN (α:=Int) r Ed r<|nI<|xS<|sQ<|rG<|aN (α:=Int) r Ed r<|nI<|xS<|sQ<|sQ<|rG<|lO (v:=.agg [.int .i64 f1.Params,.sl (f1.Slots.map LY),.sl (f1.Code.map LU)]) (z:=.agg [.int .i64 f1.Params,.sl (f1.Slots.map LY),.sl (f1.Code.map LU)]) r r r r r r<|mV r r<|bD fun r4 hr4=>cR (l:=r4) (en:=Ed) (f1,k3) r r r Th r r (by simp) r hr4 r<|lW r r<|mV r r<|nI<|xS<|bK<|lP (E:=fun (s : Int × (List Int)) (g : Nat × Nat × Nat)=>[(3,.optr 3 g.1 0 0),(4,.optr 4 g.2.1 0 0),(7,.sl (s.2.map Ed)),(12,.osl 12 g.2.2 0 r4.length),(13,.int .i64 (r4.length : Int)),(14,.int .i64 s.1)]) (O:=fun s g=>[(3,some (g.1,⟨false,true,3,27,[.agg [.int .i64 f1.Params,.sl (f1.Slots.map LY),.sl (f1.Code.map LU)]]⟩)),(4,some (g.2.1,⟨false,true,1,30,[.agg [.sl (l2.Out.map (eL Ed))]]⟩)),(12,some (g.2.2,⟨false,false,1,3,r4.map Ed⟩))]) (body:=fun s=>PT r4 f1 l2 s.1 s.2) (s:=(0,([] : List Int))) (_,_,_) ((Sz [(7,some (_,⟨true,false,1,3,([] : List Int).map Ed⟩))] ⟨⟨_,_,r,r,r⟩,trivial⟩ ⟨(Mp r),(Mp r),(XR (Re (l:=([] : List Int)) (en:=Ed) r r r (by simp))),(Mp r),(Mp r),(Mp r),trivial⟩ ⟨(.inl r),(.inl r),(.inl r),trivial⟩))<|?_
 rintro ⟨x5,s6⟩ ⟨v3x1,v4x1,v12x1⟩ nn
 try dsimp only
 unfold PT
 refine sQ<|rG<|bN (v:=.bool (decide (x5 < (r4.length : Int)))) r r r r r<|nI<|xS<|sQ<|cD (c:=(decide (x5 < (r4.length : Int)))) r ?_ ?_
 ·exact sK<|xS<|sQ<|bK<|sQ<|rG<|cK fun hq=>iO (l:=r4) (en:=Ed) r r r r r hq<|bD fun x_e7 hx_e7=>lO (v:=.int .i64 x_e7) (z:=Ed x_e7) r r r (NN hx_e7) r r<|aS r r<|nI<|xS<|rG<|mV r r<|fA r r<|lO (v:=.sl (f1.Code.map LU)) (z:=.agg [.int .i64 f1.Params,.sl (f1.Slots.map LY),.sl (f1.Code.map LU)]) r r r r r r<|mV r r<|bD fun x_x8 hx_x8=>iS (en:=LU) r r r hx_x8 r<|lF (v:=.agg [.int .i64 x_x8.Op,.int .i64 x_x8.A,.int .i64 x_x8.B,.int .i64 x_x8.C,.int .u64 x_x8.Imm]) r r r r<|fA r r<|lO (v:=.sl (l2.Out.map (eL Ed))) (z:=.agg [.sl (l2.Out.map (eL Ed))]) r r r r r r<|mV r r<|bD fun x_x9 hx_x9=>iS (en:=(eL Ed)) r r r hx_x9 r<|lF (v:=.sl (x_x9.map Ed)) r r r r<|bD fun r10 hr10=>cV (x_x8,x_x9) r r r VC r r (by simp) r hr10<|bD fun r11 hr11=>cV (s6,r10) r r r Pp r r (by simp) r hr11<|aL r r<|Mw (by kernel_rfl)<|bM<|xS<|rG<|bN (v:=.int .i64 (IntKind.i64.wrap (x5 + 1))) r r r r r<|mV r r<|nI<|xL (s:=(IntKind.i64.wrap (x5 + 1),r11)) (_,_,_) ((hE ⟨rfl,r,r,r,r,r,trivial⟩ ⟨rfl,r,r,trivial⟩))
 ·refine eT<|xE<|lE<|bH<|xS<|sQ<|rG<|mV r r<|aL r r<|nI<|xS<|rT<|Nb (b:=s6) r ?_ r r ?_ r
  all_goals first|(simp;done)|(simp;omega)|rfl|(simp [Md,LZ];done)

def AbT : Mj:=(.seq (.reg [P 2 (.box (T 0) 3 27),P 3 (.box (T 1) 1 30),P 4 (.new (.agg [.nils]) 1 30)] false) (.seq (.reg [P 5 (.new (.agg [.nils]) 1 30)] false) (.seq (.seq (.reg [P 7 (.fldA 2 (T 2)),P 8 (.ld 1 false (T 7)),P 9 (.len false (T 8)),P 10 (.mv (C 0))] false) (.block 0 (.loop (.seq (.reg [P 11 (.bin .lss (T 10) (T 9))] false) (.seq (.cond (T 11) .skip (.exit 0)) (.seq (.block 1 (.seq (.reg [M 12 10,P 6 (.asg (T 12) none)] false) (.reg [P 13 (.fldA 0 (T 5)),⟨(some 14),(.ld 1 false (T 13)),none,[0]⟩,P 15 (.ld 3 true (T 2)),P 16 (.ld 1 true (T 3)),M 17 6,⟨(some 18),(.call (.c (.clo 58 [])) [(T 15),(T 16),(T 17)]),none,[2,3,4]⟩,⟨(some 19),(.bldS 1 36 (.sl []) 1 [⟨0,(T 18)⟩]),none,[5]⟩,⟨(some 20),(.app 1 36 24 (T 14) (T 19)),none,[1,6,5]⟩,⟨(some 21),(.fldA 0 (T 5)),none,[0,1,2,3,4,5,6,7]⟩,⟨none,(.st 1 (T 21) (T 20)),none,[8,7,7,0,1,2,3,4,5,6,7]⟩] true))) (.reg [P 22 (.bin .add (T 10) (C 1)),M 10 22] false))))))) (.seq (.reg [P 23 (.ld 1 true (T 5)),⟨none,(.st 1 (T 4) (T 23)),none,[]⟩] false) .ret))))
theorem Aei : (Tryd.f32.body.bind (Mm Tryd.prog Tryd.f32.ntmps)) = some AbT:=by kernel_rfl
theorem Aej : Tryd.f32.results.toList.mapM (MB Tryd.prog) = some [(.c 4 1 true)]:=by kernel_rfl
def RY (a : LW × Mg) : List D:=[MN a.1,OL a.2]
def RX (ds : List D) : LW × Mg:=(Qu (ds.getD 0 .top),Xu (ds.getD 1 .top))
theorem SB (a : LW × Mg) : RX (RY a) = a:=by simp [RX,RY]
def Tn (b : Mg) : D:=OL b
def Wg (_b : Mg) : List D:=[]
noncomputable def To : Dw.Spec:=Mk [] .val RY RX (fun a=>NF a.1 a.2) Tn Wg
set_option maxHeartbeats 4000000 in
theorem YW : Mi Tryd.prog 32 To:=by
 refine MA (Mv (l:=[(58,SC)]) (by simp [Yy])) Tryd.func32 (by decide) Aei Aej (np:=2) (by decide) SB (fun _=>r) (fun _=>r) (by decide)<|?_
 rintro ⟨f1,l2⟩
 show TrE (specs [(58,SC)]) AbT (MD [] .val [(.c 4 1 true)] Tn Wg) ⟨[(0,.agg [.int .i64 f1.Params,.sl (f1.Slots.map LY),.sl (f1.Code.map LU)]),(1,.agg [.sl (l2.Out.map (eL Ed))])],[],262144⟩ (NF f1 l2)
 refine Mu<|?_
 unfold AbT NF
 refine sQ<|rG<|bX r r r r r<|bX r r r r r<|nW r<|nI<|xS<|sQ<|rG<|nW r<|nI<|xS<|sQ<|sQ<|rG<|fA r r<|lO (v:=.sl (f1.Code.map LU)) (z:=.agg [.int .i64 f1.Params,.sl (f1.Slots.map LY),.sl (f1.Code.map LU)]) r r r r r r<|lS r r<|mV r r<|nI<|xS<|bK<|lP (E:=fun (s : (List (List Int)) × Int) (g : Nat × Nat × Nat × Nat × Nat)=>[(2,.optr 2 g.1 0 0),(3,.optr 3 g.2.1 0 0),(4,.optr 4 g.2.2.1 0 0),(5,.optr 5 g.2.2.2.1 0 0),(9,.int .i64 (f1.Code.length : Int)),(10,.int .i64 s.2)]) (O:=fun s g=>[(2,some (g.1,⟨false,true,3,27,[.agg [.int .i64 f1.Params,.sl (f1.Slots.map LY),.sl (f1.Code.map LU)]]⟩)),(3,some (g.2.1,⟨false,true,1,30,[.agg [.sl (l2.Out.map (eL Ed))]]⟩)),(4,some (g.2.2.1,⟨false,true,1,30,[.agg [.nils]]⟩)),(5,some (g.2.2.2.1,⟨false,true,1,30,[.agg [.osl 2900 g.2.2.2.2 0 s.1.length]]⟩)),(2900,some (g.2.2.2.2,⟨false,false,1,36,s.1.map (eL Ed)⟩))]) (body:=fun s=>Qs f1 l2 s.1 s.2) (s:=(([] : List (List Int)),0)) (_,_,_,_,_) ((Aab (gg:=5) (off:=0) (tt:=2900) (s:=1) (tyy:=36) r r r r (hE ⟨rfl,r,r,r,r,r,trivial⟩ ⟨rfl,r,r,r,r,trivial⟩)))<|?_
 rintro ⟨x3,x4⟩ ⟨v2x1,v3x1,v4x1,v5x1,v2900x1⟩ nn
 try dsimp only
 unfold Qs
 refine sQ<|rG<|bN (v:=.bool (decide (x4 < (f1.Code.length : Int)))) r r r r r<|nI<|xS<|sQ<|cD (c:=(decide (x4 < (f1.Code.length : Int)))) r ?_ ?_
 ·exact sK<|xS<|sQ<|bK<|sQ<|rG<|mV r r<|aS r r<|nI<|xS<|rG<|fA r r<|lO (v:=.osl 2900 _ 0 x3.length) (z:=.agg [.osl 2900 _ 0 x3.length]) r r r r r r<|lO (v:=.agg [.int .i64 f1.Params,.sl (f1.Slots.map LY),.sl (f1.Code.map LU)]) (z:=.agg [.int .i64 f1.Params,.sl (f1.Slots.map LY),.sl (f1.Code.map LU)]) r r r r r r<|lO (v:=.agg [.sl (l2.Out.map (eL Ed))]) (z:=.agg [.sl (l2.Out.map (eL Ed))]) r r r r r r<|mV r r<|bD fun r5 hr5=>cV (f1,l2,x4) r r r Vj r r (by simp) r hr5<|bS ([r5] : List (List Int)) (eL Ed) r r r (by simp) r r r<|cK fun hq=>aP (x3) (([r5] : List (List Int))) (eL Ed) r r r r r r r (by simp) (Ml _ _ r) r r (by simp) (LX _ _ r) (fun _=>r) r hq<|fA r r<|sV (z':=.agg [.osl 20 _ 0 ((x3 ++ ([r5] : List (List Int))).length)]) r r r r r r r r r<|Mw (by kernel_rfl)<|bM<|xS<|rG<|bN (v:=.int .i64 (IntKind.i64.wrap (x4 + 1))) r r r r r<|mV r r<|nI<|xL (s:=(x3 ++ ([r5] : List (List Int)),IntKind.i64.wrap (x4 + 1))) (_,_,_,_,_) ((Qr (E1:=[(2,.optr 2 _ 0 0),(3,.optr 3 _ 0 0),(4,.optr 4 _ 0 0),(5,.optr 5 _ 0 0),(9,.int .i64 (f1.Code.length : Int)),(10,.int .i64 (IntKind.i64.wrap (x4 + 1)))]) (O1:=[(2,some (_,⟨false,true,3,27,[.agg [.int .i64 f1.Params,.sl (f1.Slots.map LY),.sl (f1.Code.map LU)]]⟩)),(3,some (_,⟨false,true,1,30,[.agg [.sl (l2.Out.map (eL Ed))]]⟩)),(4,some (_,⟨false,true,1,30,[.agg [.nils]]⟩)),(5,some (_,⟨false,true,1,30,[.agg [.osl 20 _ 0 ((x3 ++ ([r5] : List (List Int))).length)]]⟩)),(20,some (_,⟨false,false,1,36,(x3 ++ ([r5] : List (List Int))).map (eL Ed)⟩))]) (hE ⟨rfl,r,r,r,r,r,trivial⟩ ⟨rfl,r,r,r,r,trivial⟩) (fun _=>Od (fun g=>bif Nat.beq g 20 then 2900 else g) (by rfl) (hE ⟨rfl,r,r,r,r,r,trivial⟩ ⟨rfl,r,r,r,r,trivial⟩))))
 ·refine eT<|xE<|lE<|bH<|xS<|sQ<|rG<|lO (v:=.agg [.osl 2900 _ 0 x3.length]) (z:=.agg [.osl 2900 _ 0 x3.length]) r r r r r r<|sV (z':=.agg [.osl 2900 _ 0 x3.length]) r r r r r r r r r<|nI<|xS<|rT<|Nb (b:=(Mg.mk x3)) r ?_ r r ?_ (by first | rfl | (simp only [Mf]; rfl) | (simp only [Mh]; rfl) | (simp only [Mf,Mh]; rfl) | simp [Tn,OL])
  all_goals first|(simp;done)|(simp;omega)|rfl|(simp [Md,LZ];done)

def AbM : Mj:=(.seq (.reg [P 4 (.asg (.c (.bool false)) none)] false) (.seq (.seq (.reg [P 5 (.asg (C 0) none)] false) (.block 0 (.loop (.seq (.seq (.reg [M 6 5,M 7 0,P 8 (.len false (T 7)),P 9 (.bin .lss (T 6) (T 8))] false) (.cond (T 9) .skip (.exit 0))) (.seq (.block 1 (.seq (.reg [M 12 0,M 13 5,P 14 (.ixA 1 (T 12) (T 13)),P 15 (.ld 1 false (T 14)),M 16 1,P 17 (.bin .eql (T 15) (T 16))] false) (.cond (T 17) (.seq (.reg [P 4 (.asg (.c (.bool true)) none)] false) .ret) .skip))) (.reg [M 10 5,P 11 (.bin .add (T 10) (C 1)),P 5 (.asg (T 11) none)] false)))))) (.seq (.reg [P 4 (.asg (.c (.bool false)) none)] false) .ret)))
theorem AdU : (Tryd.f18.body.bind (Mm Tryd.prog Tryd.f18.ntmps)) = some AbM:=by kernel_rfl
theorem AdV : Tryd.f18.results.toList.mapM (MB Tryd.prog) = some [(.t 4)]:=by kernel_rfl
def UP (a : (List Int) × Int) : List D:=[.sl (a.1.map Ed),.int .i64 a.2]
def UO (ds : List D) : (List Int) × Int:=((uL uI) (ds.getD 0 .top),uI (ds.getD 1 .top))
theorem XZ (a : (List Int) × Int) : UO (UP a) = a:=by simp [UO,UP,uI,Oh (u:=uI) (en:=Ed) (fun _=>rfl)]
def YP (b : Bool) : D:=.bool b
def YO (_b : Bool) : List D:=[]
noncomputable def Wt : Dw.Spec:=Mk [] .ground UP UO (fun a=>SP a.1 a.2) YP YO
set_option maxHeartbeats 4000000 in
theorem Aal : Mi Tryd.prog 18 Wt:=by
 refine MA (Nh) Tryd.func18 (by decide) AdU AdV (np:=2) (by decide) XZ (fun _=>r) (fun _=>r) (by decide)<|?_
 rintro ⟨s1,n2⟩
 show TrE (specs []) AbM (MD [] .ground [(.t 4)] YP YO) ⟨[(0,.sl (s1.map Ed)),(1,.int .i64 n2)],[],262144⟩ (SP s1 n2)
 refine Mu<|?_
 unfold AbM SP
 refine sQ<|rG<|aS r r<|nI<|xS<|sQ<|sQ<|rG<|aS r r<|nI<|xS<|bK<|lP (E:=fun (s : Int) (g : Unit)=>[(0,.sl (s1.map Ed)),(1,.int .i64 n2),(5,.int .i64 s)]) (O:=fun s g=>[]) (body:=fun s=>PZ s1 n2 s) (s:=0) () ((hE ⟨rfl,r,r,trivial⟩ trivial))<|?_
 rintro i3 ⟨⟩ nn
 try dsimp only
 unfold PZ
 refine sQ<|sQ<|rG<|mV r r<|mV r r<|lS r r<|bN (v:=.bool (decide (i3 < (s1.length : Int)))) r r r r r<|nI<|xS<|cD (c:=(decide (i3 < (s1.length : Int)))) r ?_ ?_
 ·refine sK<|xS<|sQ<|bK<|sQ<|rG<|mV r r<|mV r r<|bD fun x_x4 hx_x4=>iS (en:=Ed) r r r hx_x4 r<|lF (v:=.int .i64 x_x4) r r r r<|mV r r<|bN (v:=.bool (x_x4 == n2)) r r r r r<|nI<|xS<|cD (c:=(x_x4 == n2)) r ?_ ?_
  ·refine sQ<|rG<|aS r r<|nI<|xS<|rT<|bR<|xR<|lR<|bR<|xR<|Mq (b:=true) r ?_ r r ?_ r
   all_goals first|(simp;done)|(simp;omega)|rfl|(simp [Md,LZ];done)
  ·exact sK<|bM<|xS<|rG<|mV r r<|bN (v:=.int .i64 (IntKind.i64.wrap (i3 + 1))) r r r r r<|aS r r<|nI<|xL (s:=IntKind.i64.wrap (i3 + 1)) () ((hE ⟨rfl,r,r,trivial⟩ trivial))
 ·refine eT<|xE<|lE<|bH<|xS<|sQ<|rG<|aS r r<|nI<|xS<|rT<|Mq (b:=false) r ?_ r r ?_ r
  all_goals first|(simp;done)|(simp;omega)|rfl|(simp [Md,LZ];done)

def Ach : Mj:=(.seq (.reg [⟨(some 4),(.asg (.c .nils) (some ⟨1,3⟩)),none,[]⟩] false) (.seq (.reg [⟨(some 5),(.asg (.c .nils) (some ⟨1,3⟩)),none,[]⟩] false) (.seq (.seq (.reg [P 6 (.asg (C 0) none)] false) (.block 0 (.loop (.seq (.seq (.reg [M 7 6,M 8 0,P 9 (.len false (T 8)),P 10 (.bin .lss (T 7) (T 9))] false) (.cond (T 10) .skip (.exit 0))) (.seq (.block 1 (.seq (.reg [M 13 1,M 14 0,M 15 6,P 16 (.ixA 1 (T 14) (T 15)),P 17 (.ld 1 false (T 16)),P 18 (.call (.c (.clo 18 [])) [(T 13),(T 17)]),P 19 (.un .not (T 18))] false) (.cond (T 19) (.reg [M 20 5,M 21 0,M 22 6,P 23 (.ixA 1 (T 21) (T 22)),P 24 (.ld 1 false (T 23)),⟨(some 25),(.bldS 1 3 (.int .i64 0) 1 [⟨0,(T 24)⟩]),none,[]⟩,P 26 (.app 1 3 8 (T 20) (T 25)),⟨(some 5),(.asg (T 26) (some ⟨1,3⟩)),none,[]⟩] false) .skip))) (.reg [M 11 6,P 12 (.bin .add (T 11) (C 1)),P 6 (.asg (T 12) none)] false)))))) (.seq (.reg [M 27 5,⟨(some 4),(.asg (T 27) (some ⟨1,3⟩)),none,[]⟩] false) .ret))))
theorem AeK : (Tryd.f65.body.bind (Mm Tryd.prog Tryd.f65.ntmps)) = some Ach:=by kernel_rfl
theorem AeL : Tryd.f65.results.toList.mapM (MB Tryd.prog) = some [(.t 4)]:=by kernel_rfl
def Ts (a : (List Int) × (List Int)) : List D:=[.sl (a.1.map Ed),.sl (a.2.map Ed)]
def Tq (ds : List D) : (List Int) × (List Int):=((uL uI) (ds.getD 0 .top),(uL uI) (ds.getD 1 .top))
theorem WD (a : (List Int) × (List Int)) : Tq (Ts a) = a:=by simp [Tq,Ts,Oh (u:=uI) (en:=Ed) (fun _=>rfl)]
def XD (b : (List Int)) : D:=.sl (b.map Ed)
def XC (_b : (List Int)) : List D:=[]
noncomputable def UQ : Dw.Spec:=Mk [] (.row 1 3) Ts Tq (fun a=>QF a.1 a.2) XD XC
set_option maxHeartbeats 4000000 in
theorem Zv : Mi Tryd.prog 65 UQ:=by
 refine MA (Mv (l:=[(18,Wt)]) (by simp [Aal])) Tryd.func65 (by decide) AeK AeL (np:=2) (by decide) WD (fun _=>r) (fun _=>r) (by decide)<|?_
 rintro ⟨a1,b2⟩
 show TrE (specs [(18,Wt)]) Ach (MD [] (.row 1 3) [(.t 4)] XD XC) ⟨[(0,.sl (a1.map Ed)),(1,.sl (b2.map Ed))],[],262144⟩ (QF a1 b2)
 refine Mu<|?_
 unfold Ach QF
 refine sQ<|rG<|aN (α:=Int) r Ed r<|nI<|xS<|sQ<|rG<|aN (α:=Int) r Ed r<|nI<|xS<|sQ<|sQ<|rG<|aS r r<|nI<|xS<|bK<|lP (E:=fun (s : (List Int) × Int) (g : Nat)=>[(0,.sl (a1.map Ed)),(1,.sl (b2.map Ed)),(5,.osl 5 g 0 s.1.length),(6,.int .i64 s.2)]) (O:=fun s g=>[(5,some (g,⟨false,false,1,3,s.1.map Ed⟩))]) (body:=fun s=>Og a1 b2 s.1 s.2) (s:=(([] : List Int),0)) _ ((hE ⟨rfl,r,r,r,trivial⟩ ⟨rfl,trivial⟩))<|?_
 rintro ⟨out3,i4⟩ v5x1 nn
 try dsimp only
 unfold Og
 refine sQ<|sQ<|rG<|mV r r<|mV r r<|lS r r<|bN (v:=.bool (decide (i4 < (a1.length : Int)))) r r r r r<|nI<|xS<|cD (c:=(decide (i4 < (a1.length : Int)))) r ?_ ?_
 ·refine sK<|xS<|sQ<|bK<|sQ<|rG<|mV r r<|mV r r<|mV r r<|bD fun x_x5 hx_x5=>iS (en:=Ed) r r r hx_x5 r<|lF (v:=.int .i64 x_x5) r r r r<|bD fun r6 hr6=>cG (b2,x_x5) r r r XZ r r (by simp) r hr6 r<|uN (w:=.bool (!r6)) r r r r trivial<|nI<|xS<|cD (c:=(!r6)) r ?_ ?_
  ·exact rG<|mV r r<|mV r r<|mV r r<|bD fun x_x7 hx_x7=>iS (en:=Ed) r r r hx_x7 r<|lF (v:=.int .i64 x_x7) r r r r<|bS ([x_x7] : List Int) Ed r r r (by simp) r r r<|cK fun hq=>aP (out3) (([x_x7] : List Int)) Ed r r r r r r r (by simp) (Ml _ _ r) r r (by simp) (LX _ _ r) (fun _=>r) r hq<|aO (l:=out3 ++ ([x_x7] : List Int)) (en:=Ed) r r r r<|nI<|bM<|xS<|rG<|mV r r<|bN (v:=.int .i64 (IntKind.i64.wrap (i4 + 1))) r r r r r<|aS r r<|nI<|xL (s:=(out3 ++ ([x_x7] : List Int),IntKind.i64.wrap (i4 + 1))) _ ((hE ⟨rfl,r,r,r,trivial⟩ ⟨rfl,trivial⟩))
  ·exact sK<|bM<|xS<|rG<|mV r r<|bN (v:=.int .i64 (IntKind.i64.wrap (i4 + 1))) r r r r r<|aS r r<|nI<|xL (s:=(out3,IntKind.i64.wrap (i4 + 1))) _ ((hE ⟨rfl,r,r,r,trivial⟩ ⟨rfl,trivial⟩))
 ·refine eT<|xE<|lE<|bH<|xS<|sQ<|rG<|mV r r<|aO (l:=out3) (en:=Ed) r r r r<|nI<|xS<|rT<|My (b:=out3) r ?_ r r ?_ r ?_ (congrArg D.sl (LX _ _ r)) r
  all_goals first|(simp;done)|(simp;omega)|rfl|(simp [Md,LZ];done)

def AbO : Mj:=(.seq (.reg [P 4 (.asg (.c (.bool false)) none)] false) (.seq (.reg [M 5 0,M 6 1,P 7 (.call (.c (.clo 65 [])) [(T 5),(T 6)]),P 8 (.len false (T 7)),P 9 (.bin .eql (T 8) (C 0)),P 4 (.asg (T 9) none)] false) .ret))
theorem AdY : (Tryd.f25.body.bind (Mm Tryd.prog Tryd.f25.ntmps)) = some AbO:=by kernel_rfl
theorem AdZ : Tryd.f25.results.toList.mapM (MB Tryd.prog) = some [(.t 4)]:=by kernel_rfl
def SG (a : (List Int) × (List Int)) : List D:=[.sl (a.1.map Ed),.sl (a.2.map Ed)]
def SF (ds : List D) : (List Int) × (List Int):=((uL uI) (ds.getD 0 .top),(uL uI) (ds.getD 1 .top))
theorem Wl (a : (List Int) × (List Int)) : SF (SG a) = a:=by simp [SF,SG,Oh (u:=uI) (en:=Ed) (fun _=>rfl)]
def WJ (b : Bool) : D:=.bool b
def WI (_b : Bool) : List D:=[]
noncomputable def TT : Dw.Spec:=Mk [] .ground SG SF (fun a=>Qb a.1 a.2) WJ WI
set_option maxHeartbeats 4000000 in
theorem Zi : Mi Tryd.prog 25 TT:=by
 refine MA (Mv (l:=[(65,UQ)]) (by simp [Zv])) Tryd.func25 (by decide) AdY AdZ (np:=2) (by decide) Wl (fun _=>r) (fun _=>r) (by decide)<|?_
 rintro ⟨a1,b2⟩
 show TrE (specs [(65,UQ)]) AbO (MD [] .ground [(.t 4)] WJ WI) ⟨[(0,.sl (a1.map Ed)),(1,.sl (b2.map Ed))],[],262144⟩ (Qb a1 b2)
 refine Mu<|?_
 unfold AbO Qb
 refine sQ<|rG<|aS r r<|nI<|xS<|sQ<|rG<|mV r r<|mV r r<|bD fun r3 hr3=>cR (l:=r3) (en:=Ed) (a1,b2) r r r WD r r (by simp) r hr3 r<|lW r r<|bN (v:=.bool ((r3.length : Int) == 0)) r r r r r<|aS r r<|nI<|xS<|rT<|Mq (b:=((r3.length : Int) == 0)) r ?_ r r ?_ r
 all_goals first|(simp;done)|(simp;omega)|rfl|(simp [Md,LZ];done)

def dc7 : Mj:=(.seq (.reg [P 2 (.asg (.c (.bool false)) none)] false) (.seq (.seq (.reg [P 10 (.call (.c (.clo 15 [])) []),P 11 (.un .not (T 10))] false) (.cond (T 11) (.seq (.reg [P 2 (.asg (.c (.bool false)) none)] false) .ret) .skip)) (.seq (.reg [M 13 0,P 14 (.call (.c (.clo 16 [])) [(T 13)]),M 12 14,P 15 (.ext (T 12) 0),P 16 (.ext (T 12) 1),P 17 (.ext (T 12) 2),P 3 (.new (.agg [(.int .i64 0),.nils,.nils]) 3 27),P 4 (.new (.agg [.nils]) 1 30),⟨none,(.st 3 (T 3) (T 15)),none,[]⟩,⟨none,(.st 1 (T 4) (T 16)),none,[]⟩,P 5 (.asg (T 17) none)] false) (.seq (.reg [P 18 (.ld 3 true (T 3)),P 19 (.call (.c (.clo 17 [])) [(T 18)]),P 6 (.new (.agg [.nils]) 1 30),⟨none,(.st 1 (T 6) (T 19)),none,[]⟩] false) (.seq (.seq (.reg [P 20 (.fldA 0 (T 6)),⟨(some 21),(.ld 1 false (T 20)),none,[0]⟩,⟨(some 22),(.len false (T 21)),none,[1]⟩,P 23 (.fldA 2 (T 3)),⟨(some 24),(.ld 1 false (T 23)),none,[3]⟩,⟨(some 25),(.len false (T 24)),none,[4]⟩,⟨(some 26),(.bin .neq (T 22) (T 25)),none,[2,5]⟩,⟨(some 27),(.mv (T 26)),none,[6]⟩,⟨(some 28),(.ld 3 true (T 3)),(some ⟨27,false⟩),[7]⟩,⟨(some 29),(.ld 1 true (T 6)),(some ⟨27,false⟩),[7]⟩,⟨(some 30),(.call (.c (.clo 32 [])) [(T 28),(T 29)]),(some ⟨27,false⟩),[8,9,7,7]⟩,⟨(some 31),(.ld 1 true (T 6)),(some ⟨27,false⟩),[7]⟩,⟨(some 32),(.call (.c (.clo 31 [])) [(T 30),(T 31)]),(some ⟨27,false⟩),[10,11,10,7]⟩,⟨(some 33),(.un .not (T 32)),(some ⟨27,false⟩),[12,7]⟩,⟨(some 34),(.pick (T 27) (.c (.bool true)) (T 33)),none,[7,13]⟩] true) (.cond (T 34) (.seq (.reg [P 2 (.asg (.c (.bool false)) none)] false) .ret) .skip)) (.seq (.seq (.reg [P 7 (.asg (C 0) none)] false) (.block 0 (.loop (.seq (.seq (.reg [M 35 7,P 36 (.fldA 2 (T 3)),P 37 (.ld 1 false (T 36)),P 38 (.len false (T 37)),P 39 (.bin .lss (T 35) (T 38))] false) (.cond (T 39) .skip (.exit 0))) (.seq (.block 1 (.seq (.reg [P 42 (.fldA 0 (T 6)),⟨(some 43),(.ld 1 false (T 42)),none,[0]⟩,M 44 7,⟨(some 45),(.ixA 1 (T 43) (T 44)),none,[1,2]⟩,⟨(some 46),(.ld 1 false (T 45)),none,[3]⟩,P 47 (.fldA 0 (T 4)),⟨(some 48),(.ld 1 false (T 47)),none,[5]⟩,M 49 7,⟨(some 50),(.ixA 1 (T 48) (T 49)),none,[6,7]⟩,⟨(some 51),(.ld 1 false (T 50)),none,[8]⟩,⟨(some 52),(.call (.c (.clo 25 [])) [(T 46),(T 51)]),none,[4,9]⟩,⟨(some 53),(.un .not (T 52)),none,[10]⟩] true) (.cond (T 53) (.seq (.reg [P 2 (.asg (.c (.bool false)) none)] false) .ret) .skip))) (.reg [M 40 7,P 41 (.bin .add (T 40) (C 1)),P 7 (.asg (T 41) none)] false)))))) (.seq (.reg [P 54 (.fldA 2 (T 3)),P 55 (.ld 1 false (T 54)),P 56 (.len false (T 55)),P 57 (.mkS 1 36 24 .nils (T 56) (T 56)),⟨(some 58),(.bld [.nils] [⟨0,⟨1,(T 57)⟩⟩]),none,[]⟩,P 8 (.new (.agg [.nils]) 1 30),⟨none,(.st 1 (T 8) (T 58)),none,[]⟩] false) (.seq (.seq (.reg [P 9 (.asg (C 0) none)] false) (.block 2 (.loop (.seq (.seq (.reg [M 59 9,P 60 (.fldA 2 (T 3)),P 61 (.ld 1 false (T 60)),P 62 (.len false (T 61)),P 63 (.fldA 1 (T 3)),P 64 (.ld 1 false (T 63)),P 65 (.len false (T 64)),P 66 (.bin .mul (T 62) (T 65)),P 67 (.bin .leq (T 59) (T 66))] false) (.cond (T 67) .skip (.exit 2))) (.seq (.block 3 (.seq (.reg [P 70 (.ld 3 true (T 3)),P 71 (.ld 1 true (T 8)),P 72 (.call (.c (.clo 32 [])) [(T 70),(T 71)]),⟨none,(.st 1 (T 8) (T 72)),none,[]⟩] false) (.seq (.reg [P 73 (.fldA 0 (T 8)),P 74 (.ld 1 false (T 73)),P 75 (.len false (T 74)),P 76 (.fldA 2 (T 3)),P 77 (.ld 1 false (T 76)),P 78 (.len false (T 77)),P 79 (.bin .neq (T 75) (T 78))] false) (.cond (T 79) (.seq (.reg [P 2 (.asg (.c (.bool false)) none)] false) .ret) .skip)))) (.reg [M 68 9,P 69 (.bin .add (T 68) (C 1)),P 9 (.asg (T 69) none)] false)))))) (.seq (.reg [P 80 (.ld 1 true (T 8)),P 81 (.ld 1 true (T 6)),P 82 (.call (.c (.clo 31 [])) [(T 80),(T 81)]),P 2 (.asg (T 82) none)] false) .ret)))))))))
theorem Afw : (Tryd.f7.body.bind (Mm Tryd.prog Tryd.f7.ntmps)) = some dc7:=by kernel_rfl
theorem Afx : Tryd.f7.results.toList.mapM (MB Tryd.prog) = some [(.t 2)]:=by kernel_rfl
def Nr (a : (List Int)) : List D:=[.sl (a.map eU8)]
def Nq (ds : List D) : (List Int):=(uL uI) (ds.getD 0 .top)
theorem Oz (a : (List Int)) : Nq (Nr a) = a:=by simp [Nq,Nr,Oh (u:=uI) (en:=eU8) (fun _=>rfl)]
def OJ (b : Bool) : D:=.bool b
def OI (_b : Bool) : List D:=[]
noncomputable def RV : Dw.Spec:=Mk [] .ground Nr Nq (fun a=>MJ a) OJ OI
set_option maxHeartbeats 4000000 in
theorem RD : Mi Tryd.prog 7 RV:=by
 refine MA (Mv (l:=[(15,UL),(16,UM),(17,OV),(32,To),(31,Rr),(25,TT)]) (by simp [Zs,Zt,Vi,YW,XJ,Zi])) Tryd.func7 (by decide) Afw Afx (np:=1) (by decide) Oz (fun _=>r) (fun _=>r) (by decide)<|?_
 intro codes1
 show TrE (specs [(15,UL),(16,UM),(17,OV),(32,To),(31,Rr),(25,TT)]) dc7 (MD [] .ground [(.t 2)] OJ OI) ⟨[(0,.sl (codes1.map eU8))],[],262144⟩ (MJ codes1)
 refine Mu<|?_
 unfold dc7 MJ
 refine sQ<|rG<|aS r r<|nI<|xS<|sQ<|sQ<|rG<|bD fun r2 hr2=>cG () r r r WB r r (by simp) r hr2 r<|uN (w:=.bool (!r2)) r r r r trivial<|nI<|xS<|cD (c:=(!r2)) r ?_ ?_
 ·refine sQ<|rG<|aS r r<|nI<|xS<|rT<|xR<|Mq (b:=false) r ?_ r r ?_ r
  all_goals first|(simp;done)|(simp;omega)|rfl|(simp [Md,LZ];done)
 ·refine sK<|xS<|sQ<|rG<|mV r r<|bD fun r3 hr3=>Lv (rs:=[MN r3.1,OL r3.2.1,Mt r3.2.2]) (z:=Mt r3.2.2) codes1 r r r WC r r (by simp) r hr3 r r<|mV r r<|eX (v:=.agg [.int .i64 r3.1.Params,.sl (r3.1.Slots.map LY),.sl (r3.1.Code.map LU)]) r r r<|eX (v:=.agg [.sl (r3.2.1.Out.map (eL Ed))]) r r r<|eX (v:=.optr 14 _ 0 0) r r r<|nW r<|nW r<|sV (z':=.agg [.int .i64 r3.1.Params,.sl (r3.1.Slots.map LY),.sl (r3.1.Code.map LU)]) r r r r r r r r r<|sV (z':=.agg [.sl (r3.2.1.Out.map (eL Ed))]) r r r r r r r r r<|aS r r<|nI<|xS<|sQ<|rG<|lO (v:=.agg [.int .i64 r3.1.Params,.sl (r3.1.Slots.map LY),.sl (r3.1.Code.map LU)]) (z:=.agg [.int .i64 r3.1.Params,.sl (r3.1.Slots.map LY),.sl (r3.1.Code.map LU)]) r r r r r r<|bD fun r4 hr4=>cV r3.1 r r r RW r r (by simp) r hr4<|nW r<|sV (z':=.agg [.sl (r4.Out.map (eL Ed))]) r r r r r r r r r<|nI<|xS<|sC (E:=fun (s : Unit) (g : Nat × Nat × Nat)=>[(3,.optr 3 g.1 0 0),(4,.optr 4 g.2.1 0 0),(6,.optr 6 g.2.2 0 0)]) (O:=fun s g=>[(3,some (g.1,⟨false,true,3,27,[.agg [.int .i64 r3.1.Params,.sl (r3.1.Slots.map LY),.sl (r3.1.Code.map LU)]]⟩)),(4,some (g.2.1,⟨false,true,1,30,[.agg [.sl (r3.2.1.Out.map (eL Ed))]]⟩)),(6,some (g.2.2,⟨false,true,1,30,[.agg [.sl (r4.Out.map (eL Ed))]]⟩))]) (j:=fun s=>Na r3 r4) ?_ ?_
  ·refine sQ<|rG<|fA r r<|lO (v:=.sl (r4.Out.map (eL Ed))) (z:=.agg [.sl (r4.Out.map (eL Ed))]) r r r r r r<|lS r r<|fA r r<|lO (v:=.sl (r3.1.Code.map LU)) (z:=.agg [.int .i64 r3.1.Params,.sl (r3.1.Slots.map LY),.sl (r3.1.Code.map LU)]) r r r r r r<|lS r r<|bN (v:=.bool ((r4.Out.length : Int) != (r3.1.Code.length : Int))) r r r r r<|mV r r<|sP 27 (b:=((r4.Out.length : Int) != (r3.1.Code.length : Int))) r ?_ ?_
   ·refine oF r<|oF r<|oF r<|oF r<|oF r<|oF r<|pT r r r r<|Mw (by kernel_rfl)<|xS<|Qg r<|sQ<|rG<|aS r r<|nI<|xS<|rT<|zR<|Mq (b:=false) r ?_ r r ?_ r
    all_goals first|(simp;done)|(simp;omega)|rfl|(simp [Md,LZ];done)
   ·refine lO (v:=.agg [.int .i64 r3.1.Params,.sl (r3.1.Slots.map LY),.sl (r3.1.Code.map LU)]) (z:=.agg [.int .i64 r3.1.Params,.sl (r3.1.Slots.map LY),.sl (r3.1.Code.map LU)]) r r r r r r<|lO (v:=.agg [.sl (r4.Out.map (eL Ed))]) (z:=.agg [.sl (r4.Out.map (eL Ed))]) r r r r r r<|bD fun r5 hr5=>cV (r3.1,r4) r r r SB r r (by simp) r hr5<|lO (v:=.agg [.sl (r4.Out.map (eL Ed))]) (z:=.agg [.sl (r4.Out.map (eL Ed))]) r r r r r r<|bD fun r6 hr6=>cG (r5,r4) r r r Ss r r (by simp) r hr6 r<|uN (w:=.bool (!r6)) r r r r trivial<|pF r r r r<|Mw (by kernel_rfl)<|xS<|cD (c:=(!r6)) r ?_ ?_
    ·refine sQ<|rG<|aS r r<|nI<|xS<|rT<|zR<|Mq (b:=false) r ?_ r r ?_ r
     all_goals first|(simp;done)|(simp;omega)|rfl|(simp [Md,LZ];done)
    ·exact sK<|xC (s:=()) (_,_,_) ((hE ⟨rfl,r,r,trivial⟩ ⟨rfl,r,r,trivial⟩))
  ·rintro ⟨⟩ ⟨v3x1,v4x1,v6x1⟩ nn
   try dsimp only
   unfold Na
   refine sQ<|sQ<|rG<|aS r r<|nI<|xS<|bK<|lP (E:=fun (s : Int) (g : Nat × Nat × Nat)=>[(3,.optr 3 g.1 0 0),(4,.optr 4 g.2.1 0 0),(6,.optr 6 g.2.2 0 0),(7,.int .i64 s)]) (O:=fun s g=>[(3,some (g.1,⟨false,true,3,27,[.agg [.int .i64 r3.1.Params,.sl (r3.1.Slots.map LY),.sl (r3.1.Code.map LU)]]⟩)),(4,some (g.2.1,⟨false,true,1,30,[.agg [.sl (r3.2.1.Out.map (eL Ed))]]⟩)),(6,some (g.2.2,⟨false,true,1,30,[.agg [.sl (r4.Out.map (eL Ed))]]⟩))]) (body:=fun s=>MY r3 r4 s) (s:=0) (_,_,_) ((hE ⟨rfl,r,r,r,trivial⟩ ⟨rfl,r,r,trivial⟩))<|?_
   rintro k7 ⟨v3x2,v4x2,v6x2⟩ nn
   try dsimp only
   unfold MY
   refine sQ<|sQ<|rG<|mV r r<|fA r r<|lO (v:=.sl (r3.1.Code.map LU)) (z:=.agg [.int .i64 r3.1.Params,.sl (r3.1.Slots.map LY),.sl (r3.1.Code.map LU)]) r r r r r r<|lS r r<|bN (v:=.bool (decide (k7 < (r3.1.Code.length : Int)))) r r r r r<|nI<|xS<|cD (c:=(decide (k7 < (r3.1.Code.length : Int)))) r ?_ ?_
   ·refine sK<|xS<|sQ<|bK<|sQ<|rG<|fA r r<|lO (v:=.sl (r4.Out.map (eL Ed))) (z:=.agg [.sl (r4.Out.map (eL Ed))]) r r r r r r<|mV r r<|bD fun x_x8 hx_x8=>iS (en:=(eL Ed)) r r r hx_x8 r<|lF (v:=.sl (x_x8.map Ed)) r r r r<|fA r r<|lO (v:=.sl (r3.2.1.Out.map (eL Ed))) (z:=.agg [.sl (r3.2.1.Out.map (eL Ed))]) r r r r r r<|mV r r<|bD fun x_x9 hx_x9=>iS (en:=(eL Ed)) r r r hx_x9 r<|lF (v:=.sl (x_x9.map Ed)) r r r r<|bD fun r10 hr10=>cG (x_x8,x_x9) r r r Wl r r (by simp) r hr10 r<|uN (w:=.bool (!r10)) r r r r trivial<|Mw (by kernel_rfl)<|xS<|cD (c:=(!r10)) r ?_ ?_
    ·refine sQ<|rG<|aS r r<|nI<|xS<|rT<|bR<|xR<|lR<|bR<|xR<|Mq (b:=false) r ?_ r r ?_ r
     all_goals first|(simp;done)|(simp;omega)|rfl|(simp [Md,LZ];done)
    ·exact sK<|bM<|xS<|rG<|mV r r<|bN (v:=.int .i64 (IntKind.i64.wrap (k7 + 1))) r r r r r<|aS r r<|nI<|xL (s:=IntKind.i64.wrap (k7 + 1)) (_,_,_) ((hE ⟨rfl,r,r,r,trivial⟩ ⟨rfl,r,r,trivial⟩))
   ·refine eT<|xE<|lE<|bH<|xS<|sQ<|rG<|fA r r<|lO (v:=.sl (r3.1.Code.map LU)) (z:=.agg [.int .i64 r3.1.Params,.sl (r3.1.Slots.map LY),.sl (r3.1.Code.map LU)]) r r r r r r<|lS r r<|cK fun hq=>Sn (α:=Int) r r r hq r<|bL (cs:=[.osl 57 _ 0 ((List.replicate (r3.1.Code.length : Int).toNat ([] : (List Int))).length)]) (ps:=[(0,1,.osl 57 _ 0 ((List.replicate (r3.1.Code.length : Int).toNat ([] : (List Int))).length))]) r r r r<|nW r<|sV (z':=.agg [.osl 57 _ 0 ((List.replicate (r3.1.Code.length : Int).toNat ([] : (List Int))).length)]) r r r r r r r r r<|nI<|PK (E:=[(3,.optr 3 _ 0 0),(6,.optr 6 _ 0 0),(8,.optr 8 _ 0 0)]) (O:=[(3,some (_,⟨false,true,3,27,[.agg [.int .i64 r3.1.Params,.sl (r3.1.Slots.map LY),.sl (r3.1.Code.map LU)]]⟩)),(6,some (_,⟨false,true,1,30,[.agg [.sl (r4.Out.map (eL Ed))]]⟩)),(8,some (_,⟨false,true,1,30,[.agg [.osl 57 _ 0 ((List.replicate (r3.1.Code.length : Int).toNat ([] : (List Int))).length)]]⟩)),(57,some (_,⟨false,false,1,36,(List.replicate (r3.1.Code.length : Int).toNat ([] : (List Int))).map (eL Ed)⟩))]) ((Wf (g:=57) r (Xp (l:=List.replicate (r3.1.Code.length : Int).toNat ([] : (List Int))) Ed (fun _ h=>List.eq_of_mem_replicate h)) (hE ⟨rfl,r,r,trivial⟩ ⟨rfl,r,r,r,trivial⟩))) fun nn=>sQ<|sQ<|rG<|aS r r<|nI<|xS<|bK<|lP (E:=fun (s : (List (List Int)) × Int) (g : Nat × Nat × Nat)=>[(3,.optr 3 g.1 0 0),(6,.optr 6 g.2.1 0 0),(8,.optr 8 g.2.2 0 0),(9,.int .i64 s.2)]) (O:=fun s g=>[(3,some (g.1,⟨false,true,3,27,[.agg [.int .i64 r3.1.Params,.sl (r3.1.Slots.map LY),.sl (r3.1.Code.map LU)]]⟩)),(6,some (g.2.1,⟨false,true,1,30,[.agg [.sl (r4.Out.map (eL Ed))]]⟩)),(8,some (g.2.2,⟨false,true,1,30,[.agg [.sl (s.1.map (eL Ed))]]⟩))]) (body:=fun s=>MZ r3 r4 s.1 s.2) (s:=(List.replicate (r3.1.Code.length : Int).toNat ([] : (List Int)),0)) (_,_,_) ((Sz [(57,some (_,⟨true,false,1,36,(List.replicate (r3.1.Code.length : Int).toNat ([] : (List Int))).map (eL Ed)⟩))] ⟨⟨_,_,r,r,r⟩,trivial⟩ ⟨(Mp r),(Mp r),(Mp r),(Mp r),trivial⟩ ⟨(.inl r),(.inl r),(.inr ⟨_,_,_,_,r,r,r,r,Vw r ⟨(Re (l:=List.replicate (r3.1.Code.length : Int).toNat ([] : (List Int))) (en:=(eL Ed)) r r r (by simp)),trivial⟩⟩),trivial⟩))<|?_
    rintro ⟨l11,n12⟩ ⟨v3x3,v6x3,v8x3⟩ nn
    try dsimp only
    unfold MZ
    refine sQ<|sQ<|rG<|mV r r<|fA r r<|lO (v:=.sl (r3.1.Code.map LU)) (z:=.agg [.int .i64 r3.1.Params,.sl (r3.1.Slots.map LY),.sl (r3.1.Code.map LU)]) r r r r r r<|lS r r<|fA r r<|lO (v:=.sl (r3.1.Slots.map LY)) (z:=.agg [.int .i64 r3.1.Params,.sl (r3.1.Slots.map LY),.sl (r3.1.Code.map LU)]) r r r r r r<|lS r r<|bN (v:=.int .i64 (IntKind.i64.wrap ((r3.1.Code.length : Int) * (r3.1.Slots.length : Int)))) r r r r r<|bN (v:=.bool (decide (n12 ≤ (IntKind.i64.wrap ((r3.1.Code.length : Int) * (r3.1.Slots.length : Int)))))) r r r r r<|nI<|xS<|cD (c:=(decide (n12 ≤ (IntKind.i64.wrap ((r3.1.Code.length : Int) * (r3.1.Slots.length : Int)))))) r ?_ ?_
    ·refine sK<|xS<|sQ<|bK<|sQ<|rG<|lO (v:=.agg [.int .i64 r3.1.Params,.sl (r3.1.Slots.map LY),.sl (r3.1.Code.map LU)]) (z:=.agg [.int .i64 r3.1.Params,.sl (r3.1.Slots.map LY),.sl (r3.1.Code.map LU)]) r r r r r r<|lO (v:=.agg [.sl (l11.map (eL Ed))]) (z:=.agg [.sl (l11.map (eL Ed))]) r r r r r r<|bD fun r13 hr13=>cV (r3.1,(Mg.mk l11)) r r r SB r r (by simp) r hr13<|sV (z':=.agg [.sl (r13.Out.map (eL Ed))]) r r r r r r r r r<|nI<|xS<|sQ<|rG<|fA r r<|lO (v:=.sl (r13.Out.map (eL Ed))) (z:=.agg [.sl (r13.Out.map (eL Ed))]) r r r r r r<|lS r r<|fA r r<|lO (v:=.sl (r3.1.Code.map LU)) (z:=.agg [.int .i64 r3.1.Params,.sl (r3.1.Slots.map LY),.sl (r3.1.Code.map LU)]) r r r r r r<|lS r r<|bN (v:=.bool ((r13.Out.length : Int) != (r3.1.Code.length : Int))) r r r r r<|nI<|xS<|cD (c:=((r13.Out.length : Int) != (r3.1.Code.length : Int))) r ?_ ?_
     ·refine sQ<|rG<|aS r r<|nI<|xS<|rT<|bR<|xR<|lR<|bR<|xR<|Mq (b:=false) r ?_ r r ?_ r
      all_goals first|(simp;done)|(simp;omega)|rfl|(simp [Md,LZ];done)
     ·exact sK<|bM<|xS<|rG<|mV r r<|bN (v:=.int .i64 (IntKind.i64.wrap (n12 + 1))) r r r r r<|aS r r<|nI<|xL (s:=(r13.Out,IntKind.i64.wrap (n12 + 1))) (_,_,_) ((hE ⟨rfl,r,r,r,trivial⟩ ⟨rfl,r,r,trivial⟩))
    ·refine eT<|xE<|lE<|bH<|xS<|sQ<|rG<|lO (v:=.agg [.sl (l11.map (eL Ed))]) (z:=.agg [.sl (l11.map (eL Ed))]) r r r r r r<|lO (v:=.agg [.sl (r4.Out.map (eL Ed))]) (z:=.agg [.sl (r4.Out.map (eL Ed))]) r r r r r r<|bD fun r14 hr14=>cG ((Mg.mk l11),r4) r r r Ss r r (by simp) r hr14 r<|aS r r<|nI<|xS<|rT<|Mq (b:=r14) r ?_ r r ?_ r
     all_goals first|(simp;done)|(simp;omega)|rfl|(simp [Md,LZ];done)

end Go.Proofs.YtcelninhkmhjkaaDoor
