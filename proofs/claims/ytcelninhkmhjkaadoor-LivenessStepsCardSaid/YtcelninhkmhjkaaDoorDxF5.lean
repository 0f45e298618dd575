/-
  Programs on typed data, and the proofs that the code does what they say; written by a program (dx.py).
-/
import Derived.Test.YtcelninhkmhjkaaDoorProg
import Derived.Test.YtcelninhkmhjkaaDoorDc
import Derived.KernelRfl
import Derived.Test.YtcelninhkmhjkaaDoorDxP
import Derived.Test.YtcelninhkmhjkaaDoorDxF1
import Derived.Test.YtcelninhkmhjkaaDoorDxF2
import Derived.Test.YtcelninhkmhjkaaDoorDxF3
import Derived.Test.YtcelninhkmhjkaaDoorDxF4
namespace Go.Proofs.YtcelninhkmhjkaaDoor
open Go Go.Dw Go.Proofs
set_option maxRecDepth 100000
open Go.Dw renaming YB → mV,Xg → bN,RO → lO,We → bD,Xj → cK,Xl → nI,Xo → xS,YE → rG,YG → sQ,Sn → aO,Xf → aS,Xm → oF,Xh → bL,Wf → bS,RB → cV,Re → cG,RA → cR,Xe → aP,RP → sV,Uq → sE,TF → iS,So → iO,TH → lS,Sp → lW,Wg → fA,ZA → fF,ZL → eX,Um → lF,UE → sP,QE → pT,Qk → pF,ZB → uN,Xk → nW,Xi → bX,Sm → aN,XJ → aL,Xp → cD,Wj → bK,YF → rT,Xs → sK,Xq → eT,Xn → xC,Wi → xL,Us → xR,UC → hE,QF → lE,RC → bH,Ql → bM,RD → xE,YA → cP,Xr → lP,TI → sC,Un → bC,rf → r
def AbT : Mj:=(.seq (.reg [P 3 (.box (T 1) 3 27),P 4 (.new (.agg [.nils]) 1 30)] false) (.seq (.reg [P 10 (.ld 3 true (T 3)),P 11 (.call (.c (.clo 24 [])) [(T 10)]),P 5 (.new (.agg [.nils]) 1 30),⟨none,(.st 1 (T 5) (T 11)),none,[]⟩] false) (.seq (.reg [P 12 (.fldA 0 (T 5)),P 13 (.ld 1 false (T 12)),P 14 (.app 1 36 24 (.c .nils) (T 13)),⟨(some 15),(.bld [.nils] [⟨0,⟨1,(T 14)⟩⟩]),none,[]⟩,P 6 (.new (.agg [.nils]) 1 30),⟨none,(.st 1 (T 6) (T 15)),none,[]⟩] false) (.seq (.seq (.reg [M 16 0,P 17 (.call (.c (.clo 54 [])) [(T 16),(C 3)]),P 7 (.asg (T 17) none)] false) (.block 0 (.loop (.seq (.seq (.reg [M 18 7,P 19 (.bin .gtr (T 18) (C 0)),M 20 19,⟨(some 21),(.fldA 1 (T 3)),(some ⟨20,true⟩),[]⟩,⟨(some 22),(.ld 1 false (T 21)),(some ⟨20,true⟩),[]⟩,⟨(some 23),(.len false (T 22)),(some ⟨20,true⟩),[]⟩,⟨(some 24),(.bin .gtr (T 23) (C 0)),(some ⟨20,true⟩),[]⟩,P 25 (.pick (T 20) (T 24) (.c (.bool false)))] false) (.cond (T 25) .skip (.exit 0))) (.seq (.block 1 (.seq (.reg [M 28 0,P 29 (.fldA 1 (T 3)),P 30 (.ld 1 false (T 29)),P 31 (.len false (T 30)),P 32 (.call (.c (.clo 54 [])) [(T 28),(T 31)]),P 8 (.asg (T 32) none)] false) (.seq (.reg [P 9 (.asg (C 0) none)] false) (.block 2 (.loop (.seq (.seq (.reg [M 33 9,P 34 (.fldA 0 (T 6)),P 35 (.ld 1 false (T 34)),P 36 (.len false (T 35)),P 37 (.bin .lss (T 33) (T 36))] false) (.cond (T 37) .skip (.exit 2))) (.seq (.block 3 (.reg [P 40 (.fldA 0 (T 6)),⟨(some 41),(.ld 1 false (T 40)),none,[0]⟩,M 42 9,P 43 (.fldA 0 (T 6)),⟨(some 44),(.ld 1 false (T 43)),none,[3]⟩,M 45 9,⟨(some 46),(.ixA 1 (T 44) (T 45)),none,[4,5]⟩,⟨(some 47),(.ld 1 false (T 46)),none,[6]⟩,M 48 8,⟨(some 49),(.call (.c (.clo 44 [])) [(T 47),(T 48)]),none,[7,8]⟩,⟨(some 50),(.ixA 1 (T 41) (T 42)),none,[1,2,0,1,2,3,4,5,6,7,8,9]⟩,⟨none,(.st 1 (T 50) (T 49)),none,[10,9,9,0,1,2,3,4,5,6,7,8,9]⟩] true)) (.reg [M 38 9,P 39 (.bin .add (T 38) (C 1)),P 9 (.asg (T 39) none)] false)))))))) (.reg [M 26 7,P 27 (.bin .sub (T 26) (C 1)),P 7 (.asg (T 27) none)] false)))))) (.seq (.reg [P 51 (.ld 1 true (T 6)),⟨none,(.st 1 (T 4) (T 51)),none,[]⟩] false) .ret)))))
theorem Aem : (Tryd.f26.body.bind (Mn Tryd.prog Tryd.f26.ntmps)) = some AbT:=by kernel_rfl
theorem Aen : Tryd.f26.results.toList.mapM (MC Tryd.prog) = some [(.c 4 1 true)]:=by kernel_rfl
def Qt (a : LR × LW) : List D:=[Mu a.1,MI a.2]
def Qs (ds : List D) : LR × LW:=(Nm (ds.getD 0 .top),OG (ds.getD 1 .top))
theorem TM (a : LR × LW) : Qs (Qt a) = a:=by simp [Qs,Qt]
def Po (b : Mg × LR) : D:=NP b.1
def Uv (b : Mg × LR) : List D:=[Mu b.2]
noncomputable def Ri : Dw.Spec:=Mk [(0,(2,100))] .val Qt Qs (fun a=>NW a.1 a.2) Po Uv
set_option maxHeartbeats 4000000 in
theorem Yd : Mi Tryd.prog 26 Ri:=by
 refine MB (Mq (l:=[(24,UX),(54,Mo),(44,Si)]) (by simp [ZJ,MS,Yl])) Tryd.func26 (by decide) Aem Aen (np:=2) (by decide) TM (fun _=>r) (fun _=>r) (by decide)<|?_
 rintro ⟨c1,f2⟩
 show TrE (specs [(24,UX),(54,Mo),(44,Si)]) AbT (ME [(0,(2,100))] .val [(.c 4 1 true)] Po Uv) ⟨[(0,.optr 8192 0 0 0),(1,.agg [.int .i64 f2.Params,.sl (f2.Slots.map LX),.sl (f2.Code.map LU)])],[(8192,some (0,⟨false,true,2,100,[.agg [.sl (c1.list.map eU8),.int .i64 c1.at_]]⟩))],262144⟩ (NW c1 f2)
 refine Mr<|?_
 unfold AbT NW
 refine sQ<|rG<|bX r r r r r<|nW r<|nI<|xS<|sQ<|rG<|lO (v:=.agg [.int .i64 f2.Params,.sl (f2.Slots.map LX),.sl (f2.Code.map LU)]) (z:=.agg [.int .i64 f2.Params,.sl (f2.Slots.map LX),.sl (f2.Code.map LU)]) r r r r r r<|bD fun r3 hr3=>cV f2 r r r Xd r r (by simp) r hr3<|nW r<|sV (z':=.agg [.sl (r3.Out.map (eL Ed))]) r r r r r r r r r<|nI<|xS<|sQ<|rG<|fA r r<|lO (v:=.sl (r3.Out.map (eL Ed))) (z:=.agg [.sl (r3.Out.map (eL Ed))]) r r r r r r<|cK fun hq=>aP (([] : List (List Int))) (r3.Out) (eL Ed) r r r r r r r (by simp) r r r (by simp) r (fun _=>r) r hq<|bL (cs:=[.osl 14 _ 0 ((([] : List (List Int)) ++ r3.Out).length)]) (ps:=[(0,1,.osl 14 _ 0 ((([] : List (List Int)) ++ r3.Out).length))]) r r r r<|nW r<|sV (z':=.agg [.osl 14 _ 0 ((([] : List (List Int)) ++ r3.Out).length)]) r r r r r r r r r<|nI<|xS<|sQ<|sQ<|rG<|mV r r<|bD fun r4 hr4=>cV (c1,3) r r r Ma r r (by simp) r hr4<|aS r r<|nI<|xS<|bK<|lP (E:=fun (s : (List Int) × Int × (List (List Int)) × Int) (g : Nat × Nat × Nat × Nat)=>[(0,.optr 8192 0 0 0),(3,.optr 3 g.1 0 0),(4,.optr 4 g.2.1 0 0),(6,.optr 6 g.2.2.1 0 0),(7,.int .i64 s.2.2.2)]) (O:=fun s g=>[(3,some (g.1,⟨false,true,3,27,[.agg [.int .i64 f2.Params,.sl (f2.Slots.map LX),.sl (f2.Code.map LU)]]⟩)),(4,some (g.2.1,⟨false,true,1,30,[.agg [.nils]]⟩)),(6,some (g.2.2.1,⟨false,true,1,30,[.agg [.osl 14 g.2.2.2 0 s.2.2.1.length]]⟩)),(14,some (g.2.2.2,⟨false,false,1,36,s.2.2.1.map (eL Ed)⟩)),(8192,some (0,⟨false,true,2,100,[.agg [.sl (s.1.map eU8),.int .i64 s.2.1]]⟩))]) (body:=fun s=>OU f2 s.1 s.2.1 s.2.2.1 s.2.2.2) (s:=(r4.2.list,r4.2.at_,([] : List (List Int)) ++ r3.Out,r4.1)) (_,_,_,_) ((hE ⟨rfl,r,r,r,r,trivial⟩ ⟨rfl,r,r,r,r,trivial⟩))<|?_
 rintro ⟨c5,c6,x7,n8⟩ ⟨v3x1,v4x1,v6x1,v14x1⟩ nn
 try dsimp only
 unfold OU
 refine sC (E:=fun (s : Unit) (g : Nat × Nat × Nat × Nat)=>[(0,.optr 8192 0 0 0),(3,.optr 3 g.1 0 0),(4,.optr 4 g.2.1 0 0),(6,.optr 6 g.2.2.1 0 0),(7,.int .i64 n8),(21,.optr 3 g.1 0 1),(22,.sl (f2.Slots.map LX)),(23,.int .i64 (f2.Slots.length : Int)),(24,.bool (decide ((f2.Slots.length : Int) > 0)))]) (O:=fun s g=>[(3,some (g.1,⟨false,true,3,27,[.agg [.int .i64 f2.Params,.sl (f2.Slots.map LX),.sl (f2.Code.map LU)]]⟩)),(4,some (g.2.1,⟨false,true,1,30,[.agg [.nils]]⟩)),(6,some (g.2.2.1,⟨false,true,1,30,[.agg [.osl 14 g.2.2.2 0 x7.length]]⟩)),(14,some (g.2.2.2,⟨false,false,1,36,x7.map (eL Ed)⟩)),(8192,some (0,⟨false,true,2,100,[.agg [.sl (c5.map eU8),.int .i64 c6]]⟩))]) (j:=fun s=>OW c5 c6 f2 n8 x7) ?_ ?_
 ·refine sQ<|rG<|mV r r<|bN (v:=.bool (decide (n8 > 0))) r r r r r<|mV r r<|sP 20 (b:=(decide (n8 > 0))) r ?_ ?_
  ·refine fA r r<|lO (v:=.sl (f2.Slots.map LX)) (z:=.agg [.int .i64 f2.Params,.sl (f2.Slots.map LX),.sl (f2.Code.map LU)]) r r r r r r<|lS r r<|bN (v:=.bool (decide ((f2.Slots.length : Int) > 0))) r r r r r<|pT r r r r<|nI<|xS<|cD (c:=(decide ((f2.Slots.length : Int) > 0))) r ?_ ?_
   ·exact sK<|xC (s:=()) (_,_,_,_) ((hE ⟨rfl,r,r,r,r,r,r,r,r,trivial⟩ ⟨rfl,r,r,r,r,trivial⟩))
   ·refine eT<|YC<|lE<|bH<|xS<|sQ<|rG<|lO (v:=.agg [.osl 14 _ 0 x7.length]) (z:=.agg [.osl 14 _ 0 x7.length]) r r r r r r<|sV (z':=.agg [.osl 14 _ 0 x7.length]) r r r r r r r r r<|nI<|xS<|rT<|MT (b:=((Mg.mk x7),(LR.mk c5 c6))) r ?_ r r ?_ (by first | rfl | (simp only [Me]; rfl) | (simp only [Mh]; rfl) | (simp only [Me,Mh]; rfl) | simp [Po,NP])
    all_goals first|(simp;done)|(simp;omega)|rfl|(simp [Mf,LZ];done)
  ·refine oF r<|oF r<|oF r<|oF r<|pF r r r r<|nI<|xS<|Yc r<|eT<|YC<|lE<|bH<|xS<|sQ<|rG<|lO (v:=.agg [.osl 14 _ 0 x7.length]) (z:=.agg [.osl 14 _ 0 x7.length]) r r r r r r<|sV (z':=.agg [.osl 14 _ 0 x7.length]) r r r r r r r r r<|nI<|xS<|rT<|MT (b:=((Mg.mk x7),(LR.mk c5 c6))) r ?_ r r ?_ (by first | rfl | (simp only [Me]; rfl) | (simp only [Mh]; rfl) | (simp only [Me,Mh]; rfl) | simp [Po,NP])
   all_goals first|(simp;done)|(simp;omega)|rfl|(simp [Mf,LZ];done)
 ·rintro ⟨⟩ ⟨v3x2,v4x2,v6x2,v14x2⟩ nn
  try dsimp only
  unfold OW
  refine bC (E:=fun (s : (List Int) × Int × (List (List Int))) (g : Nat × Nat × Nat × Nat)=>[(0,.optr 8192 0 0 0),(3,.optr 3 g.1 0 0),(4,.optr 4 g.2.1 0 0),(6,.optr 6 g.2.2.1 0 0),(7,.int .i64 n8),(21,.optr 3 g.1 0 1),(22,.sl (f2.Slots.map LX)),(23,.int .i64 (f2.Slots.length : Int)),(24,.bool (decide ((f2.Slots.length : Int) > 0)))]) (O:=fun s g=>[(3,some (g.1,⟨false,true,3,27,[.agg [.int .i64 f2.Params,.sl (f2.Slots.map LX),.sl (f2.Code.map LU)]]⟩)),(4,some (g.2.1,⟨false,true,1,30,[.agg [.nils]]⟩)),(6,some (g.2.2.1,⟨false,true,1,30,[.agg [.osl 14 g.2.2.2 0 s.2.2.length]]⟩)),(14,some (g.2.2.2,⟨false,false,1,36,s.2.2.map (eL Ed)⟩)),(8192,some (0,⟨false,true,2,100,[.agg [.sl (s.1.map eU8),.int .i64 s.2.1]]⟩))]) (j:=fun s=>OX n8 s.1 s.2.1 s.2.2) ?_ ?_
  ·refine sQ<|rG<|mV r r<|fA r r<|lO (v:=.sl (f2.Slots.map LX)) (z:=.agg [.int .i64 f2.Params,.sl (f2.Slots.map LX),.sl (f2.Code.map LU)]) r r r r r r<|lS r r<|bD fun r12 hr12=>cV ((LR.mk c5 c6),(f2.Slots.length : Int)) r r r Ma r r (by simp) r hr12<|aS r r<|nI<|xS<|sQ<|rG<|aS r r<|nI<|xS<|bK<|lP (E:=fun (s : (List (List Int)) × Int) (g : Nat × Nat × Nat × Nat)=>[(0,.optr 8192 0 0 0),(3,.optr 3 g.1 0 0),(4,.optr 4 g.2.1 0 0),(6,.optr 6 g.2.2.1 0 0),(7,.int .i64 n8),(8,.int .i64 r12.1),(9,.int .i64 s.2),(21,.optr 3 g.1 0 1),(22,.sl (f2.Slots.map LX)),(23,.int .i64 (f2.Slots.length : Int)),(24,.bool (decide ((f2.Slots.length : Int) > 0)))]) (O:=fun s g=>[(3,some (g.1,⟨false,true,3,27,[.agg [.int .i64 f2.Params,.sl (f2.Slots.map LX),.sl (f2.Code.map LU)]]⟩)),(4,some (g.2.1,⟨false,true,1,30,[.agg [.nils]]⟩)),(6,some (g.2.2.1,⟨false,true,1,30,[.agg [.osl 14 g.2.2.2 0 s.1.length]]⟩)),(14,some (g.2.2.2,⟨false,false,1,36,s.1.map (eL Ed)⟩)),(8192,some (0,⟨false,true,2,100,[.agg [.sl (r12.2.list.map eU8),.int .i64 r12.2.at_]]⟩))]) (body:=fun s=>OV r12 n8 s.1 s.2) (s:=(x7,0)) (_,_,_,_) ((hE ⟨rfl,r,r,r,r,r,r,r,r,r,r,trivial⟩ ⟨rfl,r,r,r,r,trivial⟩))<|?_
   rintro ⟨x13,k14⟩ ⟨v3x3,v4x3,v6x3,v14x3⟩ nn
   try dsimp only
   unfold OV
   refine sQ<|sQ<|rG<|mV r r<|fA r r<|lO (v:=.osl 14 _ 0 x13.length) (z:=.agg [.osl 14 _ 0 x13.length]) r r r r r r<|lW r r<|bN (v:=.bool (decide (k14 < (x13.length : Int)))) r r r r r<|nI<|xS<|cD (c:=(decide (k14 < (x13.length : Int)))) r ?_ ?_
   ·exact sK<|xS<|sQ<|bK<|rG<|fA r r<|lO (v:=.osl 14 _ 0 x13.length) (z:=.agg [.osl 14 _ 0 x13.length]) r r r r r r<|mV r r<|fA r r<|lO (v:=.osl 14 _ 0 x13.length) (z:=.agg [.osl 14 _ 0 x13.length]) r r r r r r<|mV r r<|cK fun hq=>iO (l:=x13) (en:=(eL Ed)) r r r r r hq<|bD fun x_e15 hx_e15=>lO (v:=.sl (x_e15.map Ed)) (z:=(eL Ed) x_e15) r r r (Nh hx_e15) r r<|mV r r<|bD fun r16 hr16=>cR (l:=r16) (en:=Ed) (x_e15,r12.1) r r r VP r r (by simp) r hr16 r<|cK fun hq=>iO (l:=x13) (en:=(eL Ed)) r r r r r hq<|bD fun x_o17 hx_o17=>sE (l:=x13) (en:=(eL Ed)) (q':=r16) r r r r r r r (by simp) hx_o17 r r r (by simp [MG,cells,setAt,eL]) r<|Mp (by kernel_rfl)<|bM<|xS<|rG<|mV r r<|bN (v:=.int .i64 (IntKind.i64.wrap (k14 + 1))) r r r r r<|aS r r<|nI<|xL (s:=(x13.set k14.toNat r16,IntKind.i64.wrap (k14 + 1))) (_,_,_,_) ((hE ⟨rfl,r,r,r,r,r,r,r,r,r,r,trivial⟩ ⟨rfl,r,(Eq.trans (b:=some (_,⟨false,true,1,30,[.agg [.osl 14 _ 0 x13.length]]⟩)) r (by simp)),r,r,trivial⟩))
   ·exact eT<|xE<|lE<|bH<|Rf (s:=(r12.2.list,r12.2.at_,x13)) (_,_,_,_) ((hE ⟨rfl,r,r,r,r,r,r,r,r,trivial⟩ ⟨rfl,r,r,r,r,trivial⟩))
  ·rintro ⟨c9,c10,x11⟩ ⟨v3x4,v4x4,v6x4,v14x4⟩ nn
   try dsimp only
   unfold OX
   exact rG<|mV r r<|bN (v:=.int .i64 (IntKind.i64.wrap (n8 - 1))) r r r r r<|aS r r<|nI<|xL (s:=(c9,c10,x11,IntKind.i64.wrap (n8 - 1))) (_,_,_,_) ((hE ⟨rfl,r,r,r,r,trivial⟩ ⟨rfl,r,r,r,r,trivial⟩))

def AbQ : Mj:=(.seq (.reg [P 2 (.new (.agg [(.int .i64 0),.nils,.nils]) 3 27),P 3 (.new (.agg [.nils]) 1 30),P 4 (.asg (.c .top) none)] false) (.seq (.reg [M 8 0,P 9 (.call (.c (.clo 52 [])) [(T 8),(C 250)]),P 5 (.asg (T 9) none)] false) (.seq (.reg [M 10 5,P 11 (.call (.c (.clo 53 [])) [(T 10),(C 3),(C 16)]),P 6 (.new (.agg [.nils]) 1 70),⟨none,(.st 1 (T 6) (T 11)),none,[]⟩] false) (.seq (.reg [P 12 (.fldA 0 (T 6)),⟨(some 13),(.ld 1 false (T 12)),none,[0]⟩,M 14 5,P 15 (.fldA 0 (T 6)),⟨(some 16),(.ld 1 false (T 15)),none,[3]⟩,⟨(some 17),(.len false (T 16)),none,[4]⟩,⟨(some 18),(.call (.c (.clo 54 [])) [(T 14),(T 17)]),none,[2,5]⟩,⟨(some 19),(.ixA 3 (T 13) (T 18)),none,[1,6]⟩,⟨(some 20),(.ld 3 true (T 19)),none,[7]⟩,P 7 (.new (.agg [(.int .i64 0),.nils,.nils]) 3 27),⟨none,(.st 3 (T 7) (T 20)),none,[9,8,6,0,1,2,3,4,5,6,7,8,9]⟩] true) (.seq (.reg [P 21 (.ld 3 true (T 7)),M 22 5,P 23 (.ld 3 true (T 7)),⟨(some 24),(.call (.c (.clo 26 [])) [(T 22),(T 23)]),none,[1,2]⟩,M 25 5,⟨none,(.st 3 (T 2) (T 21)),none,[0,3,0]⟩,⟨none,(.st 1 (T 3) (T 24)),none,[3,5,0,1,2,3,5]⟩,⟨(some 4),(.asg (T 25) none),none,[4,6,0,1,2,3,4,5,6]⟩] true) .ret)))))
theorem Aeg : (Tryd.f16.body.bind (Mn Tryd.prog Tryd.f16.ntmps)) = some AbQ:=by kernel_rfl
theorem Aeh : Tryd.f16.results.toList.mapM (MC Tryd.prog) = some [(.c 2 3 true),(.c 3 1 true),(.t 4)]:=by kernel_rfl
def Tt (a : (List Int)) : List D:=[.sl (a.map eU8)]
def Ts (ds : List D) : (List Int):=(uL uI) (ds.getD 0 .top)
theorem WX (a : (List Int)) : Ts (Tt a) = a:=by simp [Ts,Tt,OH (u:=uI) (en:=eU8) (fun _=>rfl)]
def XS (b : LW × Mg × LR) : D:=.tup [MI b.1,NP b.2.1,Mu b.2.2]
def XR (_b : LW × Mg × LR) : List D:=[]
noncomputable def UQ : Dw.Spec:=Mk [] (.tupPtr 2 2 100) Tt Ts (fun a=>QH a) XS XR
set_option maxHeartbeats 4000000 in
theorem ZI : Mi Tryd.prog 16 UQ:=by
 refine MB (Mq (l:=[(52,XA),(53,Qu),(54,Mo),(26,Ri)]) (by simp [AaG,WS,MS,Yd])) Tryd.func16 (by decide) Aeg Aeh (np:=1) (by decide) WX (fun _=>r) (fun _=>r) (by decide)<|?_
 intro codes1
 show TrE (specs [(52,XA),(53,Qu),(54,Mo),(26,Ri)]) AbQ (ME [] (.tupPtr 2 2 100) [(.c 2 3 true),(.c 3 1 true),(.t 4)] XS XR) ⟨[(0,.sl (codes1.map eU8))],[],262144⟩ (QH codes1)
 refine Mr<|?_
 unfold AbQ QH
 refine sQ<|rG<|nW r<|nW r<|aS r r<|nI<|xS<|sQ<|rG<|mV r r<|bD fun r2 hr2=>cP (codes1,250) r r r YW r r (by simp) r hr2<|aS r r<|nI<|xS<|sQ<|rG<|mV r r<|bD fun r3 hr3=>cV (r2,3,16) r r r SR r r (by simp) r hr3<|nW r<|sV (z':=.agg [.sl (r3.1.Funcs.map MI)]) r r r r r r r r r<|nI<|xS<|sQ<|rG<|fA r r<|lO (v:=.sl (r3.1.Funcs.map MI)) (z:=.agg [.sl (r3.1.Funcs.map MI)]) r r r r r r<|mV r r<|fA r r<|lO (v:=.sl (r3.1.Funcs.map MI)) (z:=.agg [.sl (r3.1.Funcs.map MI)]) r r r r r r<|lS r r<|bD fun r4 hr4=>cV (r3.2,(r3.1.Funcs.length : Int)) r r r Ma r r (by simp) r hr4<|bD fun x_x5 hx_x5=>iS (en:=MI) r r r hx_x5 r<|lF (v:=.agg [.int .i64 x_x5.Params,.sl (x_x5.Slots.map LX),.sl (x_x5.Code.map LU)]) r r r r<|nW r<|sV (z':=.agg [.int .i64 x_x5.Params,.sl (x_x5.Slots.map LX),.sl (x_x5.Code.map LU)]) r r r r r r r r r<|Mp (by kernel_rfl)<|xS<|sQ<|rG<|lO (v:=.agg [.int .i64 x_x5.Params,.sl (x_x5.Slots.map LX),.sl (x_x5.Code.map LU)]) (z:=.agg [.int .i64 x_x5.Params,.sl (x_x5.Slots.map LX),.sl (x_x5.Code.map LU)]) r r r r r r<|mV r r<|lO (v:=.agg [.int .i64 x_x5.Params,.sl (x_x5.Slots.map LX),.sl (x_x5.Code.map LU)]) (z:=.agg [.int .i64 x_x5.Params,.sl (x_x5.Slots.map LX),.sl (x_x5.Code.map LU)]) r r r r r r<|bD fun r6 hr6=>cV (r4.2,x_x5) r r r TM r r (by simp) r hr6<|mV r r<|sV (z':=.agg [.int .i64 x_x5.Params,.sl (x_x5.Slots.map LX),.sl (x_x5.Code.map LU)]) r r r r r r r r r<|sV (z':=.agg [.sl (r6.1.Out.map (eL Ed))]) r r r r r r r r r<|aS r r<|Mp (by kernel_rfl)<|xS<|rT<|LD (b:=(x_x5,r6.1,r6.2)) (by decide) (by decide) r ?_ r ?_ r ?_ r ?_ r r ?_ r
 all_goals first|(simp;done)|(simp;omega)|rfl|(simp [Mf,LZ];done)

def AbZ : Mj:=(.seq (.reg [P 2 (.box (T 0) 3 27),P 3 (.box (T 1) 1 30),⟨(some 4),(.asg (.c .nils) (some ⟨1,36⟩)),none,[]⟩] false) (.seq (.reg [⟨(some 5),(.asg (.c .nils) (some ⟨1,36⟩)),none,[]⟩] false) (.seq (.seq (.reg [P 8 (.fldA 2 (T 2)),P 9 (.ld 1 false (T 8)),P 10 (.len false (T 9)),P 11 (.mv (C 0))] false) (.block 0 (.loop (.seq (.reg [P 12 (.bin .lss (T 11) (T 10))] false) (.seq (.cond (T 12) .skip (.exit 0)) (.seq (.block 1 (.seq (.reg [M 13 11,P 14 (.ixA 5 (T 9) (T 11)),P 15 (.ld 5 true (T 14)),P 7 (.new (.agg [(.int .i64 0),(.int .i64 0),(.int .i64 0),(.int .i64 0),(.int .u64 0)]) 5 66),P 6 (.asg (T 13) none),⟨none,(.st 5 (T 7) (T 15)),none,[]⟩] false) (.reg [M 16 5,P 17 (.ld 5 true (T 7)),P 18 (.fldA 0 (T 3)),⟨(some 19),(.ld 1 false (T 18)),none,[2]⟩,M 20 6,⟨(some 21),(.ixA 1 (T 19) (T 20)),none,[3,4]⟩,⟨(some 22),(.ld 1 false (T 21)),none,[5]⟩,⟨(some 23),(.call (.c (.clo 74 [])) [(T 17),(T 22)]),none,[1,6]⟩,⟨(some 24),(.bldS 1 36 (.sl []) 1 [⟨0,(T 23)⟩]),none,[7]⟩,⟨(some 25),(.app 1 36 24 (T 16) (T 24)),none,[0,8,7]⟩,⟨(some 5),(.asg (T 25) (some ⟨1,36⟩)),none,[9,9,0,1,2,3,4,5,6,7,8,9]⟩] true))) (.reg [P 26 (.bin .add (T 11) (C 1)),M 11 26] false))))))) (.seq (.reg [M 27 5,⟨(some 4),(.asg (T 27) (some ⟨1,36⟩)),none,[]⟩] false) .ret))))
theorem Aey : (Tryd.f36.body.bind (Mn Tryd.prog Tryd.f36.ntmps)) = some AbZ:=by kernel_rfl
theorem Aez : Tryd.f36.results.toList.mapM (MC Tryd.prog) = some [(.t 4)]:=by kernel_rfl
def SC (a : LW × Mg) : List D:=[MI a.1,NP a.2]
def SB (ds : List D) : LW × Mg:=(OG (ds.getD 0 .top),TJ (ds.getD 1 .top))
theorem Tu (a : LW × Mg) : SB (SC a) = a:=by simp [SB,SC]
def WZ (b : (List (List Int))) : D:=.sl (b.map (eL Ed))
def WY (_b : (List (List Int))) : List D:=[]
noncomputable def Qe : Dw.Spec:=Mk [] (.row 1 36) SC SB (fun a=>Oh a.1 a.2) WZ WY
set_option maxHeartbeats 4000000 in
theorem Wq : Mi Tryd.prog 36 Qe:=by
 refine MB (Mq (l:=[(74,PE)]) (by simp [VI])) Tryd.func36 (by decide) Aey Aez (np:=2) (by decide) Tu (fun _=>r) (fun _=>r) (by decide)<|?_
 rintro ⟨f1,l2⟩
 show TrE (specs [(74,PE)]) AbZ (ME [] (.row 1 36) [(.t 4)] WZ WY) ⟨[(0,.agg [.int .i64 f1.Params,.sl (f1.Slots.map LX),.sl (f1.Code.map LU)]),(1,.agg [.sl (l2.Out.map (eL Ed))])],[],262144⟩ (Oh f1 l2)
 refine Mr<|?_
 unfold AbZ Oh
 refine sQ<|rG<|bX r r r r r<|bX r r r r r<|aN (α:=(List Int)) r (eL Ed) r<|nI<|xS<|sQ<|rG<|aN (α:=(List Int)) r (eL Ed) r<|nI<|xS<|sQ<|sQ<|rG<|fA r r<|lO (v:=.sl (f1.Code.map LU)) (z:=.agg [.int .i64 f1.Params,.sl (f1.Slots.map LX),.sl (f1.Code.map LU)]) r r r r r r<|lS r r<|mV r r<|nI<|xS<|bK<|lP (E:=fun (s : (List (List Int)) × Int) (g : Nat × Nat)=>[(3,.optr 3 g.1 0 0),(5,.osl 5 g.2 0 s.1.length),(9,.sl (f1.Code.map LU)),(10,.int .i64 (f1.Code.length : Int)),(11,.int .i64 s.2)]) (O:=fun s g=>[(3,some (g.1,⟨false,true,1,30,[.agg [.sl (l2.Out.map (eL Ed))]]⟩)),(5,some (g.2,⟨false,false,1,36,s.1.map (eL Ed)⟩))]) (body:=fun s=>Rc f1 l2 s.1 s.2) (s:=(([] : List (List Int)),0)) (_,_) ((hE ⟨rfl,r,r,r,r,trivial⟩ ⟨rfl,r,trivial⟩))<|?_
 rintro ⟨out3,x4⟩ ⟨v3x1,v5x1⟩ nn
 try dsimp only
 unfold Rc
 refine sQ<|rG<|bN (v:=.bool (decide (x4 < (f1.Code.length : Int)))) r r r r r<|nI<|xS<|sQ<|cD (c:=(decide (x4 < (f1.Code.length : Int)))) r ?_ ?_
 ·exact sK<|xS<|sQ<|bK<|sQ<|rG<|mV r r<|bD fun x_x5 hx_x5=>iS (en:=LU) r r r hx_x5 r<|lF (v:=.agg [.int .i64 x_x5.Op,.int .i64 x_x5.A,.int .i64 x_x5.B,.int .i64 x_x5.C,.int .u64 x_x5.Imm]) r r r r<|nW r<|aS r r<|sV (z':=.agg [.int .i64 x_x5.Op,.int .i64 x_x5.A,.int .i64 x_x5.B,.int .i64 x_x5.C,.int .u64 x_x5.Imm]) r r r r r r r r r<|nI<|xS<|rG<|mV r r<|lO (v:=.agg [.int .i64 x_x5.Op,.int .i64 x_x5.A,.int .i64 x_x5.B,.int .i64 x_x5.C,.int .u64 x_x5.Imm]) (z:=.agg [.int .i64 x_x5.Op,.int .i64 x_x5.A,.int .i64 x_x5.B,.int .i64 x_x5.C,.int .u64 x_x5.Imm]) r r r r r r<|fA r r<|lO (v:=.sl (l2.Out.map (eL Ed))) (z:=.agg [.sl (l2.Out.map (eL Ed))]) r r r r r r<|mV r r<|bD fun x_x6 hx_x6=>iS (en:=(eL Ed)) r r r hx_x6 r<|lF (v:=.sl (x_x6.map Ed)) r r r r<|bD fun r7 hr7=>cV (x_x5,x_x6) r r r Ti r r (by simp) r hr7<|bS ([r7] : List (List Int)) (eL Ed) r r r (by simp) r r r<|cK fun hq=>aP (out3) (([r7] : List (List Int))) (eL Ed) r r r r r r r (by simp) (Ml _ _ r) r r (by simp) (LY _ _ r) (fun _=>r) r hq<|aO (l:=out3 ++ ([r7] : List (List Int))) (en:=(eL Ed)) r r r r<|Mp (by kernel_rfl)<|bM<|xS<|rG<|bN (v:=.int .i64 (IntKind.i64.wrap (x4 + 1))) r r r r r<|mV r r<|nI<|xL (s:=(out3 ++ ([r7] : List (List Int)),IntKind.i64.wrap (x4 + 1))) (_,_) ((hE ⟨rfl,r,r,r,r,trivial⟩ ⟨rfl,r,trivial⟩))
 ·refine eT<|xE<|lE<|bH<|xS<|sQ<|rG<|mV r r<|aO (l:=out3) (en:=(eL Ed)) r r r r<|nI<|xS<|rT<|Mw (b:=out3) r ?_ r r ?_ r ?_ (congrArg D.sl (LY _ _ r)) r
  all_goals first|(simp;done)|(simp;omega)|rfl|(simp [Mf,LZ];done)

def Aca : Mj:=(.seq (.reg [P 2 (.box (T 0) 3 27),P 3 (.box (T 1) 1 30),⟨(some 4),(.asg (.c .nils) (some ⟨1,36⟩)),none,[]⟩] false) (.seq (.reg [P 7 (.fldA 2 (T 2)),P 8 (.ld 1 false (T 7)),P 9 (.len false (T 8)),P 10 (.mkS 1 36 24 .nils (T 9) (T 9)),⟨(some 5),(.asg (T 10) (some ⟨1,36⟩)),none,[]⟩] false) (.seq (.seq (.reg [P 6 (.asg (C 0) none)] false) (.block 0 (.loop (.seq (.seq (.reg [M 11 6,P 12 (.fldA 2 (T 2)),P 13 (.ld 1 false (T 12)),P 14 (.len false (T 13)),P 15 (.bin .lss (T 11) (T 14))] false) (.cond (T 15) .skip (.exit 0))) (.seq (.block 1 (.reg [M 18 5,M 19 6,P 20 (.fldA 2 (T 2)),⟨(some 21),(.ld 1 false (T 20)),none,[2]⟩,M 22 6,⟨(some 23),(.ixA 5 (T 21) (T 22)),none,[3,4]⟩,⟨(some 24),(.ld 5 true (T 23)),none,[5]⟩,P 25 (.fldA 0 (T 3)),⟨(some 26),(.ld 1 false (T 25)),none,[7]⟩,M 27 6,⟨(some 28),(.ixA 1 (T 26) (T 27)),none,[8,9]⟩,⟨(some 29),(.ld 1 false (T 28)),none,[10]⟩,⟨(some 30),(.call (.c (.clo 75 [])) [(T 24),(T 29)]),none,[6,11]⟩,⟨(some 31),(.ixA 1 (T 18) (T 19)),none,[0,1,0,1,2,3,4,5,6,7,8,9,10,11,12]⟩,⟨none,(.st 1 (T 31) (T 30)),none,[13,12,12,0,1,2,3,4,5,6,7,8,9,10,11,12]⟩] true)) (.reg [M 16 6,P 17 (.bin .add (T 16) (C 1)),P 6 (.asg (T 17) none)] false)))))) (.seq (.reg [M 32 5,⟨(some 4),(.asg (T 32) (some ⟨1,36⟩)),none,[]⟩] false) .ret))))
theorem AeA : (Tryd.f37.body.bind (Mn Tryd.prog Tryd.f37.ntmps)) = some Aca:=by kernel_rfl
theorem AeB : Tryd.f37.results.toList.mapM (MC Tryd.prog) = some [(.t 4)]:=by kernel_rfl
def UU (a : LW × Mg) : List D:=[MI a.1,NP a.2]
def UT (ds : List D) : LW × Mg:=(OG (ds.getD 0 .top),TJ (ds.getD 1 .top))
theorem VY (a : LW × Mg) : UT (UU a) = a:=by simp [UT,UU]
def Zh (b : (List (List Int))) : D:=.sl (b.map (eL Ed))
def Zg (_b : (List (List Int))) : List D:=[]
noncomputable def Sj : Dw.Spec:=Mk [] (.row 1 36) UU UT (fun a=>Qq a.1 a.2) Zh Zg
set_option maxHeartbeats 4000000 in
theorem Yv : Mi Tryd.prog 37 Sj:=by
 refine MB (Mq (l:=[(75,TB)]) (by simp [Zf])) Tryd.func37 (by decide) AeA AeB (np:=2) (by decide) VY (fun _=>r) (fun _=>r) (by decide)<|?_
 rintro ⟨f1,l2⟩
 show TrE (specs [(75,TB)]) Aca (ME [] (.row 1 36) [(.t 4)] Zh Zg) ⟨[(0,.agg [.int .i64 f1.Params,.sl (f1.Slots.map LX),.sl (f1.Code.map LU)]),(1,.agg [.sl (l2.Out.map (eL Ed))])],[],262144⟩ (Qq f1 l2)
 refine Mr<|?_
 unfold Aca Qq
 refine sQ<|rG<|bX r r r r r<|bX r r r r r<|aN (α:=(List Int)) r (eL Ed) r<|nI<|xS<|sQ<|rG<|fA r r<|lO (v:=.sl (f1.Code.map LU)) (z:=.agg [.int .i64 f1.Params,.sl (f1.Slots.map LX),.sl (f1.Code.map LU)]) r r r r r r<|lS r r<|cK fun hq=>Sq (α:=Int) r r r hq r<|aO (l:=List.replicate (f1.Code.length : Int).toNat ([] : (List Int))) (en:=(fun _=>D.nils)) r r r r<|nI<|PJ (E:=[(2,.optr 2 _ 0 0),(3,.optr 3 _ 0 0),(5,.osl 5 _ 0 ((List.replicate (f1.Code.length : Int).toNat ([] : (List Int))).length))]) (O:=[(2,some (_,⟨false,true,3,27,[.agg [.int .i64 f1.Params,.sl (f1.Slots.map LX),.sl (f1.Code.map LU)]]⟩)),(3,some (_,⟨false,true,1,30,[.agg [.sl (l2.Out.map (eL Ed))]]⟩)),(5,some (_,⟨false,false,1,36,(List.replicate (f1.Code.length : Int).toNat ([] : (List Int))).map (eL Ed)⟩))]) ((Wp (g:=5) r (XH (l:=List.replicate (f1.Code.length : Int).toNat ([] : (List Int))) Ed (fun _ h=>List.eq_of_mem_replicate h)) (hE ⟨rfl,r,r,trivial⟩ ⟨rfl,r,r,trivial⟩))) fun nn=>sQ<|sQ<|rG<|aS r r<|nI<|xS<|bK<|lP (E:=fun (s : (List (List Int)) × Int) (g : Nat × Nat × Nat)=>[(2,.optr 2 g.1 0 0),(3,.optr 3 g.2.1 0 0),(5,.osl 5 g.2.2 0 s.1.length),(6,.int .i64 s.2)]) (O:=fun s g=>[(2,some (g.1,⟨false,true,3,27,[.agg [.int .i64 f1.Params,.sl (f1.Slots.map LX),.sl (f1.Code.map LU)]]⟩)),(3,some (g.2.1,⟨false,true,1,30,[.agg [.sl (l2.Out.map (eL Ed))]]⟩)),(5,some (g.2.2,⟨false,false,1,36,s.1.map (eL Ed)⟩))]) (body:=fun s=>TC f1 l2 s.1 s.2) (s:=(List.replicate (f1.Code.length : Int).toNat ([] : (List Int)),0)) (_,_,_) ((hE ⟨rfl,r,r,r,trivial⟩ ⟨rfl,r,r,trivial⟩))<|?_
 rintro ⟨out3,k4⟩ ⟨v2x1,v3x1,v5x1⟩ nn
 try dsimp only
 unfold TC
 refine sQ<|sQ<|rG<|mV r r<|fA r r<|lO (v:=.sl (f1.Code.map LU)) (z:=.agg [.int .i64 f1.Params,.sl (f1.Slots.map LX),.sl (f1.Code.map LU)]) r r r r r r<|lS r r<|bN (v:=.bool (decide (k4 < (f1.Code.length : Int)))) r r r r r<|nI<|xS<|cD (c:=(decide (k4 < (f1.Code.length : Int)))) r ?_ ?_
 ·exact sK<|xS<|sQ<|bK<|rG<|mV r r<|mV r r<|fA r r<|lO (v:=.sl (f1.Code.map LU)) (z:=.agg [.int .i64 f1.Params,.sl (f1.Slots.map LX),.sl (f1.Code.map LU)]) r r r r r r<|mV r r<|bD fun x_x5 hx_x5=>iS (en:=LU) r r r hx_x5 r<|lF (v:=.agg [.int .i64 x_x5.Op,.int .i64 x_x5.A,.int .i64 x_x5.B,.int .i64 x_x5.C,.int .u64 x_x5.Imm]) r r r r<|fA r r<|lO (v:=.sl (l2.Out.map (eL Ed))) (z:=.agg [.sl (l2.Out.map (eL Ed))]) r r r r r r<|mV r r<|bD fun x_x6 hx_x6=>iS (en:=(eL Ed)) r r r hx_x6 r<|lF (v:=.sl (x_x6.map Ed)) r r r r<|bD fun r7 hr7=>cR (l:=r7) (en:=Ed) (x_x5,x_x6) r r r WI r r (by simp) r hr7 r<|cK fun hq=>iO (l:=out3) (en:=(eL Ed)) r r r r r hq<|bD fun out_o8 hout_o8=>sE (l:=out3) (en:=(eL Ed)) (q':=r7) r r r r r r r (by simp) hout_o8 r r r (by simp [MG,cells,setAt,eL]) r<|Mp (by kernel_rfl)<|bM<|xS<|rG<|mV r r<|bN (v:=.int .i64 (IntKind.i64.wrap (k4 + 1))) r r r r r<|aS r r<|nI<|xL (s:=(out3.set k4.toNat r7,IntKind.i64.wrap (k4 + 1))) (_,_,_) ((hE ⟨rfl,r,(YI (q:=out3.length) r (by simp)),r,trivial⟩ ⟨rfl,r,r,trivial⟩))
 ·refine eT<|xE<|lE<|bH<|xS<|sQ<|rG<|mV r r<|aO (l:=out3) (en:=(eL Ed)) r r r r<|nI<|xS<|rT<|Mw (b:=out3) r ?_ r r ?_ r ?_ (congrArg D.sl (LY _ _ r)) r
  all_goals first|(simp;done)|(simp;omega)|rfl|(simp [Mf,LZ];done)

def Rr (a : LW × Mg × Int) : List D:=[MI a.1,NP a.2.1,.int .i64 a.2.2]
def Rq (ds : List D) : LW × Mg × Int:=(OG (ds.getD 0 .top),TJ (ds.getD 1 .top),uI (ds.getD 2 .top))
theorem Vo (a : LW × Mg × Int) : Rq (Rr a) = a:=by simp [Rq,Rr,uI]
def VO (b : (List Int)) : D:=.sl (b.map Ed)
def VN (_b : (List Int)) : List D:=[]
noncomputable def SF : Dw.Spec:=Mk [] .val Rr Rq (fun a=>NZ a.1 a.2.1 a.2.2) VO VN
set_option maxHeartbeats 4000000 in
theorem YO : Mi Tryd.prog 58 SF:=by
 refine MB (Mq (l:=[(88,PH),(74,PE),(69,NV)]) (by simp [VJ,VI,Tb])) Tryd.func58 (by decide) Abq Abr (np:=3) (by decide) Vo (fun _=>r) (fun _=>r) (by decide)<|?_
 rintro ⟨f1,l2,k3⟩
 show TrE (specs [(88,PH),(74,PE),(69,NV)]) Aaj (ME [] .val [(.t 6)] VO VN) ⟨[(0,.agg [.int .i64 f1.Params,.sl (f1.Slots.map LX),.sl (f1.Code.map LU)]),(1,.agg [.sl (l2.Out.map (eL Ed))]),(2,.int .i64 k3)],[],262144⟩ (NZ f1 l2 k3)
 refine Mr<|?_
 unfold Aaj NZ
 refine sQ<|rG<|bX r r r r r<|bX r r r r r<|aN (α:=Int) r Ed r<|nI<|xS<|sQ<|rG<|aN (α:=Int) r Ed r<|nI<|xS<|sQ<|sQ<|rG<|lO (v:=.agg [.int .i64 f1.Params,.sl (f1.Slots.map LX),.sl (f1.Code.map LU)]) (z:=.agg [.int .i64 f1.Params,.sl (f1.Slots.map LX),.sl (f1.Code.map LU)]) r r r r r r<|mV r r<|bD fun r4 hr4=>cR (l:=r4) (en:=Ed) (f1,k3) r r r Tn r r (by simp) r hr4 r<|lW r r<|mV r r<|nI<|xS<|bK<|lP (E:=fun (s : Int × (List Int)) (g : Nat × Nat × Nat)=>[(3,.optr 3 g.1 0 0),(4,.optr 4 g.2.1 0 0),(7,.sl (s.2.map Ed)),(12,.osl 12 g.2.2 0 r4.length),(13,.int .i64 (r4.length : Int)),(14,.int .i64 s.1)]) (O:=fun s g=>[(3,some (g.1,⟨false,true,3,27,[.agg [.int .i64 f1.Params,.sl (f1.Slots.map LX),.sl (f1.Code.map LU)]]⟩)),(4,some (g.2.1,⟨false,true,1,30,[.agg [.sl (l2.Out.map (eL Ed))]]⟩)),(12,some (g.2.2,⟨false,false,1,3,r4.map Ed⟩))]) (body:=fun s=>PS r4 f1 l2 s.1 s.2) (s:=(0,([] : List Int))) (_,_,_) ((TX [(7,some (_,⟨true,false,1,3,([] : List Int).map Ed⟩))] ⟨⟨_,_,r,r,r⟩,trivial⟩ ⟨(My r),(My r),(Yf (SQ (l:=([] : List Int)) (en:=Ed) r r r (by simp))),(My r),(My r),(My r),trivial⟩ ⟨(.inl r),(.inl r),(.inl r),trivial⟩))<|?_
 rintro ⟨x5,s6⟩ ⟨v3x1,v4x1,v12x1⟩ nn
 try dsimp only
 unfold PS
 refine sQ<|rG<|bN (v:=.bool (decide (x5 < (r4.length : Int)))) r r r r r<|nI<|xS<|sQ<|cD (c:=(decide (x5 < (r4.length : Int)))) r ?_ ?_
 ·exact sK<|xS<|sQ<|bK<|sQ<|rG<|cK fun hq=>iO (l:=r4) (en:=Ed) r r r r r hq<|bD fun x_e7 hx_e7=>lO (v:=.int .i64 x_e7) (z:=Ed x_e7) r r r (Nh hx_e7) r r<|aS r r<|nI<|xS<|rG<|mV r r<|fA r r<|lO (v:=.sl (f1.Code.map LU)) (z:=.agg [.int .i64 f1.Params,.sl (f1.Slots.map LX),.sl (f1.Code.map LU)]) r r r r r r<|mV r r<|bD fun x_x8 hx_x8=>iS (en:=LU) r r r hx_x8 r<|lF (v:=.agg [.int .i64 x_x8.Op,.int .i64 x_x8.A,.int .i64 x_x8.B,.int .i64 x_x8.C,.int .u64 x_x8.Imm]) r r r r<|fA r r<|lO (v:=.sl (l2.Out.map (eL Ed))) (z:=.agg [.sl (l2.Out.map (eL Ed))]) r r r r r r<|mV r r<|bD fun x_x9 hx_x9=>iS (en:=(eL Ed)) r r r hx_x9 r<|lF (v:=.sl (x_x9.map Ed)) r r r r<|bD fun r10 hr10=>cV (x_x8,x_x9) r r r Ti r r (by simp) r hr10<|bD fun r11 hr11=>cV (s6,r10) r r r Pl r r (by simp) r hr11<|aL r r<|Mp (by kernel_rfl)<|bM<|xS<|rG<|bN (v:=.int .i64 (IntKind.i64.wrap (x5 + 1))) r r r r r<|mV r r<|nI<|xL (s:=(IntKind.i64.wrap (x5 + 1),r11)) (_,_,_) ((hE ⟨rfl,r,r,r,r,r,trivial⟩ ⟨rfl,r,r,trivial⟩))
 ·refine eT<|xE<|lE<|bH<|xS<|sQ<|rG<|mV r r<|aL r r<|nI<|xS<|rT<|MT (b:=s6) r ?_ r r ?_ r
  all_goals first|(simp;done)|(simp;omega)|rfl|(simp [Mf,LZ];done)

def AbX : Mj:=(.seq (.reg [P 2 (.box (T 0) 3 27),P 3 (.box (T 1) 1 30),P 4 (.new (.agg [.nils]) 1 30)] false) (.seq (.reg [P 5 (.new (.agg [.nils]) 1 30)] false) (.seq (.seq (.reg [P 7 (.fldA 2 (T 2)),P 8 (.ld 1 false (T 7)),P 9 (.len false (T 8)),P 10 (.mv (C 0))] false) (.block 0 (.loop (.seq (.reg [P 11 (.bin .lss (T 10) (T 9))] false) (.seq (.cond (T 11) .skip (.exit 0)) (.seq (.block 1 (.seq (.reg [M 12 10,P 6 (.asg (T 12) none)] false) (.reg [P 13 (.fldA 0 (T 5)),⟨(some 14),(.ld 1 false (T 13)),none,[0]⟩,P 15 (.ld 3 true (T 2)),P 16 (.ld 1 true (T 3)),M 17 6,⟨(some 18),(.call (.c (.clo 58 [])) [(T 15),(T 16),(T 17)]),none,[2,3,4]⟩,⟨(some 19),(.bldS 1 36 (.sl []) 1 [⟨0,(T 18)⟩]),none,[5]⟩,⟨(some 20),(.app 1 36 24 (T 14) (T 19)),none,[1,6,5]⟩,⟨(some 21),(.fldA 0 (T 5)),none,[0,1,2,3,4,5,6,7]⟩,⟨none,(.st 1 (T 21) (T 20)),none,[8,7,7,0,1,2,3,4,5,6,7]⟩] true))) (.reg [P 22 (.bin .add (T 10) (C 1)),M 10 22] false))))))) (.seq (.reg [P 23 (.ld 1 true (T 5)),⟨none,(.st 1 (T 4) (T 23)),none,[]⟩] false) .ret))))
theorem Aeu : (Tryd.f32.body.bind (Mn Tryd.prog Tryd.f32.ntmps)) = some AbX:=by kernel_rfl
theorem Aev : Tryd.f32.results.toList.mapM (MC Tryd.prog) = some [(.c 4 1 true)]:=by kernel_rfl
def Sb (a : LW × Mg) : List D:=[MI a.1,NP a.2]
def Sa (ds : List D) : LW × Mg:=(OG (ds.getD 0 .top),TJ (ds.getD 1 .top))
theorem VM (a : LW × Mg) : Sa (Sb a) = a:=by simp [Sa,Sb]
def Tw (b : Mg) : D:=NP b
def Ws (_b : Mg) : List D:=[]
noncomputable def Tx : Dw.Spec:=Mk [] .val Sb Sa (fun a=>Ow a.1 a.2) Tw Ws
set_option maxHeartbeats 4000000 in
theorem Zn : Mi Tryd.prog 32 Tx:=by
 refine MB (Mq (l:=[(58,SF)]) (by simp [YO])) Tryd.func32 (by decide) Aeu Aev (np:=2) (by decide) VM (fun _=>r) (fun _=>r) (by decide)<|?_
 rintro ⟨f1,l2⟩
 show TrE (specs [(58,SF)]) AbX (ME [] .val [(.c 4 1 true)] Tw Ws) ⟨[(0,.agg [.int .i64 f1.Params,.sl (f1.Slots.map LX),.sl (f1.Code.map LU)]),(1,.agg [.sl (l2.Out.map (eL Ed))])],[],262144⟩ (Ow f1 l2)
 refine Mr<|?_
 unfold AbX Ow
 refine sQ<|rG<|bX r r r r r<|bX r r r r r<|nW r<|nI<|xS<|sQ<|rG<|nW r<|nI<|xS<|sQ<|sQ<|rG<|fA r r<|lO (v:=.sl (f1.Code.map LU)) (z:=.agg [.int .i64 f1.Params,.sl (f1.Slots.map LX),.sl (f1.Code.map LU)]) r r r r r r<|lS r r<|mV r r<|nI<|xS<|bK<|lP (E:=fun (s : (List (List Int)) × Int) (g : Nat × Nat × Nat × Nat × Nat)=>[(2,.optr 2 g.1 0 0),(3,.optr 3 g.2.1 0 0),(4,.optr 4 g.2.2.1 0 0),(5,.optr 5 g.2.2.2.1 0 0),(9,.int .i64 (f1.Code.length : Int)),(10,.int .i64 s.2)]) (O:=fun s g=>[(2,some (g.1,⟨false,true,3,27,[.agg [.int .i64 f1.Params,.sl (f1.Slots.map LX),.sl (f1.Code.map LU)]]⟩)),(3,some (g.2.1,⟨false,true,1,30,[.agg [.sl (l2.Out.map (eL Ed))]]⟩)),(4,some (g.2.2.1,⟨false,true,1,30,[.agg [.nils]]⟩)),(5,some (g.2.2.2.1,⟨false,true,1,30,[.agg [.osl 2900 g.2.2.2.2 0 s.1.length]]⟩)),(2900,some (g.2.2.2.2,⟨false,false,1,36,s.1.map (eL Ed)⟩))]) (body:=fun s=>Qy f1 l2 s.1 s.2) (s:=(([] : List (List Int)),0)) (_,_,_,_,_) ((Aam (gg:=5) (off:=0) (tt:=2900) (s:=1) (tyy:=36) r r r r (hE ⟨rfl,r,r,r,r,r,trivial⟩ ⟨rfl,r,r,r,r,trivial⟩)))<|?_
 rintro ⟨x3,x4⟩ ⟨v2x1,v3x1,v4x1,v5x1,v2900x1⟩ nn
 try dsimp only
 unfold Qy
 refine sQ<|rG<|bN (v:=.bool (decide (x4 < (f1.Code.length : Int)))) r r r r r<|nI<|xS<|sQ<|cD (c:=(decide (x4 < (f1.Code.length : Int)))) r ?_ ?_
 ·exact sK<|xS<|sQ<|bK<|sQ<|rG<|mV r r<|aS r r<|nI<|xS<|rG<|fA r r<|lO (v:=.osl 2900 _ 0 x3.length) (z:=.agg [.osl 2900 _ 0 x3.length]) r r r r r r<|lO (v:=.agg [.int .i64 f1.Params,.sl (f1.Slots.map LX),.sl (f1.Code.map LU)]) (z:=.agg [.int .i64 f1.Params,.sl (f1.Slots.map LX),.sl (f1.Code.map LU)]) r r r r r r<|lO (v:=.agg [.sl (l2.Out.map (eL Ed))]) (z:=.agg [.sl (l2.Out.map (eL Ed))]) r r r r r r<|mV r r<|bD fun r5 hr5=>cV (f1,l2,x4) r r r Vo r r (by simp) r hr5<|bS ([r5] : List (List Int)) (eL Ed) r r r (by simp) r r r<|cK fun hq=>aP (x3) (([r5] : List (List Int))) (eL Ed) r r r r r r r (by simp) (Ml _ _ r) r r (by simp) (LY _ _ r) (fun _=>r) r hq<|fA r r<|sV (z':=.agg [.osl 20 _ 0 ((x3 ++ ([r5] : List (List Int))).length)]) r r r r r r r r r<|Mp (by kernel_rfl)<|bM<|xS<|rG<|bN (v:=.int .i64 (IntKind.i64.wrap (x4 + 1))) r r r r r<|mV r r<|nI<|xL (s:=(x3 ++ ([r5] : List (List Int)),IntKind.i64.wrap (x4 + 1))) (_,_,_,_,_) ((Qx (E1:=[(2,.optr 2 _ 0 0),(3,.optr 3 _ 0 0),(4,.optr 4 _ 0 0),(5,.optr 5 _ 0 0),(9,.int .i64 (f1.Code.length : Int)),(10,.int .i64 (IntKind.i64.wrap (x4 + 1)))]) (O1:=[(2,some (_,⟨false,true,3,27,[.agg [.int .i64 f1.Params,.sl (f1.Slots.map LX),.sl (f1.Code.map LU)]]⟩)),(3,some (_,⟨false,true,1,30,[.agg [.sl (l2.Out.map (eL Ed))]]⟩)),(4,some (_,⟨false,true,1,30,[.agg [.nils]]⟩)),(5,some (_,⟨false,true,1,30,[.agg [.osl 20 _ 0 ((x3 ++ ([r5] : List (List Int))).length)]]⟩)),(20,some (_,⟨false,false,1,36,(x3 ++ ([r5] : List (List Int))).map (eL Ed)⟩))]) (hE ⟨rfl,r,r,r,r,r,trivial⟩ ⟨rfl,r,r,r,r,trivial⟩) (fun _=>NY (fun g=>bif Nat.beq g 20 then 2900 else g) (by rfl) (hE ⟨rfl,r,r,r,r,r,trivial⟩ ⟨rfl,r,r,r,r,trivial⟩))))
 ·refine eT<|xE<|lE<|bH<|xS<|sQ<|rG<|lO (v:=.agg [.osl 2900 _ 0 x3.length]) (z:=.agg [.osl 2900 _ 0 x3.length]) r r r r r r<|sV (z':=.agg [.osl 2900 _ 0 x3.length]) r r r r r r r r r<|nI<|xS<|rT<|MT (b:=(Mg.mk x3)) r ?_ r r ?_ (by first | rfl | (simp only [Me]; rfl) | (simp only [Mh]; rfl) | (simp only [Me,Mh]; rfl) | simp [Tw,NP])
  all_goals first|(simp;done)|(simp;omega)|rfl|(simp [Mf,LZ];done)

def Acd : Mj:=(.seq (.reg [P 2 (.box (T 0) 3 27),P 3 (.box (T 1) 1 30),P 4 (.asg (C 0) none)] false) (.seq (.reg [P 5 (.asg (C 0) none)] false) (.seq (.seq (.reg [P 11 (.ld 3 true (T 2)),P 12 (.ld 1 true (T 3)),P 13 (.call (.c (.clo 36 [])) [(T 11),(T 12)]),P 14 (.len false (T 13)),P 15 (.mv (C 0))] false) (.block 0 (.loop (.seq (.reg [P 16 (.bin .lss (T 15) (T 14))] false) (.seq (.cond (T 16) .skip (.exit 0)) (.seq (.block 1 (.seq (.reg [P 17 (.ixA 1 (T 13) (T 15)),P 18 (.ld 1 false (T 17)),⟨(some 7),(.asg (T 18) (some ⟨1,3⟩)),none,[]⟩] false) (.seq (.reg [P 8 (.asg (C 0) none)] false) (.seq (.seq (.reg [M 19 7,P 20 (.len false (T 19)),P 21 (.mv (C 0))] false) (.block 2 (.loop (.seq (.reg [P 22 (.bin .lss (T 21) (T 20))] false) (.seq (.cond (T 22) .skip (.exit 2)) (.seq (.block 3 (.seq (.reg [P 23 (.ixA 1 (T 19) (T 21)),P 24 (.ld 1 false (T 23)),P 10 (.asg (T 24) none)] false) (.reg [M 25 8,P 26 (.fldA 1 (T 2)),P 27 (.ld 1 false (T 26)),M 28 10,P 29 (.ixA 2 (T 27) (T 28)),P 30 (.fldA 0 (T 29)),P 31 (.ld 1 false (T 30)),P 32 (.bin .add (T 25) (T 31)),P 8 (.asg (T 32) none)] false))) (.reg [P 33 (.bin .add (T 21) (C 1)),M 21 33] false))))))) (.reg [M 34 5,M 35 8,P 36 (.max [(T 34),(T 35)]),P 5 (.asg (T 36) none)] false))))) (.reg [P 37 (.bin .add (T 15) (C 1)),M 15 37] false))))))) (.seq (.reg [M 38 5,P 4 (.asg (T 38) none)] false) .ret))))
theorem AeE : (Tryd.f39.body.bind (Mn Tryd.prog Tryd.f39.ntmps)) = some Acd:=by kernel_rfl
theorem AeF : Tryd.f39.results.toList.mapM (MC Tryd.prog) = some [(.t 4)]:=by kernel_rfl
def Qg (a : LW × Mg) : List D:=[MI a.1,NP a.2]
def Qf (ds : List D) : LW × Mg:=(OG (ds.getD 0 .top),TJ (ds.getD 1 .top))
theorem Tv (a : LW × Mg) : Qf (Qg a) = a:=by simp [Qf,Qg]
def TP (b : Int) : D:=.int .i64 b
def TO (_b : Int) : List D:=[]
noncomputable def QW : Dw.Spec:=Mk [] .ground Qg Qf (fun a=>Nq a.1 a.2) TP TO
set_option maxHeartbeats 4000000 in
theorem XC : Mi Tryd.prog 39 QW:=by
 refine MB (Mq (l:=[(36,Qe)]) (by simp [Wq])) Tryd.func39 (by decide) AeE AeF (np:=2) (by decide) Tv (fun _=>r) (fun _=>r) (by decide)<|?_
 rintro ⟨f1,l2⟩
 show TrE (specs [(36,Qe)]) Acd (ME [] .ground [(.t 4)] TP TO) ⟨[(0,.agg [.int .i64 f1.Params,.sl (f1.Slots.map LX),.sl (f1.Code.map LU)]),(1,.agg [.sl (l2.Out.map (eL Ed))])],[],262144⟩ (Nq f1 l2)
 refine Mr<|?_
 unfold Acd Nq
 refine sQ<|rG<|bX r r r r r<|bX r r r r r<|aS r r<|nI<|xS<|sQ<|rG<|aS r r<|nI<|xS<|sQ<|sQ<|rG<|lO (v:=.agg [.int .i64 f1.Params,.sl (f1.Slots.map LX),.sl (f1.Code.map LU)]) (z:=.agg [.int .i64 f1.Params,.sl (f1.Slots.map LX),.sl (f1.Code.map LU)]) r r r r r r<|lO (v:=.agg [.sl (l2.Out.map (eL Ed))]) (z:=.agg [.sl (l2.Out.map (eL Ed))]) r r r r r r<|bD fun r3 hr3=>cR (l:=r3) (en:=(eL Ed)) (f1,l2) r r r Tu r r (by simp) r hr3 r<|lW r r<|mV r r<|nI<|xS<|bK<|lP (E:=fun (s : Int × Int) (g : Nat × Nat)=>[(2,.optr 2 g.1 0 0),(5,.int .i64 s.2),(13,.osl 13 g.2 0 r3.length),(14,.int .i64 (r3.length : Int)),(15,.int .i64 s.1)]) (O:=fun s g=>[(2,some (g.1,⟨false,true,3,27,[.agg [.int .i64 f1.Params,.sl (f1.Slots.map LX),.sl (f1.Code.map LU)]]⟩)),(13,some (g.2,⟨false,false,1,36,r3.map (eL Ed)⟩))]) (body:=fun s=>OC r3 f1 s.1 s.2) (s:=(0,0)) (_,_) ((hE ⟨rfl,r,r,r,r,trivial⟩ ⟨rfl,r,trivial⟩))<|?_
 rintro ⟨x4,most5⟩ ⟨v2x1,v13x1⟩ nn
 try dsimp only
 unfold OC
 refine sQ<|rG<|bN (v:=.bool (decide (x4 < (r3.length : Int)))) r r r r r<|nI<|xS<|sQ<|cD (c:=(decide (x4 < (r3.length : Int)))) r ?_ ?_
 ·refine sK<|xS<|sQ<|bK<|sQ<|rG<|cK fun hq=>iO (l:=r3) (en:=(eL Ed)) r r r r r hq<|bD fun x_e6 hx_e6=>lO (v:=.sl (x_e6.map Ed)) (z:=(eL Ed) x_e6) r r r (Nh hx_e6) r r<|aL r r<|nI<|xS<|sQ<|rG<|aS r r<|nI<|xS<|sQ<|sQ<|rG<|mV r r<|lS r r<|mV r r<|nI<|xS<|bK<|lP (E:=fun (s : Int × Int) (g : Nat × Nat)=>[(2,.optr 2 g.1 0 0),(5,.int .i64 most5),(8,.int .i64 s.2),(13,.osl 13 g.2 0 r3.length),(14,.int .i64 (r3.length : Int)),(15,.int .i64 x4),(19,.sl (x_e6.map Ed)),(20,.int .i64 (x_e6.length : Int)),(21,.int .i64 s.1)]) (O:=fun s g=>[(2,some (g.1,⟨false,true,3,27,[.agg [.int .i64 f1.Params,.sl (f1.Slots.map LX),.sl (f1.Code.map LU)]]⟩)),(13,some (g.2,⟨false,false,1,36,r3.map (eL Ed)⟩))]) (body:=fun s=>OD x_e6 f1 x4 most5 s.1 s.2) (s:=(0,0)) (_,_) ((hE ⟨rfl,r,r,r,r,r,r,r,r,trivial⟩ ⟨rfl,r,trivial⟩))<|?_
  rintro ⟨x7,sum8⟩ ⟨v2x2,v13x2⟩ nn
  try dsimp only
  unfold OD
  refine sQ<|rG<|bN (v:=.bool (decide (x7 < (x_e6.length : Int)))) r r r r r<|nI<|xS<|sQ<|cD (c:=(decide (x7 < (x_e6.length : Int)))) r ?_ ?_
  ·exact sK<|xS<|sQ<|bK<|sQ<|rG<|bD fun x_x9 hx_x9=>iS (en:=Ed) r r r hx_x9 r<|lF (v:=.int .i64 x_x9) r r r r<|aS r r<|nI<|xS<|rG<|mV r r<|fA r r<|lO (v:=.sl (f1.Slots.map LX)) (z:=.agg [.int .i64 f1.Params,.sl (f1.Slots.map LX),.sl (f1.Code.map LU)]) r r r r r r<|mV r r<|bD fun x_x10 hx_x10=>iS (en:=LX) r r r hx_x10 r<|fF r r<|lF (v:=.int .i64 x_x10.Size) r r r r<|bN (v:=.int .i64 (IntKind.i64.wrap (sum8 + x_x10.Size))) r r r r r<|aS r r<|nI<|bM<|xS<|rG<|bN (v:=.int .i64 (IntKind.i64.wrap (x7 + 1))) r r r r r<|mV r r<|nI<|xL (s:=(IntKind.i64.wrap (x7 + 1),IntKind.i64.wrap (sum8 + x_x10.Size))) (_,_) ((hE ⟨rfl,r,r,r,r,r,r,r,r,trivial⟩ ⟨rfl,r,trivial⟩))
  ·exact eT<|xE<|lE<|bH<|xS<|rG<|mV r r<|mV r r<|Ls r r r<|aS r r<|nI<|bM<|xS<|rG<|bN (v:=.int .i64 (IntKind.i64.wrap (x4 + 1))) r r r r r<|mV r r<|nI<|xL (s:=(IntKind.i64.wrap (x4 + 1),WH most5 sum8)) (_,_) ((hE ⟨rfl,r,r,r,r,trivial⟩ ⟨rfl,r,trivial⟩))
 ·refine eT<|xE<|lE<|bH<|xS<|sQ<|rG<|mV r r<|aS r r<|nI<|xS<|rT<|Mx (b:=most5) r ?_ r r ?_ r
  all_goals first|(simp;done)|(simp;omega)|rfl|(simp [Mf,LZ];done)

def Ace : Mj:=(.seq (.reg [P 2 (.box (T 0) 3 27),P 3 (.box (T 1) 1 30),P 4 (.asg (C 0) none)] false) (.seq (.reg [P 10 (.ld 3 true (T 2)),P 11 (.ld 1 true (T 3)),P 12 (.call (.c (.clo 37 [])) [(T 10),(T 11)]),⟨(some 5),(.asg (T 12) (some ⟨1,36⟩)),none,[]⟩] false) (.seq (.reg [P 6 (.asg (C 0) none)] false) (.seq (.seq (.reg [P 7 (.asg (C 0) none)] false) (.block 0 (.loop (.seq (.seq (.reg [M 13 7,M 14 5,P 15 (.len false (T 14)),P 16 (.bin .lss (T 13) (T 15))] false) (.cond (T 16) .skip (.exit 0))) (.seq (.block 1 (.seq (.reg [P 8 (.asg (C 0) none)] false) (.seq (.seq (.reg [P 9 (.asg (C 0) none)] false) (.block 2 (.loop (.seq (.seq (.reg [M 19 9,M 20 5,M 21 7,P 22 (.ixA 1 (T 20) (T 21)),P 23 (.ld 1 false (T 22)),P 24 (.len false (T 23)),P 25 (.bin .lss (T 19) (T 24))] false) (.cond (T 25) .skip (.exit 2))) (.seq (.block 3 (.reg [M 28 8,P 29 (.fldA 1 (T 2)),⟨(some 30),(.ld 1 false (T 29)),none,[1]⟩,M 31 5,M 32 7,⟨(some 33),(.ixA 1 (T 31) (T 32)),none,[3,4]⟩,⟨(some 34),(.ld 1 false (T 33)),none,[5]⟩,M 35 9,⟨(some 36),(.ixA 1 (T 34) (T 35)),none,[6,7]⟩,⟨(some 37),(.ld 1 false (T 36)),none,[8]⟩,⟨(some 38),(.ixA 2 (T 30) (T 37)),none,[2,9]⟩,⟨(some 39),(.fldA 0 (T 38)),none,[10]⟩,⟨(some 40),(.ld 1 false (T 39)),none,[11]⟩,⟨(some 41),(.bin .add (T 28) (T 40)),none,[0,12]⟩,⟨(some 8),(.asg (T 41) none),none,[13,0,1,2,3,4,5,6,7,8,9,10,11,12,13]⟩] true)) (.reg [M 26 9,P 27 (.bin .add (T 26) (C 1)),P 9 (.asg (T 27) none)] false)))))) (.reg [M 42 6,M 43 8,P 44 (.max [(T 42),(T 43)]),P 6 (.asg (T 44) none)] false)))) (.reg [M 17 7,P 18 (.bin .add (T 17) (C 1)),P 7 (.asg (T 18) none)] false)))))) (.seq (.reg [M 45 6,P 4 (.asg (T 45) none)] false) .ret)))))
theorem AeG : (Tryd.f40.body.bind (Mn Tryd.prog Tryd.f40.ntmps)) = some Ace:=by kernel_rfl
theorem AeH : Tryd.f40.results.toList.mapM (MC Tryd.prog) = some [(.t 4)]:=by kernel_rfl
def Ru (a : LW × Mg) : List D:=[MI a.1,NP a.2]
def Rt (ds : List D) : LW × Mg:=(OG (ds.getD 0 .top),TJ (ds.getD 1 .top))
theorem Vr (a : LW × Mg) : Rt (Ru a) = a:=by simp [Rt,Ru]
def Wa (b : Int) : D:=.int .i64 b
def VZ (_b : Int) : List D:=[]
noncomputable def SK : Dw.Spec:=Mk [] .ground Ru Rt (fun a=>Oa a.1 a.2) Wa VZ
set_option maxHeartbeats 4000000 in
theorem YP : Mi Tryd.prog 40 SK:=by
 refine MB (Mq (l:=[(37,Sj)]) (by simp [Yv])) Tryd.func40 (by decide) AeG AeH (np:=2) (by decide) Vr (fun _=>r) (fun _=>r) (by decide)<|?_
 rintro ⟨f1,l2⟩
 show TrE (specs [(37,Sj)]) Ace (ME [] .ground [(.t 4)] Wa VZ) ⟨[(0,.agg [.int .i64 f1.Params,.sl (f1.Slots.map LX),.sl (f1.Code.map LU)]),(1,.agg [.sl (l2.Out.map (eL Ed))])],[],262144⟩ (Oa f1 l2)
 refine Mr<|?_
 unfold Ace Oa
 refine sQ<|rG<|bX r r r r r<|bX r r r r r<|aS r r<|nI<|xS<|sQ<|rG<|lO (v:=.agg [.int .i64 f1.Params,.sl (f1.Slots.map LX),.sl (f1.Code.map LU)]) (z:=.agg [.int .i64 f1.Params,.sl (f1.Slots.map LX),.sl (f1.Code.map LU)]) r r r r r r<|lO (v:=.agg [.sl (l2.Out.map (eL Ed))]) (z:=.agg [.sl (l2.Out.map (eL Ed))]) r r r r r r<|bD fun r3 hr3=>cR (l:=r3) (en:=(eL Ed)) (f1,l2) r r r VY r r (by simp) r hr3 r<|aO (l:=r3) (en:=(eL Ed)) r r r r<|nI<|xS<|sQ<|rG<|aS r r<|nI<|xS<|sQ<|sQ<|rG<|aS r r<|nI<|xS<|bK<|lP (E:=fun (s : Int × Int) (g : Nat × Nat)=>[(2,.optr 2 g.1 0 0),(5,.osl 5 g.2 0 r3.length),(6,.int .i64 s.1),(7,.int .i64 s.2)]) (O:=fun s g=>[(2,some (g.1,⟨false,true,3,27,[.agg [.int .i64 f1.Params,.sl (f1.Slots.map LX),.sl (f1.Code.map LU)]]⟩)),(5,some (g.2,⟨false,false,1,36,r3.map (eL Ed)⟩))]) (body:=fun s=>PU r3 f1 s.1 s.2) (s:=(0,0)) (_,_) ((hE ⟨rfl,r,r,r,trivial⟩ ⟨rfl,r,trivial⟩))<|?_
 rintro ⟨most4,k5⟩ ⟨v2x1,v5x1⟩ nn
 try dsimp only
 unfold PU
 refine sQ<|sQ<|rG<|mV r r<|mV r r<|lW r r<|bN (v:=.bool (decide (k5 < (r3.length : Int)))) r r r r r<|nI<|xS<|cD (c:=(decide (k5 < (r3.length : Int)))) r ?_ ?_
 ·refine sK<|xS<|bC (E:=fun (s : Int) (g : Nat × Nat)=>[(2,.optr 2 g.1 0 0),(5,.osl 5 g.2 0 r3.length),(6,.int .i64 s),(7,.int .i64 k5)]) (O:=fun s g=>[(2,some (g.1,⟨false,true,3,27,[.agg [.int .i64 f1.Params,.sl (f1.Slots.map LX),.sl (f1.Code.map LU)]]⟩)),(5,some (g.2,⟨false,false,1,36,r3.map (eL Ed)⟩))]) (j:=fun s=>PW k5 s) ?_ ?_
  ·refine sQ<|rG<|aS r r<|nI<|xS<|sQ<|sQ<|rG<|aS r r<|nI<|xS<|bK<|lP (E:=fun (s : Int × Int) (g : Nat × Nat)=>[(2,.optr 2 g.1 0 0),(5,.osl 5 g.2 0 r3.length),(6,.int .i64 most4),(7,.int .i64 k5),(8,.int .i64 s.1),(9,.int .i64 s.2)]) (O:=fun s g=>[(2,some (g.1,⟨false,true,3,27,[.agg [.int .i64 f1.Params,.sl (f1.Slots.map LX),.sl (f1.Code.map LU)]]⟩)),(5,some (g.2,⟨false,false,1,36,r3.map (eL Ed)⟩))]) (body:=fun s=>PV k5 r3 f1 most4 s.1 s.2) (s:=(0,0)) (_,_) ((hE ⟨rfl,r,r,r,r,r,trivial⟩ ⟨rfl,r,trivial⟩))<|?_
   rintro ⟨sum7,i8⟩ ⟨v2x2,v5x2⟩ nn
   try dsimp only
   unfold PV
   refine sQ<|sQ<|rG<|mV r r<|mV r r<|mV r r<|cK fun hq=>iO (l:=r3) (en:=(eL Ed)) r r r r r hq<|bD fun ins_e9 hins_e9=>lO (v:=.sl (ins_e9.map Ed)) (z:=(eL Ed) ins_e9) r r r (Nh hins_e9) r r<|lS r r<|bN (v:=.bool (decide (i8 < (ins_e9.length : Int)))) r r r r r<|nI<|xS<|cD (c:=(decide (i8 < (ins_e9.length : Int)))) r ?_ ?_
   ·exact sK<|xS<|sQ<|bK<|rG<|mV r r<|fA r r<|lO (v:=.sl (f1.Slots.map LX)) (z:=.agg [.int .i64 f1.Params,.sl (f1.Slots.map LX),.sl (f1.Code.map LU)]) r r r r r r<|mV r r<|mV r r<|cK fun hq=>iO (l:=r3) (en:=(eL Ed)) r r r r r hq<|bD fun ins_e10 hins_e10=>lO (v:=.sl (ins_e10.map Ed)) (z:=(eL Ed) ins_e10) r r r (Nh hins_e10) r r<|mV r r<|bD fun x_x11 hx_x11=>iS (en:=Ed) r r r hx_x11 r<|lF (v:=.int .i64 x_x11) r r r r<|bD fun x_x12 hx_x12=>iS (en:=LX) r r r hx_x12 r<|fF r r<|lF (v:=.int .i64 x_x12.Size) r r r r<|bN (v:=.int .i64 (IntKind.i64.wrap (sum7 + x_x12.Size))) r r r r r<|aS r r<|Mp (by kernel_rfl)<|bM<|xS<|rG<|mV r r<|bN (v:=.int .i64 (IntKind.i64.wrap (i8 + 1))) r r r r r<|aS r r<|nI<|xL (s:=(IntKind.i64.wrap (sum7 + x_x12.Size),IntKind.i64.wrap (i8 + 1))) (_,_) ((hE ⟨rfl,r,r,r,r,r,trivial⟩ ⟨rfl,r,trivial⟩))
   ·exact eT<|xE<|lE<|bH<|xS<|rG<|mV r r<|mV r r<|Ls r r r<|aS r r<|nI<|Rf (s:=WH most4 sum7) (_,_) ((hE ⟨rfl,r,r,r,trivial⟩ ⟨rfl,r,trivial⟩))
  ·rintro most6 ⟨v2x3,v5x3⟩ nn
   try dsimp only
   unfold PW
   exact rG<|mV r r<|bN (v:=.int .i64 (IntKind.i64.wrap (k5 + 1))) r r r r r<|aS r r<|nI<|xL (s:=(most6,IntKind.i64.wrap (k5 + 1))) (_,_) ((hE ⟨rfl,r,r,r,trivial⟩ ⟨rfl,r,trivial⟩))
 ·refine eT<|xE<|lE<|bH<|xS<|sQ<|rG<|mV r r<|aS r r<|nI<|xS<|rT<|Mx (b:=most4) r ?_ r r ?_ r
  all_goals first|(simp;done)|(simp;omega)|rfl|(simp [Mf,LZ];done)

def AbO : Mj:=(.seq (.reg [P 2 (.asg (.c (.bool false)) none)] false) (.seq (.seq (.reg [P 6 (.call (.c (.clo 15 [])) []),P 7 (.un .not (T 6))] false) (.cond (T 7) (.seq (.reg [P 2 (.asg (.c (.bool false)) none)] false) .ret) .skip)) (.seq (.reg [M 9 0,P 10 (.call (.c (.clo 16 [])) [(T 9)]),M 8 10,P 11 (.ext (T 8) 0),P 12 (.ext (T 8) 1),P 13 (.ext (T 8) 2),P 3 (.new (.agg [(.int .i64 0),.nils,.nils]) 3 27),P 4 (.new (.agg [.nils]) 1 30),⟨none,(.st 3 (T 3) (T 11)),none,[]⟩,⟨none,(.st 1 (T 4) (T 12)),none,[]⟩,P 5 (.asg (T 13) none)] false) (.seq (.reg [P 14 (.ld 3 true (T 3)),P 15 (.ld 1 true (T 4)),⟨(some 16),(.call (.c (.clo 36 [])) [(T 14),(T 15)]),none,[0,1]⟩,P 17 (.ld 3 true (T 3)),P 18 (.ld 1 true (T 4)),⟨(some 19),(.call (.c (.clo 37 [])) [(T 17),(T 18)]),none,[3,4,2]⟩,⟨(some 20),(.call (.c (.clo 35 [])) [(T 16),(T 19)]),none,[2,5,5]⟩,⟨(some 21),(.mv (T 20)),none,[6,6]⟩,⟨(some 22),(.ld 3 true (T 3)),(some ⟨21,true⟩),[7]⟩,⟨(some 23),(.ld 1 true (T 4)),(some ⟨21,true⟩),[7]⟩,⟨(some 24),(.call (.c (.clo 32 [])) [(T 22),(T 23)]),(some ⟨21,true⟩),[8,9,7,7]⟩,⟨(some 25),(.ld 3 true (T 3)),(some ⟨21,true⟩),[7]⟩,⟨(some 26),(.ld 1 true (T 4)),(some ⟨21,true⟩),[7]⟩,⟨(some 27),(.call (.c (.clo 38 [])) [(T 25),(T 26)]),(some ⟨21,true⟩),[11,12,10,7]⟩,⟨(some 28),(.call (.c (.clo 31 [])) [(T 24),(T 27)]),(some ⟨21,true⟩),[10,13,13,7]⟩,⟨(some 29),(.pick (T 21) (T 28) (.c (.bool false))),none,[7,14]⟩,⟨(some 30),(.mv (T 29)),none,[15,14]⟩,⟨(some 31),(.ld 3 true (T 3)),(some ⟨30,true⟩),[16]⟩,⟨(some 32),(.ld 1 true (T 4)),(some ⟨30,true⟩),[16]⟩,⟨(some 33),(.call (.c (.clo 39 [])) [(T 31),(T 32)]),(some ⟨30,true⟩),[17,18,16,16]⟩,⟨(some 34),(.ld 3 true (T 3)),(some ⟨30,true⟩),[16]⟩,⟨(some 35),(.ld 1 true (T 4)),(some ⟨30,true⟩),[16]⟩,⟨(some 36),(.call (.c (.clo 40 [])) [(T 34),(T 35)]),(some ⟨30,true⟩),[20,21,19,16]⟩,⟨(some 37),(.bin .eql (T 33) (T 36)),(some ⟨30,true⟩),[19,22,16]⟩,⟨(some 38),(.pick (T 30) (T 37) (.c (.bool false))),none,[16,23]⟩,⟨(some 2),(.asg (T 38) none),none,[24,22,0,1,2,3,4,5,6,7,8,9,10,11,12,13,14,15,16,17,18,19,20,21,22,23,24]⟩] true) .ret))))
theorem Aec : (Tryd.f10.body.bind (Mn Tryd.prog Tryd.f10.ntmps)) = some AbO:=by kernel_rfl
theorem Aed : Tryd.f10.results.toList.mapM (MC Tryd.prog) = some [(.t 2)]:=by kernel_rfl
def Pg (a : (List Int)) : List D:=[.sl (a.map eU8)]
def Pf (ds : List D) : (List Int):=(uL uI) (ds.getD 0 .top)
theorem Sh (a : (List Int)) : Pf (Pg a) = a:=by simp [Pf,Pg,OH (u:=uI) (en:=eU8) (fun _=>rfl)]
def SV (b : Bool) : D:=.bool b
def SU (_b : Bool) : List D:=[]
noncomputable def WU : Dw.Spec:=Mk [] .ground Pg Pf (fun a=>Nt a) SV SU
set_option maxHeartbeats 4000000 in
theorem WG : Mi Tryd.prog 10 WU:=by
 refine MB (Mq (l:=[(15,UP),(16,UQ),(36,Qe),(37,Sj),(35,Pt),(32,Tx),(38,Rx),(31,Rv),(39,QW),(40,SK)]) (by simp [ZH,ZI,Wq,Yv,VQ,Zn,Yb,XY,XC,YP])) Tryd.func10 (by decide) Aec Aed (np:=1) (by decide) Sh (fun _=>r) (fun _=>r) (by decide)<|?_
 intro codes1
 show TrE (specs [(15,UP),(16,UQ),(36,Qe),(37,Sj),(35,Pt),(32,Tx),(38,Rx),(31,Rv),(39,QW),(40,SK)]) AbO (ME [] .ground [(.t 2)] SV SU) ⟨[(0,.sl (codes1.map eU8))],[],262144⟩ (Nt codes1)
 refine Mr<|?_
 unfold AbO Nt
 refine sQ<|rG<|aS r r<|nI<|xS<|sQ<|sQ<|rG<|bD fun r2 hr2=>cG () r r r WV r r (by simp) r hr2 r<|uN (w:=.bool (!r2)) r r r r trivial<|nI<|xS<|cD (c:=(!r2)) r ?_ ?_
 ·refine sQ<|rG<|aS r r<|nI<|xS<|rT<|xR<|Mx (b:=false) r ?_ r r ?_ r
  all_goals first|(simp;done)|(simp;omega)|rfl|(simp [Mf,LZ];done)
 ·refine sK<|xS<|sQ<|rG<|mV r r<|bD fun r3 hr3=>Lv (rs:=[MI r3.1,NP r3.2.1,Mu r3.2.2]) (z:=Mu r3.2.2) codes1 r r r WX r r (by simp) r hr3 r r<|mV r r<|eX (v:=.agg [.int .i64 r3.1.Params,.sl (r3.1.Slots.map LX),.sl (r3.1.Code.map LU)]) r r r<|eX (v:=.agg [.sl (r3.2.1.Out.map (eL Ed))]) r r r<|eX (v:=.optr 10 _ 0 0) r r r<|nW r<|nW r<|sV (z':=.agg [.int .i64 r3.1.Params,.sl (r3.1.Slots.map LX),.sl (r3.1.Code.map LU)]) r r r r r r r r r<|sV (z':=.agg [.sl (r3.2.1.Out.map (eL Ed))]) r r r r r r r r r<|aS r r<|nI<|xS<|sQ<|rG<|lO (v:=.agg [.int .i64 r3.1.Params,.sl (r3.1.Slots.map LX),.sl (r3.1.Code.map LU)]) (z:=.agg [.int .i64 r3.1.Params,.sl (r3.1.Slots.map LX),.sl (r3.1.Code.map LU)]) r r r r r r<|lO (v:=.agg [.sl (r3.2.1.Out.map (eL Ed))]) (z:=.agg [.sl (r3.2.1.Out.map (eL Ed))]) r r r r r r<|bD fun r4 hr4=>cR (l:=r4) (en:=(eL Ed)) (r3.1,r3.2.1) r r r Tu r r (by simp) r hr4 r<|lO (v:=.agg [.int .i64 r3.1.Params,.sl (r3.1.Slots.map LX),.sl (r3.1.Code.map LU)]) (z:=.agg [.int .i64 r3.1.Params,.sl (r3.1.Slots.map LX),.sl (r3.1.Code.map LU)]) r r r r r r<|lO (v:=.agg [.sl (r3.2.1.Out.map (eL Ed))]) (z:=.agg [.sl (r3.2.1.Out.map (eL Ed))]) r r r r r r<|bD fun r5 hr5=>cR (l:=r5) (en:=(eL Ed)) (r3.1,r3.2.1) r r r VY r r (by simp) r hr5 r<|bD fun r6 hr6=>cG (r4,r5) r r r SI r r (by simp) (by first | rfl | (simp only [Me]; rfl) | (simp only [Mh]; rfl) | (simp only [Me,Mh]; rfl) | simp [PT]) hr6 r<|mV r r<|sP 21 (b:=r6) r ?_ ?_
  ·refine lO (v:=.agg [.int .i64 r3.1.Params,.sl (r3.1.Slots.map LX),.sl (r3.1.Code.map LU)]) (z:=.agg [.int .i64 r3.1.Params,.sl (r3.1.Slots.map LX),.sl (r3.1.Code.map LU)]) r r r r r r<|lO (v:=.agg [.sl (r3.2.1.Out.map (eL Ed))]) (z:=.agg [.sl (r3.2.1.Out.map (eL Ed))]) r r r r r r<|bD fun r7 hr7=>cV (r3.1,r3.2.1) r r r VM r r (by simp) r hr7<|lO (v:=.agg [.int .i64 r3.1.Params,.sl (r3.1.Slots.map LX),.sl (r3.1.Code.map LU)]) (z:=.agg [.int .i64 r3.1.Params,.sl (r3.1.Slots.map LX),.sl (r3.1.Code.map LU)]) r r r r r r<|lO (v:=.agg [.sl (r3.2.1.Out.map (eL Ed))]) (z:=.agg [.sl (r3.2.1.Out.map (eL Ed))]) r r r r r r<|bD fun r8 hr8=>cV (r3.1,r3.2.1) r r r UY r r (by simp) r hr8<|bD fun r9 hr9=>cG (r7,r8) r r r UW r r (by simp) r hr9 r<|pT r r r r<|mV r r<|sP 30 (b:=r9) r ?_ ?_
   ·refine lO (v:=.agg [.int .i64 r3.1.Params,.sl (r3.1.Slots.map LX),.sl (r3.1.Code.map LU)]) (z:=.agg [.int .i64 r3.1.Params,.sl (r3.1.Slots.map LX),.sl (r3.1.Code.map LU)]) r r r r r r<|lO (v:=.agg [.sl (r3.2.1.Out.map (eL Ed))]) (z:=.agg [.sl (r3.2.1.Out.map (eL Ed))]) r r r r r r<|bD fun r10 hr10=>cG (r3.1,r3.2.1) r r r Tv r r (by simp) r hr10 r<|lO (v:=.agg [.int .i64 r3.1.Params,.sl (r3.1.Slots.map LX),.sl (r3.1.Code.map LU)]) (z:=.agg [.int .i64 r3.1.Params,.sl (r3.1.Slots.map LX),.sl (r3.1.Code.map LU)]) r r r r r r<|lO (v:=.agg [.sl (r3.2.1.Out.map (eL Ed))]) (z:=.agg [.sl (r3.2.1.Out.map (eL Ed))]) r r r r r r<|bD fun r11 hr11=>cG (r3.1,r3.2.1) r r r Vr r r (by simp) r hr11 r<|bN (v:=.bool (r10 == r11)) r r r r r<|pT r r r r<|aS r r<|Mp (by kernel_rfl)<|xS<|rT<|Mx (b:=(r10 == r11)) r ?_ r r ?_ r
    all_goals first|(simp;done)|(simp;omega)|rfl|(simp [Mf,LZ];done)
   ·refine oF r<|oF r<|oF r<|oF r<|oF r<|oF r<|oF r<|pF r r r r<|aS r r<|Mp (by kernel_rfl)<|xS<|rT<|Mx (b:=false) r ?_ r r ?_ r
    all_goals first|(simp;done)|(simp;omega)|rfl|(simp [Mf,LZ];done)
  ·refine oF r<|oF r<|oF r<|oF r<|oF r<|oF r<|oF r<|pF r r r r<|mV r r<|oF r<|oF r<|oF r<|oF r<|oF r<|oF r<|oF r<|pF r r r r<|aS r r<|Mp (by kernel_rfl)<|xS<|rT<|Mx (b:=false) r ?_ r r ?_ r
   all_goals first|(simp;done)|(simp;omega)|rfl|(simp [Mf,LZ];done)

end Go.Proofs.YtcelninhkmhjkaaDoor
