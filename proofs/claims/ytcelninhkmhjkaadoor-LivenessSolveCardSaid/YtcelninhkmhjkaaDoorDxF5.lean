/-
  Programs on typed data, and the proofs that the code does what they say; written by a program (dx.py).
-/
import Derived.Test.YtcelninhkmhjkaaDoorProg
import Derived.Test.YtcelninhkmhjkaaDoorDc
import Derived.KernelRfl
import Derived.Test.YtcelninhkmhjkaaDoorDxP
import Derived.Test.YtcelninhkmhjkaaDoorDxF1
import Derived.Test.YtcelninhkmhjkaaDoorDxF2
import Derived.Test.YtcelninhkmhjkaaDoorDxF3
import Derived.Test.YtcelninhkmhjkaaDoorDxF4
namespace Go.Proofs.YtcelninhkmhjkaaDoor
open Go Go.Dw Go.Proofs
set_option maxRecDepth 100000
open Go.Dw renaming Xr → mV,VP → bN,Ra → lO,UX → bD,VS → cK,VU → nI,VX → xS,Xt → rG,Xv → sQ,VO → aS,VV → oF,VQ → bL,QK → cV,Qs → cG,QJ → cR,VN → aP,Rb → sV,To → sE,SB → iS,RC → iO,SD → lS,RD → lW,UY → fA,Yw → eX,Tj → lF,TF → sP,PV → pT,PE → pF,Ym → uN,VT → nW,VR → bX,Wq → aL,VY → cD,Vd → bK,Xu → rT,Wb → sK,VZ → eT,VW → xC,Vb → xL,Ts → xR,Vc → lR,TD → hE,PW → lE,QL → bH,PF → bM,Tq → bR,QM → xE,Xq → cP,Wa → lP,SF → sC,Tk → bC,rf → r
def AaP : LJ:=(.seq (.reg [P 3 (.box (T 1) 3 27),P 4 (.new (.agg [.nils]) 1 30)] false) (.seq (.reg [P 10 (.ld 3 true (T 3)),P 11 (.call (.c (.clo 24 [])) [(T 10)]),P 5 (.new (.agg [.nils]) 1 30),⟨none,(.st 1 (T 5) (T 11)),none,[]⟩] false) (.seq (.reg [P 12 (.fldA 0 (T 5)),P 13 (.ld 1 false (T 12)),P 14 (.app 1 36 24 (.c .nils) (T 13)),⟨(some 15),(.bld [.nils] [⟨0,⟨1,(T 14)⟩⟩]),none,[]⟩,P 6 (.new (.agg [.nils]) 1 30),⟨none,(.st 1 (T 6) (T 15)),none,[]⟩] false) (.seq (.seq (.reg [M 16 0,P 17 (.call (.c (.clo 54 [])) [(T 16),(C 3)]),P 7 (.asg (T 17) none)] false) (.block 0 (.loop (.seq (.seq (.reg [M 18 7,P 19 (.bin .gtr (T 18) (C 0)),M 20 19,⟨(some 21),(.fldA 1 (T 3)),(some ⟨20,true⟩),[]⟩,⟨(some 22),(.ld 1 false (T 21)),(some ⟨20,true⟩),[]⟩,⟨(some 23),(.len false (T 22)),(some ⟨20,true⟩),[]⟩,⟨(some 24),(.bin .gtr (T 23) (C 0)),(some ⟨20,true⟩),[]⟩,P 25 (.pick (T 20) (T 24) (.c (.bool false)))] false) (.cond (T 25) .skip (.exit 0))) (.seq (.block 1 (.seq (.reg [M 28 0,P 29 (.fldA 1 (T 3)),P 30 (.ld 1 false (T 29)),P 31 (.len false (T 30)),P 32 (.call (.c (.clo 54 [])) [(T 28),(T 31)]),P 8 (.asg (T 32) none)] false) (.seq (.reg [P 9 (.asg (C 0) none)] false) (.block 2 (.loop (.seq (.seq (.reg [M 33 9,P 34 (.fldA 0 (T 6)),P 35 (.ld 1 false (T 34)),P 36 (.len false (T 35)),P 37 (.bin .lss (T 33) (T 36))] false) (.cond (T 37) .skip (.exit 2))) (.seq (.block 3 (.reg [P 40 (.fldA 0 (T 6)),⟨(some 41),(.ld 1 false (T 40)),none,[0]⟩,M 42 9,P 43 (.fldA 0 (T 6)),⟨(some 44),(.ld 1 false (T 43)),none,[3]⟩,M 45 9,⟨(some 46),(.ixA 1 (T 44) (T 45)),none,[4,5]⟩,⟨(some 47),(.ld 1 false (T 46)),none,[6]⟩,M 48 8,⟨(some 49),(.call (.c (.clo 44 [])) [(T 47),(T 48)]),none,[7,8]⟩,⟨(some 50),(.ixA 1 (T 41) (T 42)),none,[1,2,0,1,2,3,4,5,6,7,8,9]⟩,⟨none,(.st 1 (T 50) (T 49)),none,[10,9,9,0,1,2,3,4,5,6,7,8,9]⟩] true)) (.reg [M 38 9,P 39 (.bin .add (T 38) (C 1)),P 9 (.asg (T 39) none)] false)))))))) (.reg [M 26 7,P 27 (.bin .sub (T 26) (C 1)),P 7 (.asg (T 27) none)] false)))))) (.seq (.reg [P 51 (.ld 1 true (T 6)),⟨none,(.st 1 (T 4) (T 51)),none,[]⟩] false) .ret)))))
theorem Ada : (Tryd.f26.body.bind (LM Tryd.prog Tryd.f26.ntmps)) = some AaP:=by kernel_rfl
theorem Adb : Tryd.f26.results.toList.mapM (Me Tryd.prog) = some [(.c 4 1 true)]:=by kernel_rfl
def PK (a : Ed × LA) : List D:=[LQ a.1,Mv a.2]
def PJ (ds : List D) : Ed × LA:=(MZ (ds.getD 0 .top),Rc (ds.getD 1 .top))
theorem SI (a : Ed × LA) : PJ (PK a) = a:=by simp [PJ,PK]
def OV (b : LK × Ed) : D:=OZ b.1
def Tw (b : LK × Ed) : List D:=[LQ b.2]
noncomputable def Qv : Dw.Spec:=LL [(0,(2,100))] .val PK PJ (fun a=>NI a.1 a.2) OV Tw
set_option maxHeartbeats 4000000 in
theorem WQ : LI Tryd.prog 26 Qv:=by
 refine Mg (LV (l:=[(24,PU),(54,LP),(44,Rz)]) (by simp [VM,MB,Xc])) Tryd.func26 (by decide) Ada Adb (np:=2) (by decide) SI (fun _=>r) (fun _=>r) (by decide)<|?_
 rintro ⟨c1,f2⟩
 show TrE (specs [(24,PU),(54,LP),(44,Rz)]) AaP (Mi [(0,(2,100))] .val [(.c 4 1 true)] OV Tw) ⟨[(0,.optr 8192 0 0 0),(1,.agg [.int .i64 f2.Params,.sl (f2.Slots.map LB),.sl (f2.Code.map Lx)])],[(8192,some (0,⟨false,true,2,100,[.agg [.sl (c1.list.map eU8),.int .i64 c1.at_]]⟩))],262144⟩ (NI c1 f2)
 refine LW<|?_
 unfold AaP NI
 refine sQ<|rG<|bX r r r r r<|nW r<|nI<|xS<|sQ<|rG<|lO (v:=.agg [.int .i64 f2.Params,.sl (f2.Slots.map LB),.sl (f2.Code.map Lx)]) (z:=.agg [.int .i64 f2.Params,.sl (f2.Slots.map LB),.sl (f2.Code.map Lx)]) r r r r r r<|bD fun r3 hr3=>cV f2 r r r Tg r r (by simp) r hr3<|nW r<|sV (z':=.agg [.sl (r3.Out.map (eL Lu))]) r r r r r r r r r<|nI<|xS<|sQ<|rG<|fA r r<|lO (v:=.sl (r3.Out.map (eL Lu))) (z:=.agg [.sl (r3.Out.map (eL Lu))]) r r r r r r<|cK fun hq=>aP (([] : List (List Int))) (r3.Out) (eL Lu) r r r r r r r (by simp) r r r (by simp) r (fun _=>r) r hq<|bL (cs:=[.osl 14 _ 0 ((([] : List (List Int)) ++ r3.Out).length)]) (ps:=[(0,1,.osl 14 _ 0 ((([] : List (List Int)) ++ r3.Out).length))]) r r r r<|nW r<|sV (z':=.agg [.osl 14 _ 0 ((([] : List (List Int)) ++ r3.Out).length)]) r r r r r r r r r<|nI<|xS<|sQ<|sQ<|rG<|mV r r<|bD fun r4 hr4=>cV (c1,3) r r r LC r r (by simp) r hr4<|aS r r<|nI<|xS<|bK<|lP (E:=fun (s : (List Int) × Int × (List (List Int)) × Int) (g : Nat × Nat × Nat × Nat)=>[(0,.optr 8192 0 0 0),(3,.optr 3 g.1 0 0),(4,.optr 4 g.2.1 0 0),(6,.optr 6 g.2.2.1 0 0),(7,.int .i64 s.2.2.2)]) (O:=fun s g=>[(3,some (g.1,⟨false,true,3,27,[.agg [.int .i64 f2.Params,.sl (f2.Slots.map LB),.sl (f2.Code.map Lx)]]⟩)),(4,some (g.2.1,⟨false,true,1,30,[.agg [.nils]]⟩)),(6,some (g.2.2.1,⟨false,true,1,30,[.agg [.osl 14 g.2.2.2 0 s.2.2.1.length]]⟩)),(14,some (g.2.2.2,⟨false,false,1,36,s.2.2.1.map (eL Lu)⟩)),(8192,some (0,⟨false,true,2,100,[.agg [.sl (s.1.map eU8),.int .i64 s.2.1]]⟩))]) (body:=fun s=>Oy f2 s.1 s.2.1 s.2.2.1 s.2.2.2) (s:=(r4.2.list,r4.2.at_,([] : List (List Int)) ++ r3.Out,r4.1)) (_,_,_,_) ((hE ⟨rfl,r,r,r,r,trivial⟩ ⟨rfl,r,r,r,r,trivial⟩))<|?_
 rintro ⟨c5,c6,x7,n8⟩ ⟨v3x1,v4x1,v6x1,v14x1⟩ nn
 try dsimp only
 unfold Oy
 refine sC (E:=fun (s : Unit) (g : Nat × Nat × Nat × Nat)=>[(0,.optr 8192 0 0 0),(3,.optr 3 g.1 0 0),(4,.optr 4 g.2.1 0 0),(6,.optr 6 g.2.2.1 0 0),(7,.int .i64 n8),(21,.optr 3 g.1 0 1),(22,.sl (f2.Slots.map LB)),(23,.int .i64 (f2.Slots.length : Int)),(24,.bool (decide ((f2.Slots.length : Int) > 0)))]) (O:=fun s g=>[(3,some (g.1,⟨false,true,3,27,[.agg [.int .i64 f2.Params,.sl (f2.Slots.map LB),.sl (f2.Code.map Lx)]]⟩)),(4,some (g.2.1,⟨false,true,1,30,[.agg [.nils]]⟩)),(6,some (g.2.2.1,⟨false,true,1,30,[.agg [.osl 14 g.2.2.2 0 x7.length]]⟩)),(14,some (g.2.2.2,⟨false,false,1,36,x7.map (eL Lu)⟩)),(8192,some (0,⟨false,true,2,100,[.agg [.sl (c5.map eU8),.int .i64 c6]]⟩))]) (j:=fun s=>OA c5 c6 f2 n8 x7) ?_ ?_
 ·refine sQ<|rG<|mV r r<|bN (v:=.bool (decide (n8 > 0))) r r r r r<|mV r r<|sP 20 (b:=(decide (n8 > 0))) r ?_ ?_
  ·refine fA r r<|lO (v:=.sl (f2.Slots.map LB)) (z:=.agg [.int .i64 f2.Params,.sl (f2.Slots.map LB),.sl (f2.Code.map Lx)]) r r r r r r<|lS r r<|bN (v:=.bool (decide ((f2.Slots.length : Int) > 0))) r r r r r<|pT r r r r<|nI<|xS<|cD (c:=(decide ((f2.Slots.length : Int) > 0))) r ?_ ?_
   ·exact sK<|xC (s:=()) (_,_,_,_) ((hE ⟨rfl,r,r,r,r,r,r,r,r,trivial⟩ ⟨rfl,r,r,r,r,trivial⟩))
   ·refine eT<|Xs<|lE<|bH<|xS<|sQ<|rG<|lO (v:=.agg [.osl 14 _ 0 x7.length]) (z:=.agg [.osl 14 _ 0 x7.length]) r r r r r r<|sV (z':=.agg [.osl 14 _ 0 x7.length]) r r r r r r r r r<|nI<|xS<|rT<|MI (b:=((LK.mk x7),(Ed.mk c5 c6))) r ?_ r r ?_ (by first | rfl | (simp only [Ma,Ml]; rfl) | simp [OV,OZ])
    all_goals first|(simp;done)|(simp;omega)|rfl|(simp [LG,LD];done)
  ·refine oF r<|oF r<|oF r<|oF r<|pF r r r r<|nI<|xS<|WO r<|eT<|Xs<|lE<|bH<|xS<|sQ<|rG<|lO (v:=.agg [.osl 14 _ 0 x7.length]) (z:=.agg [.osl 14 _ 0 x7.length]) r r r r r r<|sV (z':=.agg [.osl 14 _ 0 x7.length]) r r r r r r r r r<|nI<|xS<|rT<|MI (b:=((LK.mk x7),(Ed.mk c5 c6))) r ?_ r r ?_ (by first | rfl | (simp only [Ma,Ml]; rfl) | simp [OV,OZ])
   all_goals first|(simp;done)|(simp;omega)|rfl|(simp [LG,LD];done)
 ·rintro ⟨⟩ ⟨v3x2,v4x2,v6x2,v14x2⟩ nn
  try dsimp only
  unfold OA
  refine bC (E:=fun (s : (List Int) × Int × (List (List Int))) (g : Nat × Nat × Nat × Nat)=>[(0,.optr 8192 0 0 0),(3,.optr 3 g.1 0 0),(4,.optr 4 g.2.1 0 0),(6,.optr 6 g.2.2.1 0 0),(7,.int .i64 n8),(21,.optr 3 g.1 0 1),(22,.sl (f2.Slots.map LB)),(23,.int .i64 (f2.Slots.length : Int)),(24,.bool (decide ((f2.Slots.length : Int) > 0)))]) (O:=fun s g=>[(3,some (g.1,⟨false,true,3,27,[.agg [.int .i64 f2.Params,.sl (f2.Slots.map LB),.sl (f2.Code.map Lx)]]⟩)),(4,some (g.2.1,⟨false,true,1,30,[.agg [.nils]]⟩)),(6,some (g.2.2.1,⟨false,true,1,30,[.agg [.osl 14 g.2.2.2 0 s.2.2.length]]⟩)),(14,some (g.2.2.2,⟨false,false,1,36,s.2.2.map (eL Lu)⟩)),(8192,some (0,⟨false,true,2,100,[.agg [.sl (s.1.map eU8),.int .i64 s.2.1]]⟩))]) (j:=fun s=>OB n8 s.1 s.2.1 s.2.2) ?_ ?_
  ·refine sQ<|rG<|mV r r<|fA r r<|lO (v:=.sl (f2.Slots.map LB)) (z:=.agg [.int .i64 f2.Params,.sl (f2.Slots.map LB),.sl (f2.Code.map Lx)]) r r r r r r<|lS r r<|bD fun r12 hr12=>cV ((Ed.mk c5 c6),(f2.Slots.length : Int)) r r r LC r r (by simp) r hr12<|aS r r<|nI<|xS<|sQ<|rG<|aS r r<|nI<|xS<|bK<|lP (E:=fun (s : (List (List Int)) × Int) (g : Nat × Nat × Nat × Nat)=>[(0,.optr 8192 0 0 0),(3,.optr 3 g.1 0 0),(4,.optr 4 g.2.1 0 0),(6,.optr 6 g.2.2.1 0 0),(7,.int .i64 n8),(8,.int .i64 r12.1),(9,.int .i64 s.2),(21,.optr 3 g.1 0 1),(22,.sl (f2.Slots.map LB)),(23,.int .i64 (f2.Slots.length : Int)),(24,.bool (decide ((f2.Slots.length : Int) > 0)))]) (O:=fun s g=>[(3,some (g.1,⟨false,true,3,27,[.agg [.int .i64 f2.Params,.sl (f2.Slots.map LB),.sl (f2.Code.map Lx)]]⟩)),(4,some (g.2.1,⟨false,true,1,30,[.agg [.nils]]⟩)),(6,some (g.2.2.1,⟨false,true,1,30,[.agg [.osl 14 g.2.2.2 0 s.1.length]]⟩)),(14,some (g.2.2.2,⟨false,false,1,36,s.1.map (eL Lu)⟩)),(8192,some (0,⟨false,true,2,100,[.agg [.sl (r12.2.list.map eU8),.int .i64 r12.2.at_]]⟩))]) (body:=fun s=>Oz r12 n8 s.1 s.2) (s:=(x7,0)) (_,_,_,_) ((hE ⟨rfl,r,r,r,r,r,r,r,r,r,r,trivial⟩ ⟨rfl,r,r,r,r,trivial⟩))<|?_
   rintro ⟨x13,k14⟩ ⟨v3x3,v4x3,v6x3,v14x3⟩ nn
   try dsimp only
   unfold Oz
   refine sQ<|sQ<|rG<|mV r r<|fA r r<|lO (v:=.osl 14 _ 0 x13.length) (z:=.agg [.osl 14 _ 0 x13.length]) r r r r r r<|lW r r<|bN (v:=.bool (decide (k14 < (x13.length : Int)))) r r r r r<|nI<|xS<|cD (c:=(decide (k14 < (x13.length : Int)))) r ?_ ?_
   ·exact sK<|xS<|sQ<|bK<|rG<|fA r r<|lO (v:=.osl 14 _ 0 x13.length) (z:=.agg [.osl 14 _ 0 x13.length]) r r r r r r<|mV r r<|fA r r<|lO (v:=.osl 14 _ 0 x13.length) (z:=.agg [.osl 14 _ 0 x13.length]) r r r r r r<|mV r r<|cK fun hq=>iO (l:=x13) (en:=(eL Lu)) r r r r r hq<|bD fun x_e15 hx_e15=>lO (v:=.sl (x_e15.map Lu)) (z:=(eL Lu) x_e15) r r r (NG hx_e15) r r<|mV r r<|bD fun r16 hr16=>cR (l:=r16) (en:=Lu) (x_e15,r12.1) r r r UJ r r (by simp) r hr16 r<|cK fun hq=>iO (l:=x13) (en:=(eL Lu)) r r r r r hq<|bD fun x_o17 hx_o17=>sE (l:=x13) (en:=(eL Lu)) (q':=r16) r r r r r r r (by simp) hx_o17 r r r (by simp [Mk,cells,setAt,eL]) r<|Md (by kernel_rfl)<|bM<|xS<|rG<|mV r r<|bN (v:=.int .i64 (IntKind.i64.wrap (k14 + 1))) r r r r r<|aS r r<|nI<|xL (s:=(x13.set k14.toNat r16,IntKind.i64.wrap (k14 + 1))) (_,_,_,_) ((hE ⟨rfl,r,r,r,r,r,r,r,r,r,r,trivial⟩ ⟨rfl,r,(Eq.trans (b:=some (_,⟨false,true,1,30,[.agg [.osl 14 _ 0 x13.length]]⟩)) r (by simp)),r,r,trivial⟩))
   ·exact eT<|xE<|lE<|bH<|SE (s:=(r12.2.list,r12.2.at_,x13)) (_,_,_,_) ((hE ⟨rfl,r,r,r,r,r,r,r,r,trivial⟩ ⟨rfl,r,r,r,r,trivial⟩))
  ·rintro ⟨c9,c10,x11⟩ ⟨v3x4,v4x4,v6x4,v14x4⟩ nn
   try dsimp only
   unfold OB
   exact rG<|mV r r<|bN (v:=.int .i64 (IntKind.i64.wrap (n8 - 1))) r r r r r<|aS r r<|nI<|xL (s:=(c9,c10,x11,IntKind.i64.wrap (n8 - 1))) (_,_,_,_) ((hE ⟨rfl,r,r,r,r,trivial⟩ ⟨rfl,r,r,r,r,trivial⟩))

def AaM : LJ:=(.seq (.reg [P 2 (.new (.agg [(.int .i64 0),.nils,.nils]) 3 27),P 3 (.new (.agg [.nils]) 1 30),P 4 (.asg (.c .top) none)] false) (.seq (.reg [M 8 0,P 9 (.call (.c (.clo 52 [])) [(T 8),(C 250)]),P 5 (.asg (T 9) none)] false) (.seq (.reg [M 10 5,P 11 (.call (.c (.clo 53 [])) [(T 10),(C 3),(C 16)]),P 6 (.new (.agg [.nils]) 1 70),⟨none,(.st 1 (T 6) (T 11)),none,[]⟩] false) (.seq (.reg [P 12 (.fldA 0 (T 6)),⟨(some 13),(.ld 1 false (T 12)),none,[0]⟩,M 14 5,P 15 (.fldA 0 (T 6)),⟨(some 16),(.ld 1 false (T 15)),none,[3]⟩,⟨(some 17),(.len false (T 16)),none,[4]⟩,⟨(some 18),(.call (.c (.clo 54 [])) [(T 14),(T 17)]),none,[2,5]⟩,⟨(some 19),(.ixA 3 (T 13) (T 18)),none,[1,6]⟩,⟨(some 20),(.ld 3 true (T 19)),none,[7]⟩,P 7 (.new (.agg [(.int .i64 0),.nils,.nils]) 3 27),⟨none,(.st 3 (T 7) (T 20)),none,[9,8,6,0,1,2,3,4,5,6,7,8,9]⟩] true) (.seq (.reg [P 21 (.ld 3 true (T 7)),M 22 5,P 23 (.ld 3 true (T 7)),⟨(some 24),(.call (.c (.clo 26 [])) [(T 22),(T 23)]),none,[1,2]⟩,M 25 5,⟨none,(.st 3 (T 2) (T 21)),none,[0,3,0]⟩,⟨none,(.st 1 (T 3) (T 24)),none,[3,5,0,1,2,3,5]⟩,⟨(some 4),(.asg (T 25) none),none,[4,6,0,1,2,3,4,5,6]⟩] true) .ret)))))
theorem AcU : (Tryd.f16.body.bind (LM Tryd.prog Tryd.f16.ntmps)) = some AaM:=by kernel_rfl
theorem AcV : Tryd.f16.results.toList.mapM (Me Tryd.prog) = some [(.c 2 3 true),(.c 3 1 true),(.t 4)]:=by kernel_rfl
def Ss (a : (List Int)) : List D:=[.sl (a.map eU8)]
def Sr (ds : List D) : (List Int):=(uL uI) (ds.getD 0 .top)
theorem VI (a : (List Int)) : Sr (Ss a) = a:=by simp [Sr,Ss,NT (u:=uI) (en:=eU8) (fun _=>rfl)]
def WC (b : LA × LK × Ed) : D:=.tup [Mv b.1,OZ b.2.1,LQ b.2.2]
def WB (_b : LA × LK × Ed) : List D:=[]
noncomputable def TR : Dw.Spec:=LL [] (.tupPtr 2 2 100) Ss Sr (fun a=>PY a) WC WB
set_option maxHeartbeats 4000000 in
theorem Ys : LI Tryd.prog 16 TR:=by
 refine Mg (LV (l:=[(52,Wj),(53,PL),(54,LP),(26,Qv)]) (by simp [Zy,VE,MB,WQ])) Tryd.func16 (by decide) AcU AcV (np:=1) (by decide) VI (fun _=>r) (fun _=>r) (by decide)<|?_
 intro codes1
 show TrE (specs [(52,Wj),(53,PL),(54,LP),(26,Qv)]) AaM (Mi [] (.tupPtr 2 2 100) [(.c 2 3 true),(.c 3 1 true),(.t 4)] WC WB) ⟨[(0,.sl (codes1.map eU8))],[],262144⟩ (PY codes1)
 refine LW<|?_
 unfold AaM PY
 refine sQ<|rG<|nW r<|nW r<|aS r r<|nI<|xS<|sQ<|rG<|mV r r<|bD fun r2 hr2=>cP (codes1,250) r r r XH r r (by simp) r hr2<|aS r r<|nI<|xS<|sQ<|rG<|mV r r<|bD fun r3 hr3=>cV (r2,3,16) r r r RU r r (by simp) r hr3<|nW r<|sV (z':=.agg [.sl (r3.1.Funcs.map Mv)]) r r r r r r r r r<|nI<|xS<|sQ<|rG<|fA r r<|lO (v:=.sl (r3.1.Funcs.map Mv)) (z:=.agg [.sl (r3.1.Funcs.map Mv)]) r r r r r r<|mV r r<|fA r r<|lO (v:=.sl (r3.1.Funcs.map Mv)) (z:=.agg [.sl (r3.1.Funcs.map Mv)]) r r r r r r<|lS r r<|bD fun r4 hr4=>cV (r3.2,(r3.1.Funcs.length : Int)) r r r LC r r (by simp) r hr4<|bD fun x_x5 hx_x5=>iS (en:=Mv) r r r hx_x5 r<|lF (v:=.agg [.int .i64 x_x5.Params,.sl (x_x5.Slots.map LB),.sl (x_x5.Code.map Lx)]) r r r r<|nW r<|sV (z':=.agg [.int .i64 x_x5.Params,.sl (x_x5.Slots.map LB),.sl (x_x5.Code.map Lx)]) r r r r r r r r r<|Md (by kernel_rfl)<|xS<|sQ<|rG<|lO (v:=.agg [.int .i64 x_x5.Params,.sl (x_x5.Slots.map LB),.sl (x_x5.Code.map Lx)]) (z:=.agg [.int .i64 x_x5.Params,.sl (x_x5.Slots.map LB),.sl (x_x5.Code.map Lx)]) r r r r r r<|mV r r<|lO (v:=.agg [.int .i64 x_x5.Params,.sl (x_x5.Slots.map LB),.sl (x_x5.Code.map Lx)]) (z:=.agg [.int .i64 x_x5.Params,.sl (x_x5.Slots.map LB),.sl (x_x5.Code.map Lx)]) r r r r r r<|bD fun r6 hr6=>cV (r4.2,x_x5) r r r SI r r (by simp) r hr6<|mV r r<|sV (z':=.agg [.int .i64 x_x5.Params,.sl (x_x5.Slots.map LB),.sl (x_x5.Code.map Lx)]) r r r r r r r r r<|sV (z':=.agg [.sl (r6.1.Out.map (eL Lu))]) r r r r r r r r r<|aS r r<|Md (by kernel_rfl)<|xS<|rT<|Aab (b:=(x_x5,r6.1,r6.2)) (by decide) (by decide) r ?_ r ?_ r ?_ r ?_ r r ?_ r
 all_goals first|(simp;done)|(simp;omega)|rfl|(simp [LG,LD];done)

def Abi : LJ:=(.seq (.reg [P 6 (.asg (.c (.bool false)) none)] false) (.seq (.seq (.reg [M 10 0,P 11 (.len false (T 10)),M 12 1,P 13 (.len false (T 12)),P 14 (.bin .neq (T 11) (T 13))] false) (.cond (T 14) (.seq (.reg [P 6 (.asg (.c (.bool false)) none)] false) .ret) .skip)) (.seq (.seq (.reg [M 15 0,P 16 (.len false (T 15)),P 17 (.mv (C 0))] false) (.block 0 (.loop (.seq (.reg [P 18 (.bin .lss (T 17) (T 16))] false) (.seq (.cond (T 18) .skip (.exit 0)) (.seq (.block 1 (.seq (.reg [M 19 17,P 20 (.ixA 1 (T 15) (T 17)),P 21 (.ld 1 false (T 20)),P 7 (.asg (T 19) none),⟨(some 8),(.asg (T 21) (some ⟨1,3⟩)),none,[]⟩] false) (.seq (.reg [M 22 1,M 23 7,P 24 (.ixA 1 (T 22) (T 23)),P 25 (.ld 1 false (T 24)),⟨(some 9),(.asg (T 25) (some ⟨1,3⟩)),none,[]⟩] false) (.seq (.reg [M 26 2,M 27 8,M 28 9,P 29 (.call (T 26) [(T 27),(T 28)]),P 30 (.un .not (T 29))] false) (.cond (T 30) (.seq (.reg [P 6 (.asg (.c (.bool false)) none)] false) .ret) .skip))))) (.reg [P 31 (.bin .add (T 17) (C 1)),M 17 31] false))))))) (.seq (.reg [P 6 (.asg (.c (.bool true)) none)] false) .ret))))
theorem AdP : (Tryd.f71.body.bind (LM Tryd.prog Tryd.f71.ntmps)) = some Abi:=by kernel_rfl
theorem AdQ : Tryd.f71.results.toList.mapM (Me Tryd.prog) = some [(.t 6)]:=by kernel_rfl
def Mt (a : (List (List Int)) × (List (List Int))) : List D:=[.sl (a.1.map (eL Lu)),.sl (a.2.map (eL Lu)),.clo 59 []]
def Mr (ds : List D) : (List (List Int)) × (List (List Int)):=((uL (uL uI)) (ds.getD 0 .top),(uL (uL uI)) (ds.getD 1 .top))
theorem MR (a : (List (List Int)) × (List (List Int))) : Mr (Mt a) = a:=by simp [Mr,Mt,NT (u:=(uL uI)) (en:=(eL Lu)) (NT (u:=uI) (en:=Lu) (fun _=>rfl))]
def MW (b : Bool) : D:=.bool b
def MV (_b : Bool) : List D:=[]
noncomputable def Mh : Dw.Spec:=LL [] .ground Mt Mr (fun a=>LZ a.1 a.2) MW MV
set_option maxHeartbeats 4000000 in
theorem Oo : LI Tryd.prog 71 Mh:=by
 refine Mg (LV (l:=[(59,Nj)]) (by simp [Re])) Tryd.func71 (by decide) AdP AdQ (np:=3) (by decide) MR (fun _=>r) (fun _=>r) (by decide)<|?_
 rintro ⟨s11,s22⟩
 show TrE (specs [(59,Nj)]) Abi (Mi [] .ground [(.t 6)] MW MV) ⟨[(0,.sl (s11.map (eL Lu))),(1,.sl (s22.map (eL Lu))),(2,.clo 59 [])],[],262144⟩ (LZ s11 s22)
 refine LW<|?_
 unfold Abi LZ
 refine sQ<|rG<|aS r r<|nI<|xS<|sQ<|sQ<|rG<|mV r r<|lS r r<|mV r r<|lS r r<|bN (v:=.bool ((s11.length : Int) != (s22.length : Int))) r r r r r<|nI<|xS<|cD (c:=((s11.length : Int) != (s22.length : Int))) r ?_ ?_
 ·refine sQ<|rG<|aS r r<|nI<|xS<|rT<|xR<|LR (b:=false) r ?_ r r ?_ r
  all_goals first|(simp;done)|(simp;omega)|rfl|(simp [LG,LD];done)
 ·refine sK<|xS<|sQ<|sQ<|rG<|mV r r<|lS r r<|mV r r<|nI<|xS<|bK<|lP (E:=fun (s : Int) (g : Unit)=>[(1,.sl (s22.map (eL Lu))),(2,.clo 59 []),(15,.sl (s11.map (eL Lu))),(16,.int .i64 (s11.length : Int)),(17,.int .i64 s)]) (O:=fun s g=>[]) (body:=fun s=>LU s11 s22 s) (s:=0) () ((hE ⟨rfl,r,r,r,r,trivial⟩ trivial))<|?_
  rintro x3 ⟨⟩ nn
  try dsimp only
  unfold LU
  refine sQ<|rG<|bN (v:=.bool (decide (x3 < (s11.length : Int)))) r r r r r<|nI<|xS<|sQ<|cD (c:=(decide (x3 < (s11.length : Int)))) r ?_ ?_
  ·refine sK<|xS<|sQ<|bK<|sQ<|rG<|mV r r<|bD fun x_x4 hx_x4=>iS (en:=(eL Lu)) r r r hx_x4 r<|lF (v:=.sl (x_x4.map Lu)) r r r r<|aS r r<|aL r r<|nI<|xS<|sQ<|rG<|mV r r<|mV r r<|bD fun x_x5 hx_x5=>iS (en:=(eL Lu)) r r r hx_x5 r<|lF (v:=.sl (x_x5.map Lu)) r r r r<|aL r r<|nI<|xS<|sQ<|rG<|mV r r<|mV r r<|mV r r<|bD fun r6 hr6=>cG (x_x4,x_x5) r r r OM r r (by simp) r hr6 r<|uN (w:=.bool (!r6)) r r r r trivial<|nI<|xS<|cD (c:=(!r6)) r ?_ ?_
   ·refine sQ<|rG<|aS r r<|nI<|xS<|rT<|bR<|xR<|lR<|bR<|xR<|LR (b:=false) r ?_ r r ?_ r
    all_goals first|(simp;done)|(simp;omega)|rfl|(simp [LG,LD];done)
   ·exact sK<|bM<|xS<|rG<|bN (v:=.int .i64 (IntKind.i64.wrap (x3 + 1))) r r r r r<|mV r r<|nI<|xL (s:=IntKind.i64.wrap (x3 + 1)) () ((hE ⟨rfl,r,r,r,r,trivial⟩ trivial))
  ·refine eT<|xE<|lE<|bH<|xS<|sQ<|rG<|aS r r<|nI<|xS<|rT<|LR (b:=true) r ?_ r r ?_ r
   all_goals first|(simp;done)|(simp;omega)|rfl|(simp [LG,LD];done)

def AaT : LJ:=(.seq (.reg [P 2 (.box (T 0) 1 30),P 3 (.box (T 1) 1 30),P 4 (.asg (.c (.bool false)) none)] false) (.seq (.reg [P 5 (.fldA 0 (T 2)),P 6 (.ld 1 false (T 5)),P 7 (.fldA 0 (T 3)),P 8 (.ld 1 false (T 7)),P 9 (.call (.c (.clo 71 [])) [(T 6),(T 8),(.c (.clo 59 []))]),P 4 (.asg (T 9) none)] false) .ret))
theorem Adj : (Tryd.f33.body.bind (LM Tryd.prog Tryd.f33.ntmps)) = some AaT:=by kernel_rfl
theorem Adk : Tryd.f33.results.toList.mapM (Me Tryd.prog) = some [(.t 4)]:=by kernel_rfl
def Ro (a : LK × LK) : List D:=[OZ a.1,OZ a.2]
def Rn (ds : List D) : LK × LK:=(Wv (ds.getD 0 .top),Wv (ds.getD 1 .top))
theorem UH (a : LK × LK) : Rn (Ro a) = a:=by simp [Rn,Ro]
def Vj (b : Bool) : D:=.bool b
def Vi (_b : Bool) : List D:=[]
noncomputable def Su : Dw.Spec:=LL [] .ground Ro Rn (fun a=>ON a.1 a.2) Vj Vi
set_option maxHeartbeats 4000000 in
theorem XW : LI Tryd.prog 33 Su:=by
 refine Mg (LV (l:=[(245831,Mh)]) (by simp [Oo])) Tryd.func33 (by decide) Adj Adk (np:=2) (by decide) UH (fun _=>r) (fun _=>r) (by decide)<|?_
 rintro ⟨a1,b2⟩
 show TrE (specs [(245831,Mh)]) AaT (Mi [] .ground [(.t 4)] Vj Vi) ⟨[(0,.agg [.sl (a1.Out.map (eL Lu))]),(1,.agg [.sl (b2.Out.map (eL Lu))])],[],262144⟩ (ON a1 b2)
 refine LW<|?_
 unfold AaT ON
 refine sQ<|rG<|bX rfl rfl rfl rfl rfl<|bX rfl rfl rfl rfl rfl<|aS rfl rfl<|nI<|xS<|sQ<|rG<|fA rfl rfl<|lO (v:=.sl (a1.Out.map (eL Lu))) (z:=.agg [.sl (a1.Out.map (eL Lu))]) rfl rfl rfl rfl rfl rfl<|fA rfl rfl<|lO (v:=.sl (b2.Out.map (eL Lu))) (z:=.agg [.sl (b2.Out.map (eL Lu))]) rfl rfl rfl rfl rfl rfl<|bD fun r3 hr3=>cG (a1.Out,b2.Out) rfl rfl (show _ = some Mh from by kernel_rfl) MR rfl rfl (by simp) r hr3 r<|aS r r<|nI<|xS<|rT<|LR (b:=r3) r ?_ r r ?_ r
 all_goals first|(simp;done)|(simp;omega)|rfl|(simp [LG,LD];done)

def dc8 : LJ:=(.seq (.reg [P 2 (.asg (.c (.bool false)) none)] false) (.seq (.seq (.reg [P 8 (.call (.c (.clo 15 [])) []),P 9 (.un .not (T 8))] false) (.cond (T 9) (.seq (.reg [P 2 (.asg (.c (.bool false)) none)] false) .ret) .skip)) (.seq (.reg [M 11 0,P 12 (.call (.c (.clo 16 [])) [(T 11)]),M 10 12,P 13 (.ext (T 10) 0),P 14 (.ext (T 10) 1),P 15 (.ext (T 10) 2),P 3 (.new (.agg [(.int .i64 0),.nils,.nils]) 3 27),P 4 (.new (.agg [.nils]) 1 30),⟨none,(.st 3 (T 3) (T 13)),none,[]⟩,⟨none,(.st 1 (T 4) (T 14)),none,[]⟩,P 5 (.asg (T 15) none)] false) (.seq (.reg [P 16 (.ld 3 true (T 3)),⟨(some 17),(.call (.c (.clo 17 [])) [(T 16)]),none,[0]⟩,P 18 (.ld 3 true (T 3)),⟨(some 19),(.call (.c (.clo 24 [])) [(T 18)]),none,[2,1]⟩,P 6 (.new (.agg [.nils]) 1 30),P 7 (.new (.agg [.nils]) 1 30),⟨none,(.st 1 (T 6) (T 17)),none,[4,1,3,0,1,4,5]⟩,⟨none,(.st 1 (T 7) (T 19)),none,[5,3,6,0,1,2,3,4,5,6]⟩] true) (.seq (.reg [P 20 (.ld 1 true (T 6)),P 21 (.ld 1 true (T 7)),P 22 (.call (.c (.clo 31 [])) [(T 20),(T 21)]),M 23 22,⟨(some 24),(.ld 1 true (T 6)),(some ⟨23,true⟩),[]⟩,⟨(some 25),(.ld 1 true (T 7)),(some ⟨23,true⟩),[]⟩,⟨(some 26),(.call (.c (.clo 33 [])) [(T 24),(T 25)]),(some ⟨23,true⟩),[]⟩,P 27 (.pick (T 23) (T 26) (.c (.bool false))),P 2 (.asg (T 27) none)] false) .ret)))))
theorem AeA : (Tryd.f8.body.bind (LM Tryd.prog Tryd.f8.ntmps)) = some dc8:=by kernel_rfl
theorem AeB : Tryd.f8.results.toList.mapM (Me Tryd.prog) = some [(.t 2)]:=by kernel_rfl
def OL (a : (List Int)) : List D:=[.sl (a.map eU8)]
def OK (ds : List D) : (List Int):=(uL uI) (ds.getD 0 .top)
theorem Ry (a : (List Int)) : OK (OL a) = a:=by simp [OK,OL,NT (u:=uI) (en:=eU8) (fun _=>rfl)]
def RY (b : Bool) : D:=.bool b
def RX (_b : Bool) : List D:=[]
noncomputable def VG : Dw.Spec:=LL [] .ground OL OK (fun a=>Nd a) RY RX
set_option maxHeartbeats 4000000 in
theorem Vx : LI Tryd.prog 8 VG:=by
 refine Mg (LV (l:=[(15,TQ),(16,TR),(17,Ou),(24,PU),(31,QG),(33,Su)]) (by simp [Yr,Ys,Uk,VM,WJ,XW])) Tryd.func8 (by decide) AeA AeB (np:=1) (by decide) Ry (fun _=>r) (fun _=>r) (by decide)<|?_
 intro codes1
 show TrE (specs [(15,TQ),(16,TR),(17,Ou),(24,PU),(31,QG),(33,Su)]) dc8 (Mi [] .ground [(.t 2)] RY RX) ⟨[(0,.sl (codes1.map eU8))],[],262144⟩ (Nd codes1)
 refine LW<|?_
 unfold dc8 Nd
 refine sQ<|rG<|aS r r<|nI<|xS<|sQ<|sQ<|rG<|bD fun r2 hr2=>cG () r r r VH r r (by simp) r hr2 r<|uN (w:=.bool (!r2)) r r r r trivial<|nI<|xS<|cD (c:=(!r2)) r ?_ ?_
 ·refine sQ<|rG<|aS r r<|nI<|xS<|rT<|xR<|LR (b:=false) r ?_ r r ?_ r
  all_goals first|(simp;done)|(simp;omega)|rfl|(simp [LG,LD];done)
 ·refine sK<|xS<|sQ<|rG<|mV r r<|bD fun r3 hr3=>Yl (rs:=[Mv r3.1,OZ r3.2.1,LQ r3.2.2]) (z:=LQ r3.2.2) codes1 r r r VI r r (by simp) r hr3 r r<|mV r r<|eX (v:=.agg [.int .i64 r3.1.Params,.sl (r3.1.Slots.map LB),.sl (r3.1.Code.map Lx)]) r r r<|eX (v:=.agg [.sl (r3.2.1.Out.map (eL Lu))]) r r r<|eX (v:=.optr 12 _ 0 0) r r r<|nW r<|nW r<|sV (z':=.agg [.int .i64 r3.1.Params,.sl (r3.1.Slots.map LB),.sl (r3.1.Code.map Lx)]) r r r r r r r r r<|sV (z':=.agg [.sl (r3.2.1.Out.map (eL Lu))]) r r r r r r r r r<|aS r r<|nI<|xS<|sQ<|rG<|lO (v:=.agg [.int .i64 r3.1.Params,.sl (r3.1.Slots.map LB),.sl (r3.1.Code.map Lx)]) (z:=.agg [.int .i64 r3.1.Params,.sl (r3.1.Slots.map LB),.sl (r3.1.Code.map Lx)]) r r r r r r<|bD fun r4 hr4=>cV r3.1 r r r Rp r r (by simp) r hr4<|lO (v:=.agg [.int .i64 r3.1.Params,.sl (r3.1.Slots.map LB),.sl (r3.1.Code.map Lx)]) (z:=.agg [.int .i64 r3.1.Params,.sl (r3.1.Slots.map LB),.sl (r3.1.Code.map Lx)]) r r r r r r<|bD fun r5 hr5=>cV r3.1 r r r Tg r r (by simp) r hr5<|nW r<|nW r<|sV (z':=.agg [.sl (r4.Out.map (eL Lu))]) r r r r r r r r r<|sV (z':=.agg [.sl (r5.Out.map (eL Lu))]) r r r r r r r r r<|Md (by kernel_rfl)<|xS<|sQ<|rG<|lO (v:=.agg [.sl (r4.Out.map (eL Lu))]) (z:=.agg [.sl (r4.Out.map (eL Lu))]) r r r r r r<|lO (v:=.agg [.sl (r5.Out.map (eL Lu))]) (z:=.agg [.sl (r5.Out.map (eL Lu))]) r r r r r r<|bD fun r6 hr6=>cG (r4,r5) r r r TV r r (by simp) r hr6 r<|mV r r<|sP 23 (b:=r6) r ?_ ?_
  ·refine lO (v:=.agg [.sl (r4.Out.map (eL Lu))]) (z:=.agg [.sl (r4.Out.map (eL Lu))]) r r r r r r<|lO (v:=.agg [.sl (r5.Out.map (eL Lu))]) (z:=.agg [.sl (r5.Out.map (eL Lu))]) r r r r r r<|bD fun r7 hr7=>cG (r4,r5) r r r UH r r (by simp) r hr7 r<|pT r r r r<|aS r r<|nI<|xS<|rT<|LR (b:=r7) r ?_ r r ?_ r
   all_goals first|(simp;done)|(simp;omega)|rfl|(simp [LG,LD];done)
  ·refine oF r<|oF r<|oF r<|pF r r r r<|aS r r<|nI<|xS<|rT<|LR (b:=false) r ?_ r r ?_ r
   all_goals first|(simp;done)|(simp;omega)|rfl|(simp [LG,LD];done)

end Go.Proofs.YtcelninhkmhjkaaDoor
