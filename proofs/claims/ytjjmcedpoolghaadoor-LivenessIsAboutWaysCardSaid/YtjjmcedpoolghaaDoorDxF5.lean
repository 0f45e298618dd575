/-
  Programs on typed data, and the proofs that the code does what they say; written by a program (dx.py).
-/
import Derived.Test.YtjjmcedpoolghaaDoorProg
import Derived.Test.YtjjmcedpoolghaaDoorDc
import Derived.KernelRfl
import Derived.Test.YtjjmcedpoolghaaDoorDxP
import Derived.Test.YtjjmcedpoolghaaDoorDxF2
import Derived.Test.YtjjmcedpoolghaaDoorDxF3
import Derived.Test.YtjjmcedpoolghaaDoorDxF4
namespace Go.Proofs.YtjjmcedpoolghaaDoor
open Go Go.Dw Go.Proofs
set_option maxRecDepth 100000
open Go.Dw renaming Wt → mV,UR → bN,Qd → lO,TY → bD,UU → cK,UX → nI,Va → xS,Ww → rG,Wy → sQ,QB → aO,UQ → aS,UY → oF,US → bL,PQ → cV,Ps → cG,PO → cR,UP → aP,Qe → sV,Sp → sE,RD → iS,QC → iO,RF → lS,QD → lW,TZ → fA,XF → eX,Ub → lF,SH → sP,OR → pT,Oy → pF,Xu → uN,UW → nW,UT → bX,Abq → mS,Abo → eB,Vb → cD,Uf → bK,Wx → rT,Ve → sK,Vc → eT,UZ → xC,Ud → xL,Sr → xR,Wu → yR,Ue → lR,SD → hE,OT → lE,PR → bH,Oz → bM,Sq → bR,PS → xE,Ws → cP,Vd → lP,RG → sC,Sm → bC,rf → r
def ZO : KH:=(.seq (.reg [P 3 (.box (T 1) 3 27),P 4 (.new (.agg [.nils]) 1 30)] false) (.seq (.reg [P 10 (.ld 3 true (T 3)),P 11 (.call (.c (.clo 23 [])) [(T 10)]),P 5 (.new (.agg [.nils]) 1 30),⟨none,(.st 1 (T 5) (T 11)),none,[]⟩] false) (.seq (.reg [P 12 (.fldA 0 (T 5)),P 13 (.ld 1 false (T 12)),P 14 (.app 1 36 24 (.c .nils) (T 13)),⟨(some 15),(.bld [.nils] [⟨0,⟨1,(T 14)⟩⟩]),none,[]⟩,P 6 (.new (.agg [.nils]) 1 30),⟨none,(.st 1 (T 6) (T 15)),none,[]⟩] false) (.seq (.seq (.reg [M 16 0,P 17 (.call (.c (.clo 11 [])) [(T 16),(C 3)]),P 7 (.asg (T 17) none)] false) (.block 0 (.loop (.seq (.seq (.reg [M 18 7,P 19 (.bin .gtr (T 18) (C 0)),M 20 19,⟨(some 21),(.fldA 1 (T 3)),(some ⟨20,true⟩),[]⟩,⟨(some 22),(.ld 1 false (T 21)),(some ⟨20,true⟩),[]⟩,⟨(some 23),(.len false (T 22)),(some ⟨20,true⟩),[]⟩,⟨(some 24),(.bin .gtr (T 23) (C 0)),(some ⟨20,true⟩),[]⟩,P 25 (.pick (T 20) (T 24) (.c (.bool false)))] false) (.cond (T 25) .skip (.exit 0))) (.seq (.block 1 (.seq (.reg [M 28 0,P 29 (.fldA 1 (T 3)),P 30 (.ld 1 false (T 29)),P 31 (.len false (T 30)),P 32 (.call (.c (.clo 11 [])) [(T 28),(T 31)]),P 8 (.asg (T 32) none)] false) (.seq (.reg [P 9 (.asg (C 0) none)] false) (.block 2 (.loop (.seq (.seq (.reg [M 33 9,P 34 (.fldA 0 (T 6)),P 35 (.ld 1 false (T 34)),P 36 (.len false (T 35)),P 37 (.bin .lss (T 33) (T 36))] false) (.cond (T 37) .skip (.exit 2))) (.seq (.block 3 (.reg [P 40 (.fldA 0 (T 6)),⟨(some 41),(.ld 1 false (T 40)),none,[0]⟩,M 42 9,P 43 (.fldA 0 (T 6)),⟨(some 44),(.ld 1 false (T 43)),none,[3]⟩,M 45 9,⟨(some 46),(.ixA 1 (T 44) (T 45)),none,[4,5]⟩,⟨(some 47),(.ld 1 false (T 46)),none,[6]⟩,M 48 8,⟨(some 49),(.call (.c (.clo 24 [])) [(T 47),(T 48)]),none,[7,8]⟩,⟨(some 50),(.ixA 1 (T 41) (T 42)),none,[1,2,0,1,2,3,4,5,6,7,8,9]⟩,⟨none,(.st 1 (T 50) (T 49)),none,[10,9,9,0,1,2,3,4,5,6,7,8,9]⟩] true)) (.reg [M 38 9,P 39 (.bin .add (T 38) (C 1)),P 9 (.asg (T 39) none)] false)))))))) (.reg [M 26 7,P 27 (.bin .sub (T 26) (C 1)),P 7 (.asg (T 27) none)] false)))))) (.seq (.reg [P 51 (.ld 1 true (T 6)),⟨none,(.st 1 (T 4) (T 51)),none,[]⟩] false) .ret)))))
theorem AbI : (Tryd.f12.body.bind (KJ Tryd.prog Tryd.f12.ntmps)) = some ZO:=by kernel_rfl
theorem AbJ : Tryd.f12.results.toList.mapM (KY Tryd.prog) = some [(.c 4 1 true)]:=by kernel_rfl
def OI (a : Ed × Ku) : List D:=[KO a.1,Lm a.2]
def OH (ds : List D) : Ed × Ku:=(LS (ds.getD 0 .top),Pu (ds.getD 1 .top))
theorem RJ (a : Ed × Ku) : OH (OI a) = a:=by simp [OH,OI]
def NO (b : KL × Ed) : D:=OM b.1
def Sw (b : KL × Ed) : List D:=[KO b.2]
noncomputable def Px : Dw.Spec:=KI [(0,(2,65))] .val OI OH (fun a=>MF a.1 a.2) NO Sw
set_option maxHeartbeats 4000000 in
theorem VP : KF Tryd.prog 12 Px:=by
 refine Lc (KW (l:=[(23,SX),(11,KM),(24,Qx)]) (by simp [XC,Lt,Wb])) Tryd.func12 (by decide) AbI AbJ (np:=2) (by decide) RJ (fun _=>r) (fun _=>r) (by decide)<|?_
 rintro ⟨c1,f2⟩
 show TrE (specs [(23,SX),(11,KM),(24,Qx)]) ZO (Ld [(0,(2,65))] .val [(.c 4 1 true)] NO Sw) ⟨[(0,.optr 8192 0 0 0),(1,.agg [.int .i64 f2.Params,.sl (f2.Slots.map Kv),.sl (f2.Code.map Kr)])],[(8192,some (0,⟨false,true,2,65,[.agg [.sl (c1.list.map eU8),.int .i64 c1.at_]]⟩))],262144⟩ (MF c1 f2)
 refine KQ<|?_
 unfold ZO MF
 refine sQ<|rG<|bX r r r r r<|nW r<|nI<|xS<|sQ<|rG<|lO (v:=.agg [.int .i64 f2.Params,.sl (f2.Slots.map Kv),.sl (f2.Code.map Kr)]) (z:=.agg [.int .i64 f2.Params,.sl (f2.Slots.map Kv),.sl (f2.Code.map Kr)]) r r r r r r<|bD fun r3 hr3=>cV f2 r r r UO r r (by simp) r hr3<|nW r<|sV (z':=.agg [.sl (r3.Out.map (eL Kp))]) r r r r r r r r r<|nI<|xS<|sQ<|rG<|fA r r<|lO (v:=.sl (r3.Out.map (eL Kp))) (z:=.agg [.sl (r3.Out.map (eL Kp))]) r r r r r r<|cK fun hq=>aP (([] : List (List Int))) (r3.Out) (eL Kp) r r r r r r r (by simp) r r r (by simp) r (fun _=>r) r hq<|bL (cs:=[.osl 14 _ 0 ((([] : List (List Int)) ++ r3.Out).length)]) (ps:=[(0,1,.osl 14 _ 0 ((([] : List (List Int)) ++ r3.Out).length))]) r r r r<|nW r<|sV (z':=.agg [.osl 14 _ 0 ((([] : List (List Int)) ++ r3.Out).length)]) r r r r r r r r r<|nI<|xS<|sQ<|sQ<|rG<|mV r r<|bD fun r4 hr4=>cV (c1,3) r r r Kw r r (by simp) r hr4<|aS r r<|nI<|xS<|bK<|lP (E:=fun (s : (List Int) × Int × (List (List Int)) × Int) (g : Nat × Nat × Nat × Nat)=>[(0,.optr 8192 0 0 0),(3,.optr 3 g.1 0 0),(4,.optr 4 g.2.1 0 0),(6,.optr 6 g.2.2.1 0 0),(7,.int .i64 s.2.2.2)]) (O:=fun s g=>[(3,some (g.1,⟨false,true,3,27,[.agg [.int .i64 f2.Params,.sl (f2.Slots.map Kv),.sl (f2.Code.map Kr)]]⟩)),(4,some (g.2.1,⟨false,true,1,30,[.agg [.nils]]⟩)),(6,some (g.2.2.1,⟨false,true,1,30,[.agg [.osl 14 g.2.2.2 0 s.2.2.1.length]]⟩)),(14,some (g.2.2.2,⟨false,false,1,36,s.2.2.1.map (eL Kp)⟩)),(8192,some (0,⟨false,true,2,65,[.agg [.sl (s.1.map eU8),.int .i64 s.2.1]]⟩))]) (body:=fun s=>Nu f2 s.1 s.2.1 s.2.2.1 s.2.2.2) (s:=(r4.2.list,r4.2.at_,([] : List (List Int)) ++ r3.Out,r4.1)) (_,_,_,_) ((hE ⟨rfl,r,r,r,r,trivial⟩ ⟨rfl,r,r,r,r,trivial⟩))<|?_
 rintro ⟨c5,c6,x7,n8⟩ ⟨v3x1,v4x1,v6x1,v14x1⟩ nn
 try dsimp only
 unfold Nu
 refine sC (E:=fun (s : Unit) (g : Nat × Nat × Nat × Nat)=>[(0,.optr 8192 0 0 0),(3,.optr 3 g.1 0 0),(4,.optr 4 g.2.1 0 0),(6,.optr 6 g.2.2.1 0 0),(7,.int .i64 n8),(21,.optr 3 g.1 0 1),(22,.sl (f2.Slots.map Kv)),(23,.int .i64 (f2.Slots.length : Int)),(24,.bool (decide ((f2.Slots.length : Int) > 0)))]) (O:=fun s g=>[(3,some (g.1,⟨false,true,3,27,[.agg [.int .i64 f2.Params,.sl (f2.Slots.map Kv),.sl (f2.Code.map Kr)]]⟩)),(4,some (g.2.1,⟨false,true,1,30,[.agg [.nils]]⟩)),(6,some (g.2.2.1,⟨false,true,1,30,[.agg [.osl 14 g.2.2.2 0 x7.length]]⟩)),(14,some (g.2.2.2,⟨false,false,1,36,x7.map (eL Kp)⟩)),(8192,some (0,⟨false,true,2,65,[.agg [.sl (c5.map eU8),.int .i64 c6]]⟩))]) (j:=fun s=>Nw c5 c6 f2 n8 x7) ?_ ?_
 ·refine sQ<|rG<|mV r r<|bN (v:=.bool (decide (n8 > 0))) r r r r r<|mV r r<|sP 20 (b:=(decide (n8 > 0))) r ?_ ?_
  ·refine fA r r<|lO (v:=.sl (f2.Slots.map Kv)) (z:=.agg [.int .i64 f2.Params,.sl (f2.Slots.map Kv),.sl (f2.Code.map Kr)]) r r r r r r<|lS r r<|bN (v:=.bool (decide ((f2.Slots.length : Int) > 0))) r r r r r<|pT r r r r<|nI<|xS<|cD (c:=(decide ((f2.Slots.length : Int) > 0))) r ?_ ?_
   ·exact sK<|xC (s:=()) (_,_,_,_) ((hE ⟨rfl,r,r,r,r,r,r,r,r,trivial⟩ ⟨rfl,r,r,r,r,trivial⟩))
   ·refine eT<|Wv<|lE<|bH<|xS<|sQ<|rG<|lO (v:=.agg [.osl 14 _ 0 x7.length]) (z:=.agg [.osl 14 _ 0 x7.length]) r r r r r r<|sV (z':=.agg [.osl 14 _ 0 x7.length]) r r r r r r r r r<|nI<|xS<|rT<|LF (b:=((KL.mk x7),(Ed.mk c5 c6))) r ?_ r r ?_ (by first | rfl | (simp only [KA]; rfl) | (simp only [KC]; rfl) | (simp only [KA,KC]; rfl) | simp [NO,OM])
    all_goals first|(simp;done)|(simp;omega)|rfl|(simp [KB,Kx];done)
  ·refine oF r<|oF r<|oF r<|oF r<|pF r r r r<|nI<|xS<|VO r<|eT<|Wv<|lE<|bH<|xS<|sQ<|rG<|lO (v:=.agg [.osl 14 _ 0 x7.length]) (z:=.agg [.osl 14 _ 0 x7.length]) r r r r r r<|sV (z':=.agg [.osl 14 _ 0 x7.length]) r r r r r r r r r<|nI<|xS<|rT<|LF (b:=((KL.mk x7),(Ed.mk c5 c6))) r ?_ r r ?_ (by first | rfl | (simp only [KA]; rfl) | (simp only [KC]; rfl) | (simp only [KA,KC]; rfl) | simp [NO,OM])
   all_goals first|(simp;done)|(simp;omega)|rfl|(simp [KB,Kx];done)
 ·rintro ⟨⟩ ⟨v3x2,v4x2,v6x2,v14x2⟩ nn
  try dsimp only
  unfold Nw
  refine bC (E:=fun (s : (List Int) × Int × (List (List Int))) (g : Nat × Nat × Nat × Nat)=>[(0,.optr 8192 0 0 0),(3,.optr 3 g.1 0 0),(4,.optr 4 g.2.1 0 0),(6,.optr 6 g.2.2.1 0 0),(7,.int .i64 n8),(21,.optr 3 g.1 0 1),(22,.sl (f2.Slots.map Kv)),(23,.int .i64 (f2.Slots.length : Int)),(24,.bool (decide ((f2.Slots.length : Int) > 0)))]) (O:=fun s g=>[(3,some (g.1,⟨false,true,3,27,[.agg [.int .i64 f2.Params,.sl (f2.Slots.map Kv),.sl (f2.Code.map Kr)]]⟩)),(4,some (g.2.1,⟨false,true,1,30,[.agg [.nils]]⟩)),(6,some (g.2.2.1,⟨false,true,1,30,[.agg [.osl 14 g.2.2.2 0 s.2.2.length]]⟩)),(14,some (g.2.2.2,⟨false,false,1,36,s.2.2.map (eL Kp)⟩)),(8192,some (0,⟨false,true,2,65,[.agg [.sl (s.1.map eU8),.int .i64 s.2.1]]⟩))]) (j:=fun s=>Nx n8 s.1 s.2.1 s.2.2) ?_ ?_
  ·refine sQ<|rG<|mV r r<|fA r r<|lO (v:=.sl (f2.Slots.map Kv)) (z:=.agg [.int .i64 f2.Params,.sl (f2.Slots.map Kv),.sl (f2.Code.map Kr)]) r r r r r r<|lS r r<|bD fun r12 hr12=>cV ((Ed.mk c5 c6),(f2.Slots.length : Int)) r r r Kw r r (by simp) r hr12<|aS r r<|nI<|xS<|sQ<|rG<|aS r r<|nI<|xS<|bK<|lP (E:=fun (s : (List (List Int)) × Int) (g : Nat × Nat × Nat × Nat)=>[(0,.optr 8192 0 0 0),(3,.optr 3 g.1 0 0),(4,.optr 4 g.2.1 0 0),(6,.optr 6 g.2.2.1 0 0),(7,.int .i64 n8),(8,.int .i64 r12.1),(9,.int .i64 s.2),(21,.optr 3 g.1 0 1),(22,.sl (f2.Slots.map Kv)),(23,.int .i64 (f2.Slots.length : Int)),(24,.bool (decide ((f2.Slots.length : Int) > 0)))]) (O:=fun s g=>[(3,some (g.1,⟨false,true,3,27,[.agg [.int .i64 f2.Params,.sl (f2.Slots.map Kv),.sl (f2.Code.map Kr)]]⟩)),(4,some (g.2.1,⟨false,true,1,30,[.agg [.nils]]⟩)),(6,some (g.2.2.1,⟨false,true,1,30,[.agg [.osl 14 g.2.2.2 0 s.1.length]]⟩)),(14,some (g.2.2.2,⟨false,false,1,36,s.1.map (eL Kp)⟩)),(8192,some (0,⟨false,true,2,65,[.agg [.sl (r12.2.list.map eU8),.int .i64 r12.2.at_]]⟩))]) (body:=fun s=>Nv r12 n8 s.1 s.2) (s:=(x7,0)) (_,_,_,_) ((hE ⟨rfl,r,r,r,r,r,r,r,r,r,r,trivial⟩ ⟨rfl,r,r,r,r,trivial⟩))<|?_
   rintro ⟨x13,k14⟩ ⟨v3x3,v4x3,v6x3,v14x3⟩ nn
   try dsimp only
   unfold Nv
   refine sQ<|sQ<|rG<|mV r r<|fA r r<|lO (v:=.osl 14 _ 0 x13.length) (z:=.agg [.osl 14 _ 0 x13.length]) r r r r r r<|lW r r<|bN (v:=.bool (decide (k14 < (x13.length : Int)))) r r r r r<|nI<|xS<|cD (c:=(decide (k14 < (x13.length : Int)))) r ?_ ?_
   ·exact sK<|xS<|sQ<|bK<|rG<|fA r r<|lO (v:=.osl 14 _ 0 x13.length) (z:=.agg [.osl 14 _ 0 x13.length]) r r r r r r<|mV r r<|fA r r<|lO (v:=.osl 14 _ 0 x13.length) (z:=.agg [.osl 14 _ 0 x13.length]) r r r r r r<|mV r r<|cK fun hq=>iO (l:=x13) (en:=(eL Kp)) r r r r r hq<|bD fun x_e15 hx_e15=>lO (v:=.sl (x_e15.map Kp)) (z:=(eL Kp) x_e15) r r r (Ma hx_e15) r r<|mV r r<|bD fun r16 hr16=>cR (l:=r16) (en:=Kp) (x_e15,r12.1) r r r TL r r (by simp) r hr16 r<|cK fun hq=>iO (l:=x13) (en:=(eL Kp)) r r r r r hq<|bD fun x_o17 hx_o17=>sE (l:=x13) (en:=(eL Kp)) (q':=r16) r r r r r r r (by simp) hx_o17 r r r (by simp [Ll,cells,setAt,eL]) r<|KX (by kernel_rfl)<|bM<|xS<|rG<|mV r r<|bN (v:=.int .i64 (IntKind.i64.wrap (k14 + 1))) r r r r r<|aS r r<|nI<|xL (s:=(x13.set k14.toNat r16,IntKind.i64.wrap (k14 + 1))) (_,_,_,_) ((hE ⟨rfl,r,r,r,r,r,r,r,r,r,r,trivial⟩ ⟨rfl,r,(Eq.trans (b:=some (_,⟨false,true,1,30,[.agg [.osl 14 _ 0 x13.length]]⟩)) r (by simp)),r,r,trivial⟩))
   ·exact eT<|xE<|lE<|bH<|Pt (s:=(r12.2.list,r12.2.at_,x13)) (_,_,_,_) ((hE ⟨rfl,r,r,r,r,r,r,r,r,trivial⟩ ⟨rfl,r,r,r,r,trivial⟩))
  ·rintro ⟨c9,c10,x11⟩ ⟨v3x4,v4x4,v6x4,v14x4⟩ nn
   try dsimp only
   unfold Nx
   exact rG<|mV r r<|bN (v:=.int .i64 (IntKind.i64.wrap (n8 - 1))) r r r r r<|aS r r<|nI<|xL (s:=(c9,c10,x11,IntKind.i64.wrap (n8 - 1))) (_,_,_,_) ((hE ⟨rfl,r,r,r,r,trivial⟩ ⟨rfl,r,r,r,r,trivial⟩))

def dc5 : KH:=(.seq (.reg [P 2 (.new (.agg [(.int .i64 0),.nils,.nils]) 3 27),P 3 (.new (.agg [.nils]) 1 30),P 4 (.asg (.c .top) none)] false) (.seq (.reg [M 8 0,P 9 (.call (.c (.clo 9 [])) [(T 8),(C 250)]),P 5 (.asg (T 9) none)] false) (.seq (.reg [M 10 5,P 11 (.call (.c (.clo 10 [])) [(T 10),(C 3),(C 16)]),P 6 (.new (.agg [.nils]) 1 47),⟨none,(.st 1 (T 6) (T 11)),none,[]⟩] false) (.seq (.reg [P 12 (.fldA 0 (T 6)),⟨(some 13),(.ld 1 false (T 12)),none,[0]⟩,M 14 5,P 15 (.fldA 0 (T 6)),⟨(some 16),(.ld 1 false (T 15)),none,[3]⟩,⟨(some 17),(.len false (T 16)),none,[4]⟩,⟨(some 18),(.call (.c (.clo 11 [])) [(T 14),(T 17)]),none,[2,5]⟩,⟨(some 19),(.ixA 3 (T 13) (T 18)),none,[1,6]⟩,⟨(some 20),(.ld 3 true (T 19)),none,[7]⟩,P 7 (.new (.agg [(.int .i64 0),.nils,.nils]) 3 27),⟨none,(.st 3 (T 7) (T 20)),none,[9,8,6,0,1,2,3,4,5,6,7,8,9]⟩] true) (.seq (.reg [P 21 (.ld 3 true (T 7)),M 22 5,P 23 (.ld 3 true (T 7)),⟨(some 24),(.call (.c (.clo 12 [])) [(T 22),(T 23)]),none,[1,2]⟩,M 25 5,⟨none,(.st 3 (T 2) (T 21)),none,[0,3,0]⟩,⟨none,(.st 1 (T 3) (T 24)),none,[3,5,0,1,2,3,5]⟩,⟨(some 4),(.asg (T 25) none),none,[4,6,0,1,2,3,4,5,6]⟩] true) .ret)))))
theorem AdC : (Tryd.f5.body.bind (KJ Tryd.prog Tryd.f5.ntmps)) = some dc5:=by kernel_rfl
theorem AdD : Tryd.f5.results.toList.mapM (KY Tryd.prog) = some [(.c 2 3 true),(.c 3 1 true),(.t 4)]:=by kernel_rfl
def Rx (a : (List Int)) : List D:=[.sl (a.map eU8)]
def Rv (ds : List D) : (List Int):=(uL uI) (ds.getD 0 .top)
theorem UK (a : (List Int)) : Rv (Rx a) = a:=by simp [Rv,Rx,Nd (u:=uI) (en:=eU8) (fun _=>rfl)]
def VD (b : Ku × KL × Ed) : D:=.tup [Lm b.1,OM b.2.1,KO b.2.2]
def VC (_b : Ku × KL × Ed) : List D:=[]
noncomputable def SU : Dw.Spec:=KI [] (.tupPtr 2 2 65) Rx Rv (fun a=>OW a) VD VC
set_option maxHeartbeats 4000000 in
theorem XB : KF Tryd.prog 5 SU:=by
 refine Lc (KW (l:=[(9,Vn),(10,OJ),(11,KM),(12,Px)]) (by simp [YG,UH,Lt,VP])) Tryd.func5 (by decide) AdC AdD (np:=1) (by decide) UK (fun _=>r) (fun _=>r) (by decide)<|?_
 intro codes1
 show TrE (specs [(9,Vn),(10,OJ),(11,KM),(12,Px)]) dc5 (Ld [] (.tupPtr 2 2 65) [(.c 2 3 true),(.c 3 1 true),(.t 4)] VD VC) ⟨[(0,.sl (codes1.map eU8))],[],262144⟩ (OW codes1)
 refine KQ<|?_
 unfold dc5 OW
 refine sQ<|rG<|nW r<|nW r<|aS r r<|nI<|xS<|sQ<|rG<|mV r r<|bD fun r2 hr2=>cP (codes1,250) r r r WM r r (by simp) r hr2<|aS r r<|nI<|xS<|sQ<|rG<|mV r r<|bD fun r3 hr3=>cV (r2,3,16) r r r QZ r r (by simp) r hr3<|nW r<|sV (z':=.agg [.sl (r3.1.Funcs.map Lm)]) r r r r r r r r r<|nI<|xS<|sQ<|rG<|fA r r<|lO (v:=.sl (r3.1.Funcs.map Lm)) (z:=.agg [.sl (r3.1.Funcs.map Lm)]) r r r r r r<|mV r r<|fA r r<|lO (v:=.sl (r3.1.Funcs.map Lm)) (z:=.agg [.sl (r3.1.Funcs.map Lm)]) r r r r r r<|lS r r<|bD fun r4 hr4=>cV (r3.2,(r3.1.Funcs.length : Int)) r r r Kw r r (by simp) r hr4<|bD fun x_x5 hx_x5=>iS (en:=Lm) r r r hx_x5 r<|lF (v:=.agg [.int .i64 x_x5.Params,.sl (x_x5.Slots.map Kv),.sl (x_x5.Code.map Kr)]) r r r r<|nW r<|sV (z':=.agg [.int .i64 x_x5.Params,.sl (x_x5.Slots.map Kv),.sl (x_x5.Code.map Kr)]) r r r r r r r r r<|KX (by kernel_rfl)<|xS<|sQ<|rG<|lO (v:=.agg [.int .i64 x_x5.Params,.sl (x_x5.Slots.map Kv),.sl (x_x5.Code.map Kr)]) (z:=.agg [.int .i64 x_x5.Params,.sl (x_x5.Slots.map Kv),.sl (x_x5.Code.map Kr)]) r r r r r r<|mV r r<|lO (v:=.agg [.int .i64 x_x5.Params,.sl (x_x5.Slots.map Kv),.sl (x_x5.Code.map Kr)]) (z:=.agg [.int .i64 x_x5.Params,.sl (x_x5.Slots.map Kv),.sl (x_x5.Code.map Kr)]) r r r r r r<|bD fun r6 hr6=>cV (r4.2,x_x5) r r r RJ r r (by simp) r hr6<|mV r r<|sV (z':=.agg [.int .i64 x_x5.Params,.sl (x_x5.Slots.map Kv),.sl (x_x5.Code.map Kr)]) r r r r r r r r r<|sV (z':=.agg [.sl (r6.1.Out.map (eL Kp))]) r r r r r r r r r<|aS r r<|KX (by kernel_rfl)<|xS<|rT<|YZ (b:=(x_x5,r6.1,r6.2)) (by decide) (by decide) r ?_ r ?_ r ?_ r ?_ r r ?_ r
 all_goals first|(simp;done)|(simp;omega)|rfl|(simp [KB,Kx];done)

def dc7 : KH:=(.seq (.reg [P 4 (.asg (.c (.bool false)) none)] false) (.seq (.seq (.reg [P 5 (.asg (C 0) none)] false) (.block 0 (.loop (.seq (.seq (.reg [M 6 5,M 7 0,P 8 (.len false (T 7)),P 9 (.bin .lss (T 6) (T 8))] false) (.cond (T 9) .skip (.exit 0))) (.seq (.block 1 (.seq (.reg [M 12 0,M 13 5,P 14 (.ixA 1 (T 12) (T 13)),P 15 (.ld 1 false (T 14)),M 16 1,P 17 (.bin .eql (T 15) (T 16))] false) (.cond (T 17) (.seq (.reg [P 4 (.asg (.c (.bool true)) none)] false) .ret) .skip))) (.reg [M 10 5,P 11 (.bin .add (T 10) (C 1)),P 5 (.asg (T 11) none)] false)))))) (.seq (.reg [P 4 (.asg (.c (.bool false)) none)] false) .ret)))
theorem AdG : (Tryd.f7.body.bind (KJ Tryd.prog Tryd.f7.ntmps)) = some dc7:=by kernel_rfl
theorem AdH : Tryd.f7.results.toList.mapM (KY Tryd.prog) = some [(.t 4)]:=by kernel_rfl
def QH (a : (List Int) × Int) : List D:=[.sl (a.1.map Kp),.int .i64 a.2]
def SW (ds : List D) : (List Int) × Int:=((uL uI) (ds.getD 0 .top),uI (ds.getD 1 .top))
theorem TM (a : (List Int) × Int) : SW (QH a) = a:=by simp [SW,QH,uI,Nd (u:=uI) (en:=Kp) (fun _=>rfl)]
def WY (b : Bool) : D:=.bool b
def WX (_b : Bool) : List D:=[]
noncomputable def Qy : Dw.Spec:=KI [] .ground QH SW (fun a=>PJ a.1 a.2) WY WX
set_option maxHeartbeats 4000000 in
theorem Wc : KF Tryd.prog 7 Qy:=by
 refine Lc (LD) Tryd.func7 (by decide) AdG AdH (np:=2) (by decide) TM (fun _=>r) (fun _=>r) (by decide)<|?_
 rintro ⟨s1,n2⟩
 show TrE (specs []) dc7 (Ld [] .ground [(.t 4)] WY WX) ⟨[(0,.sl (s1.map Kp)),(1,.int .i64 n2)],[],262144⟩ (PJ s1 n2)
 refine KQ<|?_
 unfold dc7 PJ
 refine sQ<|rG<|aS r r<|nI<|xS<|sQ<|sQ<|rG<|aS r r<|nI<|xS<|bK<|lP (E:=fun (s : Int) (g : Unit)=>[(0,.sl (s1.map Kp)),(1,.int .i64 n2),(5,.int .i64 s)]) (O:=fun s g=>[]) (body:=fun s=>Ou s1 n2 s) (s:=0) () ((hE ⟨rfl,r,r,trivial⟩ trivial))<|?_
 rintro i3 ⟨⟩ nn
 try dsimp only
 unfold Ou
 refine sQ<|sQ<|rG<|mV r r<|mV r r<|lS r r<|bN (v:=.bool (decide (i3 < (s1.length : Int)))) r r r r r<|nI<|xS<|cD (c:=(decide (i3 < (s1.length : Int)))) r ?_ ?_
 ·refine sK<|xS<|sQ<|bK<|sQ<|rG<|mV r r<|mV r r<|bD fun x_x4 hx_x4=>iS (en:=Kp) r r r hx_x4 r<|lF (v:=.int .i64 x_x4) r r r r<|mV r r<|bN (v:=.bool (x_x4 == n2)) r r r r r<|nI<|xS<|cD (c:=(x_x4 == n2)) r ?_ ?_
  ·refine sQ<|rG<|aS r r<|nI<|xS<|rT<|bR<|xR<|lR<|bR<|xR<|KN (b:=true) r ?_ r r ?_ r
   all_goals first|(simp;done)|(simp;omega)|rfl|(simp [KB,Kx];done)
  ·exact sK<|bM<|xS<|rG<|mV r r<|bN (v:=.int .i64 (IntKind.i64.wrap (i3 + 1))) r r r r r<|aS r r<|nI<|xL (s:=IntKind.i64.wrap (i3 + 1)) () ((hE ⟨rfl,r,r,trivial⟩ trivial))
 ·refine eT<|xE<|lE<|bH<|xS<|sQ<|rG<|aS r r<|nI<|xS<|rT<|KN (b:=false) r ?_ r r ?_ r
  all_goals first|(simp;done)|(simp;omega)|rfl|(simp [KB,Kx];done)

def dc8 : KH:=(.seq (.reg [P 3 (.box (T 0) 3 27),P 6 (.asg (.c (.bool false)) none)] false) (.seq (.reg [P 12 (.fldA 2 (T 3)),P 13 (.ld 1 false (T 12)),P 14 (.len false (T 13)),P 15 (.mkS 1 4 1 (.bool false) (T 14) (T 14)),⟨(some 7),(.asg (T 15) (some ⟨1,4⟩)),none,[]⟩] false) (.seq (.reg [P 16 (.ld 3 true (T 3)),M 17 1,P 18 (.call (.c (.clo 18 [])) [(T 16),(T 17)]),⟨(some 8),(.asg (T 18) (some ⟨1,3⟩)),none,[]⟩] false) (.seq (.block 0 (.loop (.seq (.seq (.reg [M 19 8,P 20 (.len false (T 19)),P 21 (.bin .gtr (T 20) (C 0))] false) (.cond (T 21) .skip (.exit 0))) (.block 1 (.seq (.reg [M 22 8,P 23 (.ixA 1 (T 22) (C 0)),P 24 (.ld 1 false (T 23)),P 9 (.asg (T 24) none)] false) (.seq (.reg [M 25 8,⟨(some 26),(.slc 1 (T 25) (some (C 1)) none),none,[]⟩,P 27 (.app 1 3 8 (.c .nils) (T 26)),⟨(some 8),(.asg (T 27) (some ⟨1,3⟩)),none,[]⟩] false) (.seq (.seq (.reg [M 28 7,M 29 9,P 30 (.ixA 1 (T 28) (T 29)),P 31 (.ld 1 false (T 30))] false) (.cond (T 31) (.exit 1) .skip)) (.seq (.reg [M 32 7,M 33 9,P 34 (.ixA 1 (T 32) (T 33)),⟨none,(.st 1 (T 34) (.c (.bool true))),none,[]⟩] false) (.seq (.seq (.reg [P 35 (.fldA 2 (T 3)),P 36 (.ld 1 false (T 35)),M 37 9,P 38 (.ixA 5 (T 36) (T 37)),P 39 (.ld 5 true (T 38)),P 40 (.call (.c (.clo 19 [])) [(T 39)]),M 41 2,P 42 (.call (.c (.clo 7 [])) [(T 40),(T 41)])] false) (.cond (T 42) (.seq (.reg [P 6 (.asg (.c (.bool true)) none)] false) .ret) .skip)) (.seq (.reg [P 44 (.fldA 2 (T 3)),P 45 (.ld 1 false (T 44)),M 46 9,P 47 (.ixA 5 (T 45) (T 46)),P 48 (.ld 5 true (T 47)),P 49 (.call (.c (.clo 20 [])) [(T 48)]),M 43 49,P 50 (.ext (T 43) 0),P 51 (.ext (T 43) 1),P 10 (.asg (T 50) none),P 11 (.asg (T 51) none)] false) (.seq (.reg [M 52 11,P 53 (.un .not (T 52)),M 54 53,⟨(some 55),(.mv (T 10)),(some ⟨54,false⟩),[]⟩,⟨(some 56),(.mv (T 2)),(some ⟨54,false⟩),[]⟩,⟨(some 57),(.bin .neq (T 55) (T 56)),(some ⟨54,false⟩),[]⟩,P 58 (.pick (T 54) (.c (.bool true)) (T 57))] false) (.cond (T 58) (.reg [M 59 8,P 60 (.ld 3 true (T 3)),M 61 9,P 62 (.call (.c (.clo 18 [])) [(T 60),(T 61)]),P 63 (.app 1 3 8 (T 59) (T 62)),⟨(some 8),(.asg (T 63) (some ⟨1,3⟩)),none,[]⟩] false) .skip)))))))))))) (.seq (.reg [P 6 (.asg (.c (.bool false)) none)] false) .ret)))))
theorem AdI : (Tryd.f8.body.bind (KJ Tryd.prog Tryd.f8.ntmps)) = some dc8:=by kernel_rfl
theorem AdJ : Tryd.f8.results.toList.mapM (KY Tryd.prog) = some [(.t 6)]:=by kernel_rfl
def RW (a : Ku × Int × Int) : List D:=[Lm a.1,.int .i64 a.2.1,.int .i64 a.2.2]
def RV (ds : List D) : Ku × Int × Int:=(Pu (ds.getD 0 .top),uI (ds.getD 1 .top),uI (ds.getD 2 .top))
theorem VB (a : Ku × Int × Int) : RV (RW a) = a:=by simp [RV,RW,uI]
def VZ (b : Bool) : D:=.bool b
def VY (_b : Bool) : List D:=[]
noncomputable def TJ : Dw.Spec:=KI [] .ground RW RV (fun a=>PW a.1 a.2.1 a.2.2) VZ VY
set_option maxHeartbeats 4000000 in
theorem XP : KF Tryd.prog 8 TJ:=by
 refine Lc (KW (l:=[(18,PK),(19,PL),(7,Qy),(20,NT)]) (by simp [VI,VJ,Wc,TQ])) Tryd.func8 (by decide) AdI AdJ (np:=3) (by decide) VB (fun _=>r) (fun _=>r) (by decide)<|?_
 rintro ⟨f1,k2,s3⟩
 show TrE (specs [(18,PK),(19,PL),(7,Qy),(20,NT)]) dc8 (Ld [] .ground [(.t 6)] VZ VY) ⟨[(0,.agg [.int .i64 f1.Params,.sl (f1.Slots.map Kv),.sl (f1.Code.map Kr)]),(1,.int .i64 k2),(2,.int .i64 s3)],[],262144⟩ (PW f1 k2 s3)
 refine KQ<|?_
 unfold dc8 PW
 refine sQ<|rG<|bX r r r r r<|aS r r<|nI<|xS<|sQ<|rG<|fA r r<|lO (v:=.sl (f1.Code.map Kr)) (z:=.agg [.int .i64 f1.Params,.sl (f1.Slots.map Kv),.sl (f1.Code.map Kr)]) r r r r r r<|lS r r<|cK fun hq=>mS (q:=false) D.bool r r r r hq r<|aO (l:=List.replicate (f1.Code.length : Int).toNat false) (en:=D.bool) r r r r<|nI<|xS<|sQ<|rG<|lO (v:=.agg [.int .i64 f1.Params,.sl (f1.Slots.map Kv),.sl (f1.Code.map Kr)]) (z:=.agg [.int .i64 f1.Params,.sl (f1.Slots.map Kv),.sl (f1.Code.map Kr)]) r r r r r r<|mV r r<|bD fun r4 hr4=>cR (l:=r4) (en:=Kp) (f1,k2) r r r OQ r r (by simp) r hr4 r<|aO (l:=r4) (en:=Kp) r r r r<|nI<|xS<|sQ<|bK<|lP (E:=fun (s : (List Bool) × (List Int)) (g : Nat × Nat × Nat)=>[(2,.int .i64 s3),(3,.optr 3 g.1 0 0),(7,.osl 7 g.2.1 0 s.1.length),(8,.osl 8 g.2.2 0 s.2.length)]) (O:=fun s g=>[(3,some (g.1,⟨false,true,3,27,[.agg [.int .i64 f1.Params,.sl (f1.Slots.map Kv),.sl (f1.Code.map Kr)]]⟩)),(7,some (g.2.1,⟨false,false,1,4,s.1.map D.bool⟩)),(8,some (g.2.2,⟨false,false,1,3,s.2.map Kp⟩))]) (body:=fun s=>QF f1 s3 s.1 s.2) (s:=(List.replicate (f1.Code.length : Int).toNat false,r4)) (_,_,_) ((hE ⟨rfl,r,r,r,trivial⟩ ⟨rfl,r,r,trivial⟩))<|?_
 rintro ⟨seen5,todo6⟩ ⟨v3x1,v7x1,v8x1⟩ nn
 try dsimp only
 unfold QF
 refine sQ<|sQ<|rG<|mV r r<|lW r r<|bN (v:=.bool (decide ((todo6.length : Int) > 0))) r r r r r<|nI<|xS<|cD (c:=(decide ((todo6.length : Int) > 0))) r ?_ ?_
 ·refine sK<|xS<|bK<|sQ<|rG<|mV r r<|cK fun hq=>iO (l:=todo6) (en:=Kp) r r r r r hq<|bD fun todo_e7 htodo_e7=>lO (v:=.int .i64 todo_e7) (z:=Kp todo_e7) r r r (Ma htodo_e7) r r<|aS r r<|nI<|xS<|sQ<|rG<|mV r r<|cK fun hq=>XH (l:=todo6) r r r r r r hq<|cK fun hq=>aP (([] : List Int)) (todo6.drop ((1 : Int).toNat)) Kp r r r r r r r (by first | (simp; done) | (simp; omega)) (Yw _ _ _) r r (by simp) r (fun _=>r) r hq<|aO (l:=([] : List Int) ++ (todo6.drop ((1 : Int).toNat))) (en:=Kp) r r r r<|nI<|xS<|sQ<|sQ<|rG<|mV r r<|mV r r<|cK fun hq=>iO (l:=seen5) (en:=D.bool) r r r r r hq<|bD fun seen_e8 hseen_e8=>lO (v:=.bool seen_e8) (z:=D.bool seen_e8) r r r (Ma hseen_e8) r r<|nI<|xS<|cD (c:=seen_e8) r ?_ ?_
  ·exact eT<|xE<|bH<|xL (s:=(seen5,([] : List Int) ++ (todo6.drop ((1 : Int).toNat)))) (_,_,_) ((hE ⟨rfl,r,r,r,trivial⟩ ⟨rfl,r,r,trivial⟩))
  ·refine sK<|xS<|sQ<|rG<|mV r r<|mV r r<|cK fun hq=>iO (l:=seen5) (en:=D.bool) r r r r r hq<|bD fun seen_o9 hseen_o9=>sE (l:=seen5) (en:=D.bool) (q':=true) r r r r r r r (by simp) hseen_o9 r r r r r<|nI<|xS<|sQ<|sQ<|rG<|fA r r<|lO (v:=.sl (f1.Code.map Kr)) (z:=.agg [.int .i64 f1.Params,.sl (f1.Slots.map Kv),.sl (f1.Code.map Kr)]) r r r r r r<|mV r r<|bD fun x_x10 hx_x10=>iS (en:=Kr) r r r hx_x10 r<|lF (v:=.agg [.int .i64 x_x10.Op,.int .i64 x_x10.A,.int .i64 x_x10.B,.int .i64 x_x10.C,.int .u64 x_x10.Imm]) r r r r<|bD fun r11 hr11=>cR (l:=r11) (en:=Kp) x_x10 r r r QJ r r (by simp) r hr11 r<|mV r r<|bD fun r12 hr12=>cG (r11,s3) r r r TM r r (by simp) (by first | rfl | (simp only [KA]; rfl) | (simp only [KC]; rfl) | (simp only [KA,KC]; rfl) | simp [QH]) hr12 r<|nI<|xS<|cD (c:=r12) r ?_ ?_
   ·refine sQ<|rG<|aS r r<|nI<|xS<|rT<|xR<|bR<|lR<|bR<|xR<|KN (b:=true) r ?_ r r ?_ r
    all_goals first|(simp;done)|(simp;omega)|rfl|(simp [KB,Kx];done)
   ·refine sK<|xS<|sQ<|rG<|fA r r<|lO (v:=.sl (f1.Code.map Kr)) (z:=.agg [.int .i64 f1.Params,.sl (f1.Slots.map Kv),.sl (f1.Code.map Kr)]) r r r r r r<|mV r r<|bD fun x_x13 hx_x13=>iS (en:=Kr) r r r hx_x13 r<|lF (v:=.agg [.int .i64 x_x13.Op,.int .i64 x_x13.A,.int .i64 x_x13.B,.int .i64 x_x13.C,.int .u64 x_x13.Imm]) r r r r<|bD fun r14 hr14=>cG x_x13 r r r QT r r (by simp) r hr14 r<|mV r r<|eX (v:=.int .i64 r14.1) r r r<|eX (v:=.bool r14.2) r r r<|aS r r<|aS r r<|nI<|xS<|sQ<|rG<|mV r r<|uN (w:=.bool (!r14.2)) r r r r trivial<|mV r r<|sP 54 (b:=(!r14.2)) r ?_ ?_
    ·exact oF r<|oF r<|oF r<|pT r r r r<|nI<|xS<|OA r<|rG<|mV r r<|lO (v:=.agg [.int .i64 f1.Params,.sl (f1.Slots.map Kv),.sl (f1.Code.map Kr)]) (z:=.agg [.int .i64 f1.Params,.sl (f1.Slots.map Kv),.sl (f1.Code.map Kr)]) r r r r r r<|mV r r<|bD fun r15 hr15=>cR (l:=r15) (en:=Kp) (f1,todo_e7) r r r OQ r r (by simp) r hr15 r<|cK fun hq=>aP (([] : List Int) ++ (todo6.drop ((1 : Int).toNat))) (r15) Kp r r r r r r r (by simp) (KG _ _ r) r r (by simp) (Kt _ _ r) (fun _=>r) r hq<|aO (l:=(([] : List Int) ++ (todo6.drop ((1 : Int).toNat))) ++ r15) (en:=Kp) r r r r<|nI<|bM<|xL (s:=(seen5.set todo_e7.toNat true,(([] : List Int) ++ (todo6.drop ((1 : Int).toNat))) ++ r15)) (_,_,_) ((hE ⟨rfl,r,(Tw (q:=seen5.length) r (by simp)),r,trivial⟩ ⟨rfl,r,r,trivial⟩))
    ·refine mV r r<|mV r r<|bN (v:=.bool (r14.1 != s3)) r r r r r<|pF r r r r<|nI<|xS<|cD (c:=(r14.1 != s3)) r ?_ ?_
     ·exact rG<|mV r r<|lO (v:=.agg [.int .i64 f1.Params,.sl (f1.Slots.map Kv),.sl (f1.Code.map Kr)]) (z:=.agg [.int .i64 f1.Params,.sl (f1.Slots.map Kv),.sl (f1.Code.map Kr)]) r r r r r r<|mV r r<|bD fun r16 hr16=>cR (l:=r16) (en:=Kp) (f1,todo_e7) r r r OQ r r (by simp) r hr16 r<|cK fun hq=>aP (([] : List Int) ++ (todo6.drop ((1 : Int).toNat))) (r16) Kp r r r r r r r (by simp) (KG _ _ r) r r (by simp) (Kt _ _ r) (fun _=>r) r hq<|aO (l:=(([] : List Int) ++ (todo6.drop ((1 : Int).toNat))) ++ r16) (en:=Kp) r r r r<|nI<|bM<|xL (s:=(seen5.set todo_e7.toNat true,(([] : List Int) ++ (todo6.drop ((1 : Int).toNat))) ++ r16)) (_,_,_) ((hE ⟨rfl,r,(Tw (q:=seen5.length) r (by simp)),r,trivial⟩ ⟨rfl,r,r,trivial⟩))
     ·exact sK<|bM<|xL (s:=(seen5.set todo_e7.toNat true,([] : List Int) ++ (todo6.drop ((1 : Int).toNat)))) (_,_,_) ((hE ⟨rfl,r,(Tw (q:=seen5.length) r (by simp)),r,trivial⟩ ⟨rfl,r,r,trivial⟩))
 ·refine eT<|xE<|lE<|bH<|xS<|sQ<|rG<|aS r r<|nI<|xS<|rT<|KN (b:=false) r ?_ r r ?_ r
  all_goals first|(simp;done)|(simp;omega)|rfl|(simp [KB,Kx];done)

def dc3 : KH:=(.seq (.reg [P 2 (.asg (.c (.bool false)) none)] false) (.seq (.seq (.reg [P 9 (.call (.c (.clo 4 [])) []),P 10 (.un .not (T 9))] false) (.cond (T 10) (.seq (.reg [P 2 (.asg (.c (.bool false)) none)] false) .ret) .skip)) (.seq (.reg [M 12 0,P 13 (.call (.c (.clo 5 [])) [(T 12)]),M 11 13,P 14 (.ext (T 11) 0),P 15 (.ext (T 11) 1),P 16 (.ext (T 11) 2),P 3 (.new (.agg [(.int .i64 0),.nils,.nils]) 3 27),P 4 (.new (.agg [.nils]) 1 30),⟨none,(.st 3 (T 3) (T 14)),none,[]⟩,⟨none,(.st 1 (T 4) (T 15)),none,[]⟩,P 5 (.asg (T 16) none)] false) (.seq (.reg [P 17 (.ld 3 true (T 3)),P 18 (.call (.c (.clo 6 [])) [(T 17)]),P 6 (.new (.agg [.nils]) 1 30),⟨none,(.st 1 (T 6) (T 18)),none,[]⟩] false) (.seq (.seq (.reg [P 19 (.fldA 0 (T 6)),P 20 (.ld 1 false (T 19)),P 21 (.len false (T 20)),P 22 (.fldA 2 (T 3)),P 23 (.ld 1 false (T 22)),P 24 (.len false (T 23)),P 25 (.bin .neq (T 21) (T 24))] false) (.cond (T 25) (.seq (.reg [P 2 (.asg (.c (.bool false)) none)] false) .ret) .skip)) (.seq (.seq (.reg [P 7 (.asg (C 0) none)] false) (.block 0 (.loop (.seq (.seq (.reg [M 26 7,P 27 (.fldA 2 (T 3)),P 28 (.ld 1 false (T 27)),P 29 (.len false (T 28)),P 30 (.bin .lss (T 26) (T 29))] false) (.cond (T 30) .skip (.exit 0))) (.seq (.block 1 (.seq (.reg [P 8 (.asg (C 0) none)] false) (.block 2 (.loop (.seq (.seq (.reg [M 33 8,P 34 (.fldA 1 (T 3)),P 35 (.ld 1 false (T 34)),P 36 (.len false (T 35)),P 37 (.bin .lss (T 33) (T 36))] false) (.cond (T 37) .skip (.exit 2))) (.seq (.block 3 (.seq (.reg [P 40 (.fldA 0 (T 6)),⟨(some 41),(.ld 1 false (T 40)),none,[0]⟩,M 42 7,⟨(some 43),(.ixA 1 (T 41) (T 42)),none,[1,2]⟩,⟨(some 44),(.ld 1 false (T 43)),none,[3]⟩,M 45 8,⟨(some 46),(.call (.c (.clo 7 [])) [(T 44),(T 45)]),none,[4,5]⟩,P 47 (.ld 3 true (T 3)),M 48 7,M 49 8,⟨(some 50),(.call (.c (.clo 8 [])) [(T 47),(T 48),(T 49)]),none,[7,8,9,6]⟩,⟨(some 51),(.eqB true (T 46) (T 50)),none,[6,10]⟩] true) (.cond (T 51) (.seq (.reg [P 2 (.asg (.c (.bool false)) none)] false) .ret) .skip))) (.reg [M 38 8,P 39 (.bin .add (T 38) (C 1)),P 8 (.asg (T 39) none)] false))))))) (.reg [M 31 7,P 32 (.bin .add (T 31) (C 1)),P 7 (.asg (T 32) none)] false)))))) (.seq (.reg [P 2 (.asg (.c (.bool true)) none)] false) .ret)))))))
theorem Ady : (Tryd.f3.body.bind (KJ Tryd.prog Tryd.f3.ntmps)) = some dc3:=by kernel_rfl
theorem Adz : Tryd.f3.results.toList.mapM (KY Tryd.prog) = some [(.t 2)]:=by kernel_rfl
def MD (a : (List Int)) : List D:=[.sl (a.map eU8)]
def MC (ds : List D) : (List Int):=(uL uI) (ds.getD 0 .top)
theorem Ot (a : (List Int)) : MC (MD a) = a:=by simp [MC,MD,Nd (u:=uI) (en:=eU8) (fun _=>rfl)]
def OD (b : Bool) : D:=.bool b
def OC (_b : Bool) : List D:=[]
noncomputable def SE : Dw.Spec:=KI [] .ground MD MC (fun a=>Lu a) OD OC
set_option maxHeartbeats 4000000 in
theorem RU : KF Tryd.prog 3 SE:=by
 refine Lc (KW (l:=[(4,SS),(5,SU),(6,Nq),(7,Qy),(8,TJ)]) (by simp [XA,XB,Tm,Wc,XP])) Tryd.func3 (by decide) Ady Adz (np:=1) (by decide) Ot (fun _=>r) (fun _=>r) (by decide)<|?_
 intro codes1
 show TrE (specs [(4,SS),(5,SU),(6,Nq),(7,Qy),(8,TJ)]) dc3 (Ld [] .ground [(.t 2)] OD OC) ⟨[(0,.sl (codes1.map eU8))],[],262144⟩ (Lu codes1)
 refine KQ<|?_
 unfold dc3 Lu
 refine sQ<|rG<|aS r r<|nI<|xS<|sQ<|sQ<|rG<|bD fun r2 hr2=>cG () r r r UJ r r (by simp) r hr2 r<|uN (w:=.bool (!r2)) r r r r trivial<|nI<|xS<|cD (c:=(!r2)) r ?_ ?_
 ·refine sQ<|rG<|aS r r<|nI<|xS<|rT<|xR<|KN (b:=false) r ?_ r r ?_ r
  all_goals first|(simp;done)|(simp;omega)|rfl|(simp [KB,Kx];done)
 ·refine sK<|xS<|sQ<|rG<|mV r r<|bD fun r3 hr3=>Xt (rs:=[Lm r3.1,OM r3.2.1,KO r3.2.2]) (z:=KO r3.2.2) codes1 r r r UK r r (by simp) r hr3 r r<|mV r r<|eX (v:=.agg [.int .i64 r3.1.Params,.sl (r3.1.Slots.map Kv),.sl (r3.1.Code.map Kr)]) r r r<|eX (v:=.agg [.sl (r3.2.1.Out.map (eL Kp))]) r r r<|eX (v:=.optr 13 _ 0 0) r r r<|nW r<|nW r<|sV (z':=.agg [.int .i64 r3.1.Params,.sl (r3.1.Slots.map Kv),.sl (r3.1.Code.map Kr)]) r r r r r r r r r<|sV (z':=.agg [.sl (r3.2.1.Out.map (eL Kp))]) r r r r r r r r r<|aS r r<|nI<|xS<|sQ<|rG<|lO (v:=.agg [.int .i64 r3.1.Params,.sl (r3.1.Slots.map Kv),.sl (r3.1.Code.map Kr)]) (z:=.agg [.int .i64 r3.1.Params,.sl (r3.1.Slots.map Kv),.sl (r3.1.Code.map Kr)]) r r r r r r<|bD fun r4 hr4=>cV r3.1 r r r Qo r r (by simp) r hr4<|nW r<|sV (z':=.agg [.sl (r4.Out.map (eL Kp))]) r r r r r r r r r<|nI<|xS<|sQ<|sQ<|rG<|fA r r<|lO (v:=.sl (r4.Out.map (eL Kp))) (z:=.agg [.sl (r4.Out.map (eL Kp))]) r r r r r r<|lS r r<|fA r r<|lO (v:=.sl (r3.1.Code.map Kr)) (z:=.agg [.int .i64 r3.1.Params,.sl (r3.1.Slots.map Kv),.sl (r3.1.Code.map Kr)]) r r r r r r<|lS r r<|bN (v:=.bool ((r4.Out.length : Int) != (r3.1.Code.length : Int))) r r r r r<|nI<|xS<|cD (c:=((r4.Out.length : Int) != (r3.1.Code.length : Int))) r ?_ ?_
  ·refine sQ<|rG<|aS r r<|nI<|xS<|rT<|xR<|KN (b:=false) r ?_ r r ?_ r
   all_goals first|(simp;done)|(simp;omega)|rfl|(simp [KB,Kx];done)
  ·refine sK<|xS<|sQ<|sQ<|rG<|aS r r<|nI<|xS<|bK<|lP (E:=fun (s : Int) (g : Nat × Nat)=>[(3,.optr 3 g.1 0 0),(6,.optr 6 g.2 0 0),(7,.int .i64 s)]) (O:=fun s g=>[(3,some (g.1,⟨false,true,3,27,[.agg [.int .i64 r3.1.Params,.sl (r3.1.Slots.map Kv),.sl (r3.1.Code.map Kr)]]⟩)),(6,some (g.2,⟨false,true,1,30,[.agg [.sl (r4.Out.map (eL Kp))]]⟩))]) (body:=fun s=>LU r3 r4 s) (s:=0) (_,_) ((hE ⟨rfl,r,r,trivial⟩ ⟨rfl,r,trivial⟩))<|?_
   rintro k5 ⟨v3x1,v6x1⟩ nn
   try dsimp only
   unfold LU
   refine sQ<|sQ<|rG<|mV r r<|fA r r<|lO (v:=.sl (r3.1.Code.map Kr)) (z:=.agg [.int .i64 r3.1.Params,.sl (r3.1.Slots.map Kv),.sl (r3.1.Code.map Kr)]) r r r r r r<|lS r r<|bN (v:=.bool (decide (k5 < (r3.1.Code.length : Int)))) r r r r r<|nI<|xS<|cD (c:=(decide (k5 < (r3.1.Code.length : Int)))) r ?_ ?_
   ·refine sK<|xS<|bC (E:=fun (s : Unit) (g : Nat × Nat)=>[(3,.optr 3 g.1 0 0),(6,.optr 6 g.2 0 0),(7,.int .i64 k5)]) (O:=fun s g=>[(3,some (g.1,⟨false,true,3,27,[.agg [.int .i64 r3.1.Params,.sl (r3.1.Slots.map Kv),.sl (r3.1.Code.map Kr)]]⟩)),(6,some (g.2,⟨false,true,1,30,[.agg [.sl (r4.Out.map (eL Kp))]]⟩))]) (j:=fun s=>LW k5) ?_ ?_
    ·refine sQ<|rG<|aS r r<|nI<|xS<|bK<|lP (E:=fun (s : Int) (g : Nat × Nat)=>[(3,.optr 3 g.1 0 0),(6,.optr 6 g.2 0 0),(7,.int .i64 k5),(8,.int .i64 s)]) (O:=fun s g=>[(3,some (g.1,⟨false,true,3,27,[.agg [.int .i64 r3.1.Params,.sl (r3.1.Slots.map Kv),.sl (r3.1.Code.map Kr)]]⟩)),(6,some (g.2,⟨false,true,1,30,[.agg [.sl (r4.Out.map (eL Kp))]]⟩))]) (body:=fun s=>LV r3 r4 k5 s) (s:=0) (_,_) ((hE ⟨rfl,r,r,r,trivial⟩ ⟨rfl,r,trivial⟩))<|?_
     rintro s6 ⟨v3x2,v6x2⟩ nn
     try dsimp only
     unfold LV
     refine sQ<|sQ<|rG<|mV r r<|fA r r<|lO (v:=.sl (r3.1.Slots.map Kv)) (z:=.agg [.int .i64 r3.1.Params,.sl (r3.1.Slots.map Kv),.sl (r3.1.Code.map Kr)]) r r r r r r<|lS r r<|bN (v:=.bool (decide (s6 < (r3.1.Slots.length : Int)))) r r r r r<|nI<|xS<|cD (c:=(decide (s6 < (r3.1.Slots.length : Int)))) r ?_ ?_
     ·refine sK<|xS<|sQ<|bK<|sQ<|rG<|fA r r<|lO (v:=.sl (r4.Out.map (eL Kp))) (z:=.agg [.sl (r4.Out.map (eL Kp))]) r r r r r r<|mV r r<|bD fun x_x7 hx_x7=>iS (en:=(eL Kp)) r r r hx_x7 r<|lF (v:=.sl (x_x7.map Kp)) r r r r<|mV r r<|bD fun r8 hr8=>cG (x_x7,s6) r r r TM r r (by simp) r hr8 r<|lO (v:=.agg [.int .i64 r3.1.Params,.sl (r3.1.Slots.map Kv),.sl (r3.1.Code.map Kr)]) (z:=.agg [.int .i64 r3.1.Params,.sl (r3.1.Slots.map Kv),.sl (r3.1.Code.map Kr)]) r r r r r r<|mV r r<|mV r r<|bD fun r9 hr9=>cG (r3.1,k5,s6) r r r VB r r (by simp) r hr9 r<|eB r r r<|KX (by kernel_rfl)<|xS<|cD (c:=(!(r8 == r9))) r ?_ ?_
      ·refine sQ<|rG<|aS r r<|nI<|xS<|rT<|bR<|xR<|lR<|bR<|yR<|lR<|bR<|xR<|KN (b:=false) r ?_ r r ?_ r
       all_goals first|(simp;done)|(simp;omega)|rfl|(simp [KB,Kx];done)
      ·exact sK<|bM<|xS<|rG<|mV r r<|bN (v:=.int .i64 (IntKind.i64.wrap (s6 + 1))) r r r r r<|aS r r<|nI<|xL (s:=IntKind.i64.wrap (s6 + 1)) (_,_) ((hE ⟨rfl,r,r,r,trivial⟩ ⟨rfl,r,trivial⟩))
     ·exact eT<|xE<|lE<|bH<|Pt (s:=()) (_,_) ((hE ⟨rfl,r,r,trivial⟩ ⟨rfl,r,trivial⟩))
    ·rintro ⟨⟩ ⟨v3x3,v6x3⟩ nn
     try dsimp only
     unfold LW
     exact rG<|mV r r<|bN (v:=.int .i64 (IntKind.i64.wrap (k5 + 1))) r r r r r<|aS r r<|nI<|xL (s:=IntKind.i64.wrap (k5 + 1)) (_,_) ((hE ⟨rfl,r,r,trivial⟩ ⟨rfl,r,trivial⟩))
   ·refine eT<|xE<|lE<|bH<|xS<|sQ<|rG<|aS r r<|nI<|xS<|rT<|KN (b:=true) r ?_ r r ?_ r
    all_goals first|(simp;done)|(simp;omega)|rfl|(simp [KB,Kx];done)

end Go.Proofs.YtjjmcedpoolghaaDoor
