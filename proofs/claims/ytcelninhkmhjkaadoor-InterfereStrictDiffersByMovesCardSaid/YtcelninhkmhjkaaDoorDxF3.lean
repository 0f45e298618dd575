/-
  Programs on typed data, and the proofs that the code does what they say; written by a program (dx.py).
-/
import Derived.Test.YtcelninhkmhjkaaDoorProg
import Derived.Test.YtcelninhkmhjkaaDoorDc
import Derived.KernelRfl
import Derived.Test.YtcelninhkmhjkaaDoorDxP
import Derived.Test.YtcelninhkmhjkaaDoorDxF1
import Derived.Test.YtcelninhkmhjkaaDoorDxF2
namespace Go.Proofs.YtcelninhkmhjkaaDoor
open Go Go.Dw Go.Proofs
set_option maxRecDepth 100000
open Go.Dw renaming Yl → mV,WB → bN,QO → lO,Vg → bD,WE → cK,WH → nI,WK → xS,Yn → rG,Yp → sQ,Rg → aO,WA → aS,WI → oF,WC → bL,Xv → bS,Qo → cV,Om → cG,Qn → cR,ZB → aP,QP → sV,Aaa → sE,SB → iS,Tf → iO,SC → lS,Tg → lW,Vh → fA,ZC → eX,TB → lF,TQ → sP,Po → pT,OL → pF,Ym → uN,WG → nW,WD → bX,Rf → aN,WL → cD,Vj → bK,Yo → rT,WO → sK,WM → eT,WJ → xC,Vi → xL,Ri → xR,Sq → lR,TK → hE,Pp → lE,Qq → bH,OM → bM,Rh → bR,Qr → xE,Xw → cP,WN → lP,SD → sC,Vk → bC,rf → r
def AdT : Kb:=(.seq (.reg [P 2 (.box (T 0) 5 66),⟨(some 4),(.asg (.c .nils) (some ⟨1,3⟩)),none,[]⟩] false) (.seq (.seq (.reg [P 8 (.ld 5 true (T 2)),P 9 (.call (.c (.clo 62 [])) [(T 8)]),M 7 9,P 10 (.ext (T 7) 0),P 11 (.ext (T 7) 1),P 5 (.asg (T 10) none),P 6 (.asg (T 11) none)] false) (.seq (.reg [M 12 6] false) (.cond (T 12) (.reg [M 13 1,M 14 5,P 15 (.call (.c (.clo 29 [])) [(T 13),(T 14)]),⟨(some 1),(.asg (T 15) (some ⟨1,3⟩)),none,[]⟩] false) .skip))) (.seq (.reg [M 16 1,P 17 (.ld 5 true (T 2)),P 18 (.call (.c (.clo 61 [])) [(T 17)]),P 19 (.call (.c (.clo 27 [])) [(T 16),(T 18)]),⟨(some 4),(.asg (T 19) (some ⟨1,3⟩)),none,[]⟩] false) .ret)))
theorem AgW : (Tryd.f75.body.bind (Kc Tryd.prog Tryd.f75.ntmps)) = some AdT:=by kernel_rfl
theorem AgX : Tryd.f75.results.toList.mapM (Kp Tryd.prog) = some [(.t 4)]:=by kernel_rfl
def Xo (a : JL × (List Int)) : List D:=[JN a.1,.sl (a.2.map JK)]
def Xn (ds : List D) : JL × (List Int):=(Qs (ds.getD 0 .top),(uL uI) (ds.getD 1 .top))
theorem ZZ (a : JL × (List Int)) : Xn (Xo a) = a:=by simp [Xn,Xo,LH (u:=uI) (en:=JK) (fun _=>rfl)]
def Aaq (b : (List Int)) : D:=.sl (b.map JK)
def Aap (_b : (List Int)) : List D:=[]
noncomputable def YA : Dw.Spec:=Ka [] (.row 1 3) Xo Xn (fun a=>UY a.1 a.2) Aaq Aap
set_option maxHeartbeats 4000000 in
theorem AbU : JX Tryd.prog 75 YA:=by
 refine Kl (Kg (l:=[(62,Us),(29,Qk),(61,Xp),(27,QV)]) (by simp [Aaf,XG,AaU,Yj])) Tryd.func75 (by decide) AgW AgX (np:=2) (by decide) ZZ (fun _=>r) (fun _=>r) (by decide)<|?_
 rintro ⟨x1,out2⟩
 show TrE (specs [(62,Us),(29,Qk),(61,Xp),(27,QV)]) AdT (Kr [] (.row 1 3) [(.t 4)] Aaq Aap) ⟨[(0,.agg [.int .i64 x1.Op,.int .i64 x1.A,.int .i64 x1.B,.int .i64 x1.C,.int .u64 x1.Imm]),(1,.sl (out2.map JK))],[],262144⟩ (UY x1 out2)
 refine Kd<|?_
 unfold AdT UY
 refine sQ<|rG<|bX r r r r r<|aN (α:=Int) r JK r<|nI<|xS<|sQ<|sQ<|rG<|lO (v:=.agg [.int .i64 x1.Op,.int .i64 x1.A,.int .i64 x1.B,.int .i64 x1.C,.int .u64 x1.Imm]) (z:=.agg [.int .i64 x1.Op,.int .i64 x1.A,.int .i64 x1.B,.int .i64 x1.C,.int .u64 x1.Imm]) r r r r r r<|bD fun r3 hr3=>cG x1 r r r Xm r r (by simp) r hr3 r<|mV r r<|eX (v:=.int .i64 r3.1) r r r<|eX (v:=.bool r3.2) r r r<|aS r r<|aS r r<|nI<|xS<|sQ<|rG<|mV r r<|nI<|xS<|cD (c:=r3.2) r ?_ ?_
 ·refine rG<|mV r r<|mV r r<|bD fun r4 hr4=>cR (l:=r4) (en:=JK) (out2,r3.1) r r r Up r r (by simp) r hr4 r<|aO (l:=r4) (en:=JK) r r r r<|nI<|xS<|sQ<|rG<|mV r r<|lO (v:=.agg [.int .i64 x1.Op,.int .i64 x1.A,.int .i64 x1.B,.int .i64 x1.C,.int .u64 x1.Imm]) (z:=.agg [.int .i64 x1.Op,.int .i64 x1.A,.int .i64 x1.B,.int .i64 x1.C,.int .u64 x1.Imm]) r r r r r r<|bD fun r5 hr5=>cR (l:=r5) (en:=JK) x1 r r r VS r r (by simp) r hr5 r<|bD fun r6 hr6=>cR (l:=r6) (en:=JK) (r4,r5) r r r Sv r r (by simp) (by first | rfl | (simp only [Kh,Km]; rfl) | simp [Oj]) hr6 r<|aO (l:=r6) (en:=JK) r r r r<|nI<|xS<|rT<|Ku (b:=r6) r ?_ r r ?_ r ?_ (congrArg D.sl (JS _ _ r)) r
  all_goals first|(simp;done)|(simp;omega)|rfl|(simp [JU,JQ];done)
 ·refine sK<|xS<|sQ<|rG<|mV r r<|lO (v:=.agg [.int .i64 x1.Op,.int .i64 x1.A,.int .i64 x1.B,.int .i64 x1.C,.int .u64 x1.Imm]) (z:=.agg [.int .i64 x1.Op,.int .i64 x1.A,.int .i64 x1.B,.int .i64 x1.C,.int .u64 x1.Imm]) r r r r r r<|bD fun r7 hr7=>cR (l:=r7) (en:=JK) x1 r r r VS r r (by simp) r hr7 r<|bD fun r8 hr8=>cR (l:=r8) (en:=JK) (out2,r7) r r r Sv r r (by simp) (by first | rfl | (simp only [Kh,Km]; rfl) | simp [Oj]) hr8 r<|aO (l:=r8) (en:=JK) r r r r<|nI<|xS<|rT<|Ku (b:=r8) r ?_ r r ?_ r ?_ (congrArg D.sl (JS _ _ r)) r
  all_goals first|(simp;done)|(simp;omega)|rfl|(simp [JU,JQ];done)

def Adx : Kb:=(.seq (.reg [P 2 (.box (T 0) 3 27),P 3 (.box (T 1) 1 30),P 4 (.new (.agg [.nils]) 1 30)] false) (.seq (.reg [P 10 (.fldA 2 (T 2)),P 11 (.ld 1 false (T 10)),P 12 (.len false (T 11)),P 13 (.mkS 1 36 24 .nils (T 12) (T 12)),⟨(some 14),(.bld [.nils] [⟨0,⟨1,(T 13)⟩⟩]),none,[]⟩,P 5 (.new (.agg [.nils]) 1 30),⟨none,(.st 1 (T 5) (T 14)),none,[]⟩] false) (.seq (.seq (.reg [P 6 (.asg (C 0) none)] false) (.block 0 (.loop (.seq (.seq (.reg [M 15 6,P 16 (.fldA 2 (T 2)),P 17 (.ld 1 false (T 16)),P 18 (.len false (T 17)),P 19 (.bin .lss (T 15) (T 18))] false) (.cond (T 19) .skip (.exit 0))) (.seq (.block 1 (.seq (.reg [P 22 (.ld 3 true (T 2)),M 23 6,P 24 (.call (.c (.clo 60 [])) [(T 22),(T 23)]),⟨(some 7),(.asg (T 24) (some ⟨1,3⟩)),none,[]⟩] false) (.seq (.reg [P 8 (.asg (C 0) none)] false) (.block 2 (.loop (.seq (.seq (.reg [M 25 8,M 26 7,P 27 (.len false (T 26)),P 28 (.bin .lss (T 25) (T 27))] false) (.cond (T 28) .skip (.exit 2))) (.seq (.block 3 (.seq (.reg [M 31 7,M 32 8,P 33 (.ixA 1 (T 31) (T 32)),P 34 (.ld 1 false (T 33)),P 9 (.asg (T 34) none)] false) (.reg [P 35 (.fldA 0 (T 5)),⟨(some 36),(.ld 1 false (T 35)),none,[0]⟩,M 37 6,P 38 (.fldA 0 (T 5)),⟨(some 39),(.ld 1 false (T 38)),none,[3]⟩,M 40 6,⟨(some 41),(.ixA 1 (T 39) (T 40)),none,[4,5]⟩,⟨(some 42),(.ld 1 false (T 41)),none,[6]⟩,P 43 (.fldA 2 (T 2)),⟨(some 44),(.ld 1 false (T 43)),none,[8]⟩,M 45 9,⟨(some 46),(.ixA 5 (T 44) (T 45)),none,[9,10]⟩,⟨(some 47),(.ld 5 true (T 46)),none,[11]⟩,P 48 (.fldA 0 (T 3)),⟨(some 49),(.ld 1 false (T 48)),none,[13]⟩,M 50 9,⟨(some 51),(.ixA 1 (T 49) (T 50)),none,[14,15]⟩,⟨(some 52),(.ld 1 false (T 51)),none,[16]⟩,⟨(some 53),(.call (.c (.clo 75 [])) [(T 47),(T 52)]),none,[12,17]⟩,⟨(some 54),(.call (.c (.clo 27 [])) [(T 42),(T 53)]),none,[7,18,18]⟩,⟨(some 55),(.ixA 1 (T 36) (T 37)),none,[1,2,0,1,2,3,4,5,6,7,8,9,10,11,12,13,14,15,16,17,18,19]⟩,⟨none,(.st 1 (T 55) (T 54)),none,[20,19,19,0,1,2,3,4,5,6,7,8,9,10,11,12,13,14,15,16,17,18,19]⟩] true))) (.reg [M 29 8,P 30 (.bin .add (T 29) (C 1)),P 8 (.asg (T 30) none)] false)))))))) (.reg [M 20 6,P 21 (.bin .add (T 20) (C 1)),P 6 (.asg (T 21) none)] false)))))) (.seq (.reg [P 56 (.ld 1 true (T 5)),⟨none,(.st 1 (T 4) (T 56)),none,[]⟩] false) .ret))))
theorem Age : (Tryd.f38.body.bind (Kc Tryd.prog Tryd.f38.ntmps)) = some Adx:=by kernel_rfl
theorem Agf : Tryd.f38.results.toList.mapM (Kp Tryd.prog) = some [(.c 4 1 true)]:=by kernel_rfl
def Vf (a : JO × JV) : List D:=[Kv a.1,Lt a.2]
def Ve (ds : List D) : JO × JV:=(MP (ds.getD 0 .top),PE (ds.getD 1 .top))
theorem YU (a : JO × JV) : Ve (Vf a) = a:=by simp [Ve,Vf]
def Xr (b : JV) : D:=Lt b
def Zu (_b : JV) : List D:=[]
noncomputable def Xs : Dw.Spec:=Ka [] .val Vf Ve (fun a=>SA a.1 a.2) Xr Zu
set_option maxHeartbeats 4000000 in
theorem AaW : JX Tryd.prog 38 Xs:=by
 refine Kl (Kg (l:=[(60,Xl),(75,YA),(27,QV)]) (by simp [AaT,AbU,Yj])) Tryd.func38 (by decide) Age Agf (np:=2) (by decide) YU (fun _=>r) (fun _=>r) (by decide)<|?_
 rintro ⟨f1,l2⟩
 show TrE (specs [(60,Xl),(75,YA),(27,QV)]) Adx (Kr [] .val [(.c 4 1 true)] Xr Zu) ⟨[(0,.agg [.int .i64 f1.Params,.sl (f1.Slots.map JP),.sl (f1.Code.map JN)]),(1,.agg [.sl (l2.Out.map (eL JK))])],[],262144⟩ (SA f1 l2)
 refine Kd<|?_
 unfold Adx SA
 refine sQ<|rG<|bX r r r r r<|bX r r r r r<|nW r<|nI<|xS<|sQ<|rG<|fA r r<|lO (v:=.sl (f1.Code.map JN)) (z:=.agg [.int .i64 f1.Params,.sl (f1.Slots.map JP),.sl (f1.Code.map JN)]) r r r r r r<|lS r r<|cK fun hq=>Th (α:=Int) r r r hq r<|bL (cs:=[.osl 13 _ 0 ((List.replicate (f1.Code.length : Int).toNat ([] : (List Int))).length)]) (ps:=[(0,1,.osl 13 _ 0 ((List.replicate (f1.Code.length : Int).toNat ([] : (List Int))).length))]) r r r r<|nW r<|sV (z':=.agg [.osl 13 _ 0 ((List.replicate (f1.Code.length : Int).toNat ([] : (List Int))).length)]) r r r r r r r r r<|nI<|Lu (E:=[(2,.optr 2 _ 0 0),(3,.optr 3 _ 0 0),(4,.optr 4 _ 0 0),(5,.optr 5 _ 0 0)]) (O:=[(2,some (_,⟨false,true,3,27,[.agg [.int .i64 f1.Params,.sl (f1.Slots.map JP),.sl (f1.Code.map JN)]]⟩)),(3,some (_,⟨false,true,1,30,[.agg [.sl (l2.Out.map (eL JK))]]⟩)),(4,some (_,⟨false,true,1,30,[.agg [.nils]]⟩)),(5,some (_,⟨false,true,1,30,[.agg [.osl 13 _ 0 ((List.replicate (f1.Code.length : Int).toNat ([] : (List Int))).length)]]⟩)),(13,some (_,⟨false,false,1,36,(List.replicate (f1.Code.length : Int).toNat ([] : (List Int))).map (eL JK)⟩))]) ((AaH (g:=13) r (AbC (l:=List.replicate (f1.Code.length : Int).toNat ([] : (List Int))) JK (fun _ h=>List.eq_of_mem_replicate h)) (hE ⟨rfl,r,r,r,trivial⟩ ⟨rfl,r,r,r,r,trivial⟩))) fun nn=>sQ<|sQ<|rG<|aS r r<|nI<|xS<|bK<|lP (E:=fun (s : (List (List Int)) × Int) (g : Nat × Nat × Nat × Nat × Nat)=>[(2,.optr 2 g.1 0 0),(3,.optr 3 g.2.1 0 0),(4,.optr 4 g.2.2.1 0 0),(5,.optr 5 g.2.2.2.1 0 0),(6,.int .i64 s.2)]) (O:=fun s g=>[(2,some (g.1,⟨false,true,3,27,[.agg [.int .i64 f1.Params,.sl (f1.Slots.map JP),.sl (f1.Code.map JN)]]⟩)),(3,some (g.2.1,⟨false,true,1,30,[.agg [.sl (l2.Out.map (eL JK))]]⟩)),(4,some (g.2.2.1,⟨false,true,1,30,[.agg [.nils]]⟩)),(5,some (g.2.2.2.1,⟨false,true,1,30,[.agg [.osl 13 g.2.2.2.2 0 s.1.length]]⟩)),(13,some (g.2.2.2.2,⟨false,false,1,36,s.1.map (eL JK)⟩))]) (body:=fun s=>Pm f1 l2 s.1 s.2) (s:=(List.replicate (f1.Code.length : Int).toNat ([] : (List Int)),0)) (_,_,_,_,_) ((hE ⟨rfl,r,r,r,r,trivial⟩ ⟨rfl,r,r,r,r,trivial⟩))<|?_
 rintro ⟨x3,k4⟩ ⟨v2x1,v3x1,v4x1,v5x1,v13x1⟩ nn
 try dsimp only
 unfold Pm
 refine sQ<|sQ<|rG<|mV r r<|fA r r<|lO (v:=.sl (f1.Code.map JN)) (z:=.agg [.int .i64 f1.Params,.sl (f1.Slots.map JP),.sl (f1.Code.map JN)]) r r r r r r<|lS r r<|bN (v:=.bool (decide (k4 < (f1.Code.length : Int)))) r r r r r<|nI<|xS<|cD (c:=(decide (k4 < (f1.Code.length : Int)))) r ?_ ?_
 ·refine sK<|xS<|bC (E:=fun (s : (List (List Int))) (g : Nat × Nat × Nat × Nat × Nat)=>[(2,.optr 2 g.1 0 0),(3,.optr 3 g.2.1 0 0),(4,.optr 4 g.2.2.1 0 0),(5,.optr 5 g.2.2.2.1 0 0),(6,.int .i64 k4)]) (O:=fun s g=>[(2,some (g.1,⟨false,true,3,27,[.agg [.int .i64 f1.Params,.sl (f1.Slots.map JP),.sl (f1.Code.map JN)]]⟩)),(3,some (g.2.1,⟨false,true,1,30,[.agg [.sl (l2.Out.map (eL JK))]]⟩)),(4,some (g.2.2.1,⟨false,true,1,30,[.agg [.nils]]⟩)),(5,some (g.2.2.2.1,⟨false,true,1,30,[.agg [.osl 13 g.2.2.2.2 0 s.length]]⟩)),(13,some (g.2.2.2.2,⟨false,false,1,36,s.map (eL JK)⟩))]) (j:=fun s=>Tm k4 s) ?_ ?_
  ·refine sQ<|rG<|lO (v:=.agg [.int .i64 f1.Params,.sl (f1.Slots.map JP),.sl (f1.Code.map JN)]) (z:=.agg [.int .i64 f1.Params,.sl (f1.Slots.map JP),.sl (f1.Code.map JN)]) r r r r r r<|mV r r<|bD fun r6 hr6=>cR (l:=r6) (en:=JK) (f1,k4) r r r YQ r r (by simp) r hr6 r<|aO (l:=r6) (en:=JK) r r r r<|nI<|xS<|sQ<|rG<|aS r r<|nI<|xS<|bK<|lP (E:=fun (s : (List (List Int)) × Int) (g : Nat × Nat × Nat × Nat × Nat × Nat)=>[(2,.optr 2 g.1 0 0),(3,.optr 3 g.2.1 0 0),(4,.optr 4 g.2.2.1 0 0),(5,.optr 5 g.2.2.2.1 0 0),(6,.int .i64 k4),(7,.osl 7 g.2.2.2.2.1 0 r6.length),(8,.int .i64 s.2)]) (O:=fun s g=>[(2,some (g.1,⟨false,true,3,27,[.agg [.int .i64 f1.Params,.sl (f1.Slots.map JP),.sl (f1.Code.map JN)]]⟩)),(3,some (g.2.1,⟨false,true,1,30,[.agg [.sl (l2.Out.map (eL JK))]]⟩)),(4,some (g.2.2.1,⟨false,true,1,30,[.agg [.nils]]⟩)),(5,some (g.2.2.2.1,⟨false,true,1,30,[.agg [.osl 13 g.2.2.2.2.2 0 s.1.length]]⟩)),(7,some (g.2.2.2.2.1,⟨false,false,1,3,r6.map JK⟩)),(13,some (g.2.2.2.2.2,⟨false,false,1,36,s.1.map (eL JK)⟩))]) (body:=fun s=>Pn r6 k4 f1 l2 s.1 s.2) (s:=(x3,0)) (_,_,_,_,_,_) ((hE ⟨rfl,r,r,r,r,r,r,trivial⟩ ⟨rfl,r,r,r,r,r,trivial⟩))<|?_
   rintro ⟨x7,i8⟩ ⟨v2x2,v3x2,v4x2,v5x2,v7x2,v13x2⟩ nn
   try dsimp only
   unfold Pn
   refine sQ<|sQ<|rG<|mV r r<|mV r r<|lW r r<|bN (v:=.bool (decide (i8 < (r6.length : Int)))) r r r r r<|nI<|xS<|cD (c:=(decide (i8 < (r6.length : Int)))) r ?_ ?_
   ·exact sK<|xS<|sQ<|bK<|sQ<|rG<|mV r r<|mV r r<|cK fun hq=>iO (l:=r6) (en:=JK) r r r r r hq<|bD fun next_e9 hnext_e9=>lO (v:=.int .i64 next_e9) (z:=JK next_e9) r r r (Mt hnext_e9) r r<|aS r r<|nI<|xS<|rG<|fA r r<|lO (v:=.osl 13 _ 0 x7.length) (z:=.agg [.osl 13 _ 0 x7.length]) r r r r r r<|mV r r<|fA r r<|lO (v:=.osl 13 _ 0 x7.length) (z:=.agg [.osl 13 _ 0 x7.length]) r r r r r r<|mV r r<|cK fun hq=>iO (l:=x7) (en:=(eL JK)) r r r r r hq<|bD fun x_e10 hx_e10=>lO (v:=.sl (x_e10.map JK)) (z:=(eL JK) x_e10) r r r (Mt hx_e10) r r<|fA r r<|lO (v:=.sl (f1.Code.map JN)) (z:=.agg [.int .i64 f1.Params,.sl (f1.Slots.map JP),.sl (f1.Code.map JN)]) r r r r r r<|mV r r<|bD fun x_x11 hx_x11=>iS (en:=JN) r r r hx_x11 r<|lF (v:=.agg [.int .i64 x_x11.Op,.int .i64 x_x11.A,.int .i64 x_x11.B,.int .i64 x_x11.C,.int .u64 x_x11.Imm]) r r r r<|fA r r<|lO (v:=.sl (l2.Out.map (eL JK))) (z:=.agg [.sl (l2.Out.map (eL JK))]) r r r r r r<|mV r r<|bD fun x_x12 hx_x12=>iS (en:=(eL JK)) r r r hx_x12 r<|lF (v:=.sl (x_x12.map JK)) r r r r<|bD fun r13 hr13=>cR (l:=r13) (en:=JK) (x_x11,x_x12) r r r ZZ r r (by simp) r hr13 r<|bD fun r14 hr14=>cR (l:=r14) (en:=JK) (x_e10,r13) r r r Sv r r (by simp) (by first | rfl | (simp only [Kh,Km]; rfl) | simp [Oj]) hr14 r<|cK fun hq=>iO (l:=x7) (en:=(eL JK)) r r r r r hq<|bD fun x_o15 hx_o15=>sE (l:=x7) (en:=(eL JK)) (q':=r14) r r r r r r r (by simp) hx_o15 r r r (by simp [Lj,cells,setAt,eL]) r<|Ki (by kernel_rfl)<|bM<|xS<|rG<|mV r r<|bN (v:=.int .i64 (IntKind.i64.wrap (i8 + 1))) r r r r r<|aS r r<|nI<|xL (s:=(x7.set k4.toNat r14,IntKind.i64.wrap (i8 + 1))) (_,_,_,_,_,_) ((hE ⟨rfl,r,r,r,r,r,r,trivial⟩ ⟨rfl,r,r,(Eq.trans (b:=some (_,⟨false,true,1,30,[.agg [.osl 13 _ 0 x7.length]]⟩)) r (by simp)),r,r,trivial⟩))
   ·exact eT<|xE<|lE<|bH<|Ng (s:=x7) (_,_,_,_,_) ((hE ⟨rfl,r,r,r,r,trivial⟩ ⟨rfl,r,r,r,r,trivial⟩))
  ·rintro x5 ⟨v2x3,v3x3,v4x3,v5x3,v13x3⟩ nn
   try dsimp only
   unfold Tm
   exact rG<|mV r r<|bN (v:=.int .i64 (IntKind.i64.wrap (k4 + 1))) r r r r r<|aS r r<|nI<|xL (s:=(x5,IntKind.i64.wrap (k4 + 1))) (_,_,_,_,_) ((hE ⟨rfl,r,r,r,r,trivial⟩ ⟨rfl,r,r,r,r,trivial⟩))
 ·refine eT<|xE<|lE<|bH<|xS<|sQ<|rG<|lO (v:=.agg [.osl 13 _ 0 x3.length]) (z:=.agg [.osl 13 _ 0 x3.length]) r r r r r r<|sV (z':=.agg [.osl 13 _ 0 x3.length]) r r r r r r r r r<|nI<|xS<|rT<|KC (b:=(JV.mk x3)) r ?_ r r ?_ (by first | rfl | (simp only [Kh,Km]; rfl) | simp [Xr,Lt])
  all_goals first|(simp;done)|(simp;omega)|rfl|(simp [JU,JQ];done)

def AdR : Kb:=(.seq (.reg [P 4 (.asg (.c (.bool false)) none)] false) (.seq (.seq (.reg [M 6 0,P 7 (.len false (T 6)),M 8 1,P 9 (.len false (T 8)),P 10 (.bin .neq (T 7) (T 9))] false) (.cond (T 10) (.seq (.reg [P 4 (.asg (.c (.bool false)) none)] false) .ret) .skip)) (.seq (.seq (.reg [P 5 (.asg (C 0) none)] false) (.block 0 (.loop (.seq (.seq (.reg [M 11 5,M 12 0,P 13 (.len false (T 12)),P 14 (.bin .lss (T 11) (T 13))] false) (.cond (T 14) .skip (.exit 0))) (.seq (.block 1 (.seq (.reg [M 17 0,M 18 5,⟨(some 19),(.ixA 1 (T 17) (T 18)),none,[0,1]⟩,⟨(some 20),(.ld 1 false (T 19)),none,[2]⟩,M 21 1,M 22 5,⟨(some 23),(.ixA 1 (T 21) (T 22)),none,[4,5]⟩,⟨(some 24),(.ld 1 false (T 23)),none,[6]⟩,⟨(some 25),(.bin .neq (T 20) (T 24)),none,[3,7]⟩] true) (.cond (T 25) (.seq (.reg [P 4 (.asg (.c (.bool false)) none)] false) .ret) .skip))) (.reg [M 15 5,P 16 (.bin .add (T 15) (C 1)),P 5 (.asg (T 16) none)] false)))))) (.seq (.reg [P 4 (.asg (.c (.bool true)) none)] false) .ret))))
theorem AgS : (Tryd.f73.body.bind (Kc Tryd.prog Tryd.f73.ntmps)) = some AdR:=by kernel_rfl
theorem AgT : Tryd.f73.results.toList.mapM (Kp Tryd.prog) = some [(.t 4)]:=by kernel_rfl
def US (a : (List Int) × (List Int)) : List D:=[.sl (a.1.map JK),.sl (a.2.map JK)]
def UR (ds : List D) : (List Int) × (List Int):=((uL uI) (ds.getD 0 .top),(uL uI) (ds.getD 1 .top))
theorem YM (a : (List Int) × (List Int)) : UR (US a) = a:=by simp [UR,US,LH (u:=uI) (en:=JK) (fun _=>rfl)]
def Zk (b : Bool) : D:=.bool b
def Zj (_b : Bool) : List D:=[]
noncomputable def Xj : Dw.Spec:=Ka [] .ground US UR (fun a=>Su a.1 a.2) Zk Zj
set_option maxHeartbeats 4000000 in
theorem AaR : JX Tryd.prog 73 Xj:=by
 refine Kl (KM) Tryd.func73 (by decide) AgS AgT (np:=2) (by decide) YM (fun _=>r) (fun _=>r) (by decide)<|?_
 rintro ⟨a1,b2⟩
 show TrE (specs []) AdR (Kr [] .ground [(.t 4)] Zk Zj) ⟨[(0,.sl (a1.map JK)),(1,.sl (b2.map JK))],[],262144⟩ (Su a1 b2)
 refine Kd<|?_
 unfold AdR Su
 refine sQ<|rG<|aS r r<|nI<|xS<|sQ<|sQ<|rG<|mV r r<|lS r r<|mV r r<|lS r r<|bN (v:=.bool ((a1.length : Int) != (b2.length : Int))) r r r r r<|nI<|xS<|cD (c:=((a1.length : Int) != (b2.length : Int))) r ?_ ?_
 ·refine sQ<|rG<|aS r r<|nI<|xS<|rT<|xR<|JZ (b:=false) r ?_ r r ?_ r
  all_goals first|(simp;done)|(simp;omega)|rfl|(simp [JU,JQ];done)
 ·refine sK<|xS<|sQ<|sQ<|rG<|aS r r<|nI<|xS<|bK<|lP (E:=fun (s : Int) (g : Unit)=>[(0,.sl (a1.map JK)),(1,.sl (b2.map JK)),(5,.int .i64 s)]) (O:=fun s g=>[]) (body:=fun s=>Ou a1 b2 s) (s:=0) () ((hE ⟨rfl,r,r,trivial⟩ trivial))<|?_
  rintro i3 ⟨⟩ nn
  try dsimp only
  unfold Ou
  refine sQ<|sQ<|rG<|mV r r<|mV r r<|lS r r<|bN (v:=.bool (decide (i3 < (a1.length : Int)))) r r r r r<|nI<|xS<|cD (c:=(decide (i3 < (a1.length : Int)))) r ?_ ?_
  ·refine sK<|xS<|sQ<|bK<|sQ<|rG<|mV r r<|mV r r<|bD fun x_x4 hx_x4=>iS (en:=JK) r r r hx_x4 r<|lF (v:=.int .i64 x_x4) r r r r<|mV r r<|mV r r<|bD fun x_x5 hx_x5=>iS (en:=JK) r r r hx_x5 r<|lF (v:=.int .i64 x_x5) r r r r<|bN (v:=.bool (x_x4 != x_x5)) r r r r r<|Ki (by kernel_rfl)<|xS<|cD (c:=(x_x4 != x_x5)) r ?_ ?_
   ·refine sQ<|rG<|aS r r<|nI<|xS<|rT<|bR<|xR<|lR<|bR<|xR<|JZ (b:=false) r ?_ r r ?_ r
    all_goals first|(simp;done)|(simp;omega)|rfl|(simp [JU,JQ];done)
   ·exact sK<|bM<|xS<|rG<|mV r r<|bN (v:=.int .i64 (IntKind.i64.wrap (i3 + 1))) r r r r r<|aS r r<|nI<|xL (s:=IntKind.i64.wrap (i3 + 1)) () ((hE ⟨rfl,r,r,trivial⟩ trivial))
  ·refine eT<|xE<|lE<|bH<|xS<|sQ<|rG<|aS r r<|nI<|xS<|rT<|JZ (b:=true) r ?_ r r ?_ r
   all_goals first|(simp;done)|(simp;omega)|rfl|(simp [JU,JQ];done)

def Adw : Kb:=(.seq (.reg [P 4 (.asg (.c (.bool false)) none)] false) (.seq (.seq (.reg [M 6 0,P 7 (.len false (T 6)),M 8 1,P 9 (.len false (T 8)),P 10 (.bin .neq (T 7) (T 9))] false) (.cond (T 10) (.seq (.reg [P 4 (.asg (.c (.bool false)) none)] false) .ret) .skip)) (.seq (.seq (.reg [P 5 (.asg (C 0) none)] false) (.block 0 (.loop (.seq (.seq (.reg [M 11 5,M 12 0,P 13 (.len false (T 12)),P 14 (.bin .lss (T 11) (T 13))] false) (.cond (T 14) .skip (.exit 0))) (.seq (.block 1 (.seq (.reg [M 17 0,M 18 5,⟨(some 19),(.ixA 1 (T 17) (T 18)),none,[0,1]⟩,⟨(some 20),(.ld 1 false (T 19)),none,[2]⟩,M 21 1,M 22 5,⟨(some 23),(.ixA 1 (T 21) (T 22)),none,[4,5]⟩,⟨(some 24),(.ld 1 false (T 23)),none,[6]⟩,⟨(some 25),(.call (.c (.clo 73 [])) [(T 20),(T 24)]),none,[3,7]⟩,⟨(some 26),(.un .not (T 25)),none,[8]⟩] true) (.cond (T 26) (.seq (.reg [P 4 (.asg (.c (.bool false)) none)] false) .ret) .skip))) (.reg [M 15 5,P 16 (.bin .add (T 15) (C 1)),P 5 (.asg (T 16) none)] false)))))) (.seq (.reg [P 4 (.asg (.c (.bool true)) none)] false) .ret))))
theorem Agc : (Tryd.f35.body.bind (Kc Tryd.prog Tryd.f35.ntmps)) = some Adw:=by kernel_rfl
theorem Agd : Tryd.f35.results.toList.mapM (Kp Tryd.prog) = some [(.t 4)]:=by kernel_rfl
def SX (a : (List (List Int)) × (List (List Int))) : List D:=[.sl (a.1.map (eL JK)),.sl (a.2.map (eL JK))]
def SW (ds : List D) : (List (List Int)) × (List (List Int)):=((uL (uL uI)) (ds.getD 0 .top),(uL (uL uI)) (ds.getD 1 .top))
theorem Xi (a : (List (List Int)) × (List (List Int))) : SW (SX a) = a:=by simp [SW,SX,LH (u:=(uL uI)) (en:=(eL JK)) (LH (u:=uI) (en:=JK) (fun _=>rfl))]
def XI (b : Bool) : D:=.bool b
def XH (_b : Bool) : List D:=[]
noncomputable def Uq : Dw.Spec:=Ka [] .ground SX SW (fun a=>Pl a.1 a.2) XI XH
set_option maxHeartbeats 4000000 in
theorem Aae : JX Tryd.prog 35 Uq:=by
 refine Kl (Kg (l:=[(73,Xj)]) (by simp [AaR])) Tryd.func35 (by decide) Agc Agd (np:=2) (by decide) Xi (fun _=>r) (fun _=>r) (by decide)<|?_
 rintro ⟨a1,b2⟩
 show TrE (specs [(73,Xj)]) Adw (Kr [] .ground [(.t 4)] XI XH) ⟨[(0,.sl (a1.map (eL JK))),(1,.sl (b2.map (eL JK)))],[],262144⟩ (Pl a1 b2)
 refine Kd<|?_
 unfold Adw Pl
 refine sQ<|rG<|aS r r<|nI<|xS<|sQ<|sQ<|rG<|mV r r<|lS r r<|mV r r<|lS r r<|bN (v:=.bool ((a1.length : Int) != (b2.length : Int))) r r r r r<|nI<|xS<|cD (c:=((a1.length : Int) != (b2.length : Int))) r ?_ ?_
 ·refine sQ<|rG<|aS r r<|nI<|xS<|rT<|xR<|JZ (b:=false) r ?_ r r ?_ r
  all_goals first|(simp;done)|(simp;omega)|rfl|(simp [JU,JQ];done)
 ·refine sK<|xS<|sQ<|sQ<|rG<|aS r r<|nI<|xS<|bK<|lP (E:=fun (s : Int) (g : Unit)=>[(0,.sl (a1.map (eL JK))),(1,.sl (b2.map (eL JK))),(5,.int .i64 s)]) (O:=fun s g=>[]) (body:=fun s=>MF a1 b2 s) (s:=0) () ((hE ⟨rfl,r,r,trivial⟩ trivial))<|?_
  rintro i3 ⟨⟩ nn
  try dsimp only
  unfold MF
  refine sQ<|sQ<|rG<|mV r r<|mV r r<|lS r r<|bN (v:=.bool (decide (i3 < (a1.length : Int)))) r r r r r<|nI<|xS<|cD (c:=(decide (i3 < (a1.length : Int)))) r ?_ ?_
  ·refine sK<|xS<|sQ<|bK<|sQ<|rG<|mV r r<|mV r r<|bD fun x_x4 hx_x4=>iS (en:=(eL JK)) r r r hx_x4 r<|lF (v:=.sl (x_x4.map JK)) r r r r<|mV r r<|mV r r<|bD fun x_x5 hx_x5=>iS (en:=(eL JK)) r r r hx_x5 r<|lF (v:=.sl (x_x5.map JK)) r r r r<|bD fun r6 hr6=>cG (x_x4,x_x5) r r r YM r r (by simp) r hr6 r<|uN (w:=.bool (!r6)) r r r r trivial<|Ki (by kernel_rfl)<|xS<|cD (c:=(!r6)) r ?_ ?_
   ·refine sQ<|rG<|aS r r<|nI<|xS<|rT<|bR<|xR<|lR<|bR<|xR<|JZ (b:=false) r ?_ r r ?_ r
    all_goals first|(simp;done)|(simp;omega)|rfl|(simp [JU,JQ];done)
   ·exact sK<|bM<|xS<|rG<|mV r r<|bN (v:=.int .i64 (IntKind.i64.wrap (i3 + 1))) r r r r r<|aS r r<|nI<|xL (s:=IntKind.i64.wrap (i3 + 1)) () ((hE ⟨rfl,r,r,trivial⟩ trivial))
  ·refine eT<|xE<|lE<|bH<|xS<|sQ<|rG<|aS r r<|nI<|xS<|rT<|JZ (b:=true) r ?_ r r ?_ r
   all_goals first|(simp;done)|(simp;omega)|rfl|(simp [JU,JQ];done)

def Adu : Kb:=(.seq (.reg [P 2 (.box (T 0) 1 30),P 3 (.box (T 1) 1 30),P 4 (.asg (.c (.bool false)) none)] false) (.seq (.reg [P 5 (.fldA 0 (T 2)),P 6 (.ld 1 false (T 5)),P 7 (.fldA 0 (T 3)),P 8 (.ld 1 false (T 7)),P 9 (.call (.c (.clo 35 [])) [(T 6),(T 8)]),P 4 (.asg (T 9) none)] false) .ret))
theorem AfY : (Tryd.f31.body.bind (Kc Tryd.prog Tryd.f31.ntmps)) = some Adu:=by kernel_rfl
theorem AfZ : Tryd.f31.results.toList.mapM (Kp Tryd.prog) = some [(.t 4)]:=by kernel_rfl
def Vc (a : JV × JV) : List D:=[Lt a.1,Lt a.2]
def Vb (ds : List D) : JV × JV:=(PE (ds.getD 0 .top),PE (ds.getD 1 .top))
theorem YR (a : JV × JV) : Vb (Vc a) = a:=by simp [Vb,Vc]
def Zt (b : Bool) : D:=.bool b
def Zs (_b : Bool) : List D:=[]
noncomputable def Xq : Dw.Spec:=Ka [] .ground Vc Vb (fun a=>Sy a.1 a.2) Zt Zs
set_option maxHeartbeats 4000000 in
theorem AaV : JX Tryd.prog 31 Xq:=by
 refine Kl (Kg (l:=[(35,Uq)]) (by simp [Aae])) Tryd.func31 (by decide) AfY AfZ (np:=2) (by decide) YR (fun _=>r) (fun _=>r) (by decide)<|?_
 rintro ⟨a1,b2⟩
 show TrE (specs [(35,Uq)]) Adu (Kr [] .ground [(.t 4)] Zt Zs) ⟨[(0,.agg [.sl (a1.Out.map (eL JK))]),(1,.agg [.sl (b2.Out.map (eL JK))])],[],262144⟩ (Sy a1 b2)
 refine Kd<|?_
 unfold Adu Sy
 refine sQ<|rG<|bX r r r r r<|bX r r r r r<|aS r r<|nI<|xS<|sQ<|rG<|fA r r<|lO (v:=.sl (a1.Out.map (eL JK))) (z:=.agg [.sl (a1.Out.map (eL JK))]) r r r r r r<|fA r r<|lO (v:=.sl (b2.Out.map (eL JK))) (z:=.agg [.sl (b2.Out.map (eL JK))]) r r r r r r<|bD fun r3 hr3=>cG (a1.Out,b2.Out) r r r Xi r r (by simp) r hr3 r<|aS r r<|nI<|xS<|rT<|JZ (b:=r3) r ?_ r r ?_ r
 all_goals first|(simp;done)|(simp;omega)|rfl|(simp [JU,JQ];done)

def Adp : Kb:=(.seq (.reg [P 1 (.box (T 0) 3 27),P 2 (.new (.agg [.nils]) 1 30)] false) (.seq (.reg [P 5 (.fldA 2 (T 1)),P 6 (.ld 1 false (T 5)),P 7 (.len false (T 6)),P 8 (.mkS 1 36 24 .nils (T 7) (T 7)),⟨(some 9),(.bld [.nils] [⟨0,⟨1,(T 8)⟩⟩]),none,[]⟩,P 3 (.new (.agg [.nils]) 1 30),⟨none,(.st 1 (T 3) (T 9)),none,[]⟩] false) (.block 0 (.loop (.block 1 (.seq (.reg [P 10 (.ld 3 true (T 1)),P 11 (.ld 1 true (T 3)),P 12 (.call (.c (.clo 38 [])) [(T 10),(T 11)]),P 4 (.new (.agg [.nils]) 1 30),⟨none,(.st 1 (T 4) (T 12)),none,[]⟩] false) (.seq (.seq (.reg [P 13 (.ld 1 true (T 4)),P 14 (.ld 1 true (T 3)),P 15 (.call (.c (.clo 31 [])) [(T 13),(T 14)])] false) (.cond (T 15) (.seq (.reg [P 16 (.ld 1 true (T 3)),⟨none,(.st 1 (T 2) (T 16)),none,[]⟩] false) .ret) .skip)) (.reg [P 17 (.ld 1 true (T 4)),⟨none,(.st 1 (T 3) (T 17)),none,[]⟩] false))))))))
theorem AfO : (Tryd.f24.body.bind (Kc Tryd.prog Tryd.f24.ntmps)) = some Adp:=by kernel_rfl
theorem AfP : Tryd.f24.results.toList.mapM (Kp Tryd.prog) = some [(.c 2 1 true)]:=by kernel_rfl
def Uu (a : JO) : List D:=[Kv a]
def Ut (ds : List D) : JO:=MP (ds.getD 0 .top)
theorem Vd (a : JO) : Ut (Uu a) = a:=by simp [Ut,Uu]
def YT (b : JV) : D:=Lt b
def YS (_b : JV) : List D:=[]
noncomputable def QX : Dw.Spec:=Ka [] .val Uu Ut (fun a=>PO a) YT YS
set_option maxHeartbeats 4000000 in
theorem Yk : JX Tryd.prog 24 QX:=by
 refine Kl (Kg (l:=[(38,Xs),(31,Xq)]) (by simp [AaW,AaV])) Tryd.func24 (by decide) AfO AfP (np:=1) (by decide) Vd (fun _=>r) (fun _=>r) (by decide)<|?_
 intro f1
 show TrE (specs [(38,Xs),(31,Xq)]) Adp (Kr [] .val [(.c 2 1 true)] YT YS) ⟨[(0,.agg [.int .i64 f1.Params,.sl (f1.Slots.map JP),.sl (f1.Code.map JN)])],[],262144⟩ (PO f1)
 refine Kd<|?_
 unfold Adp PO
 refine sQ<|rG<|bX r r r r r<|nW r<|nI<|xS<|sQ<|rG<|fA r r<|lO (v:=.sl (f1.Code.map JN)) (z:=.agg [.int .i64 f1.Params,.sl (f1.Slots.map JP),.sl (f1.Code.map JN)]) r r r r r r<|lS r r<|cK fun hq=>Th (α:=Int) r r r hq r<|bL (cs:=[.osl 8 _ 0 ((List.replicate (f1.Code.length : Int).toNat ([] : (List Int))).length)]) (ps:=[(0,1,.osl 8 _ 0 ((List.replicate (f1.Code.length : Int).toNat ([] : (List Int))).length))]) r r r r<|nW r<|sV (z':=.agg [.osl 8 _ 0 ((List.replicate (f1.Code.length : Int).toNat ([] : (List Int))).length)]) r r r r r r r r r<|nI<|Lu (E:=[(1,.optr 1 _ 0 0),(2,.optr 2 _ 0 0),(3,.optr 3 _ 0 0)]) (O:=[(1,some (_,⟨false,true,3,27,[.agg [.int .i64 f1.Params,.sl (f1.Slots.map JP),.sl (f1.Code.map JN)]]⟩)),(2,some (_,⟨false,true,1,30,[.agg [.nils]]⟩)),(3,some (_,⟨false,true,1,30,[.agg [.osl 8 _ 0 ((List.replicate (f1.Code.length : Int).toNat ([] : (List Int))).length)]]⟩)),(8,some (_,⟨false,false,1,36,(List.replicate (f1.Code.length : Int).toNat ([] : (List Int))).map (eL JK)⟩))]) ((AaH (g:=8) r (AbC (l:=List.replicate (f1.Code.length : Int).toNat ([] : (List Int))) JK (fun _ h=>List.eq_of_mem_replicate h)) (hE ⟨rfl,r,r,trivial⟩ ⟨rfl,r,r,r,trivial⟩))) fun nn=>bK<|lP (E:=fun (s : (List (List Int))) (g : Nat × Nat × Nat)=>[(1,.optr 1 g.1 0 0),(2,.optr 2 g.2.1 0 0),(3,.optr 3 g.2.2 0 0)]) (O:=fun s g=>[(1,some (g.1,⟨false,true,3,27,[.agg [.int .i64 f1.Params,.sl (f1.Slots.map JP),.sl (f1.Code.map JN)]]⟩)),(2,some (g.2.1,⟨false,true,1,30,[.agg [.nils]]⟩)),(3,some (g.2.2,⟨false,true,1,30,[.agg [.sl (s.map (eL JK))]]⟩))]) (body:=fun s=>Sz f1 s) (s:=List.replicate (f1.Code.length : Int).toNat ([] : (List Int))) (_,_,_) ((Yw [(8,some (_,⟨true,false,1,36,(List.replicate (f1.Code.length : Int).toNat ([] : (List Int))).map (eL JK)⟩))] ⟨⟨_,_,r,r,r⟩,trivial⟩ ⟨(KQ r),(KQ r),(KQ r),trivial⟩ ⟨(.inl r),(.inl r),(.inr ⟨_,_,_,_,r,r,r,r,Yu r ⟨(XE (l:=List.replicate (f1.Code.length : Int).toNat ([] : (List Int))) (en:=(eL JK)) r r r (by simp)),trivial⟩⟩),trivial⟩))<|?_
 rintro l2 ⟨v1x1,v2x1,v3x1⟩ nn
 try dsimp only
 unfold Sz
 refine bK<|sQ<|rG<|lO (v:=.agg [.int .i64 f1.Params,.sl (f1.Slots.map JP),.sl (f1.Code.map JN)]) (z:=.agg [.int .i64 f1.Params,.sl (f1.Slots.map JP),.sl (f1.Code.map JN)]) r r r r r r<|lO (v:=.agg [.sl (l2.map (eL JK))]) (z:=.agg [.sl (l2.map (eL JK))]) r r r r r r<|bD fun r3 hr3=>cV (f1,(JV.mk l2)) r r r YU r r (by simp) r hr3<|nW r<|sV (z':=.agg [.sl (r3.Out.map (eL JK))]) r r r r r r r r r<|nI<|xS<|sQ<|sQ<|rG<|lO (v:=.agg [.sl (r3.Out.map (eL JK))]) (z:=.agg [.sl (r3.Out.map (eL JK))]) r r r r r r<|lO (v:=.agg [.sl (l2.map (eL JK))]) (z:=.agg [.sl (l2.map (eL JK))]) r r r r r r<|bD fun r4 hr4=>cG (r3,(JV.mk l2)) r r r YR r r (by simp) r hr4 r<|nI<|xS<|cD (c:=r4) r ?_ ?_
 ·refine sQ<|rG<|lO (v:=.agg [.sl (l2.map (eL JK))]) (z:=.agg [.sl (l2.map (eL JK))]) r r r r r r<|sV (z':=.agg [.sl (l2.map (eL JK))]) r r r r r r r r r<|nI<|xS<|rT<|xR<|bR<|lR<|bR<|KC (b:=(JV.mk l2)) r ?_ r r ?_ r
  all_goals first|(simp;done)|(simp;omega)|rfl|(simp [JU,JQ];done)
 ·exact sK<|xS<|rG<|lO (v:=.agg [.sl (r3.Out.map (eL JK))]) (z:=.agg [.sl (r3.Out.map (eL JK))]) r r r r r r<|sV (z':=.agg [.sl (r3.Out.map (eL JK))]) r r r r r r r r r<|nI<|bM<|xL (s:=r3.Out) (_,_,_) ((hE ⟨rfl,r,r,trivial⟩ ⟨rfl,r,r,trivial⟩))

def AdQ : Kb:=(.seq (.reg [P 2 (.asg (C 0) none)] false) (.seq (.reg [M 5 0,P 6 (.call (.c (.clo 54 [])) [(T 5),(C 12)]),P 3 (.asg (T 6) none)] false) (.seq (.seq (.reg [M 7 3,P 8 (.bin .eql (T 7) (C 11))] false) (.cond (T 8) (.seq (.reg [⟨(some 9),(.bldS 1 3 (.int .i64 0) 10 [⟨0,(C 9223372036854775807)⟩,⟨1,(.c (.int .i64 (-9223372036854775808)))⟩,⟨2,(C 2147483648)⟩,⟨3,(C 2147483647)⟩,⟨4,(.c (.int .i64 (-1)))⟩,⟨5,(C 16777216)⟩,⟨6,(C 33554432)⟩,⟨7,(C 1048577)⟩,⟨8,(C 512)⟩,⟨9,(C 80)⟩]),none,[]⟩,⟨(some 4),(.asg (T 9) (some ⟨1,3⟩)),none,[]⟩] false) (.seq (.reg [M 10 4,M 11 0,M 12 4,P 13 (.len false (T 12)),P 14 (.call (.c (.clo 54 [])) [(T 11),(T 13)]),P 15 (.ixA 1 (T 10) (T 14)),P 16 (.ld 1 false (T 15)),P 2 (.asg (T 16) none)] false) .ret)) .skip)) (.seq (.reg [M 17 0,P 18 (.call (.c (.clo 54 [])) [(T 17),(C 256)]),M 19 0,P 20 (.call (.c (.clo 54 [])) [(T 19),(C 7)]),P 21 (.bin .shr (T 18) (T 20)),M 22 3,P 23 (.bin .quo (T 22) (C 9)),P 24 (.bin .sub (T 21) (T 23)),P 2 (.asg (T 24) none)] false) .ret))))
theorem AgQ : (Tryd.f72.body.bind (Kc Tryd.prog Tryd.f72.ntmps)) = some AdQ:=by kernel_rfl
theorem AgR : Tryd.f72.results.toList.mapM (Kp Tryd.prog) = some [(.t 2)]:=by kernel_rfl
def RV (a : JJ) : List D:=[Kk a]
def RU (ds : List D) : JJ:=Lv (ds.getD 0 .top)
theorem SM (a : JJ) : RU (RV a) = a:=by simp [RU,RV]
def WZ (b : Int × JJ) : D:=.int .i64 b.1
def WY (b : Int × JJ) : List D:=[Kk b.2]
noncomputable def Tv : Dw.Spec:=Ka [(0,(2,100))] .val RV RU (fun a=>Nx a) WZ WY
set_option maxHeartbeats 4000000 in
theorem ZG : JX Tryd.prog 72 Tv:=by
 refine Kl (Kg (l:=[(54,Kf)]) (by simp [KJ])) Tryd.func72 (by decide) AgQ AgR (np:=1) (by decide) SM (fun _=>r) (fun _=>r) (by decide)<|?_
 intro c1
 show TrE (specs [(54,Kf)]) AdQ (Kr [(0,(2,100))] .val [(.t 2)] WZ WY) ⟨[(0,.optr 8192 0 0 0)],[(8192,some (0,⟨false,true,2,100,[.agg [.sl (c1.list.map eU8),.int .i64 c1.at_]]⟩))],262144⟩ (Nx c1)
 refine Kd<|?_
 unfold AdQ Nx
 refine sQ<|rG<|aS r r<|nI<|xS<|sQ<|rG<|mV r r<|bD fun r2 hr2=>cV (c1,12) r r r JR r r (by simp) r hr2<|aS r r<|nI<|xS<|sQ<|sQ<|rG<|mV r r<|bN (v:=.bool (r2.1 == 11)) r r r r r<|nI<|xS<|cD (c:=(r2.1 == 11)) r ?_ ?_
 ·refine sQ<|rG<|bS ([9223372036854775807,(-9223372036854775808),2147483648,2147483647,(-1),16777216,33554432,1048577,512,80] : List Int) JK r r r (by simp) r r r<|aO (l:=([9223372036854775807,(-9223372036854775808),2147483648,2147483647,(-1),16777216,33554432,1048577,512,80] : List Int)) (en:=JK) r r r r<|nI<|xS<|sQ<|rG<|mV r r<|mV r r<|mV r r<|lW r r<|bD fun r3 hr3=>cV (r2.2,(([9223372036854775807,(-9223372036854775808),2147483648,2147483647,(-1),16777216,33554432,1048577,512,80] : List Int).length : Int)) r r r JR r r (by simp) r hr3<|cK fun hq=>iO (l:=([9223372036854775807,(-9223372036854775808),2147483648,2147483647,(-1),16777216,33554432,1048577,512,80] : List Int)) (en:=JK) r r r r r hq<|bD fun l_e4 hl_e4=>lO (v:=.int .i64 l_e4) (z:=JK l_e4) r r r (Mt hl_e4) r r<|aS r r<|nI<|xS<|rT<|xR<|KC (b:=(l_e4,r3.2)) r ?_ r r ?_ r
  all_goals first|(simp;done)|(simp;omega)|rfl|(simp [JU,JQ];done)
 ·refine sK<|xS<|sQ<|rG<|mV r r<|bD fun r5 hr5=>cV (r2.2,256) r r r JR r r (by simp) r hr5<|mV r r<|bD fun r6 hr6=>cV (r5.2,7) r r r JR r r (by simp) r hr6<|cK fun hq=>bN (v:=.int .i64 (r5.1.fdiv (2 ^ (Nat.min r6.1.toNat IntKind.i64.bits)))) r r r r hq<|mV r r<|bN (v:=.int .i64 (IntKind.i64.wrap (r2.1.tdiv 9))) r r r r ⟨rfl,(by decide)⟩<|bN (v:=.int .i64 (IntKind.i64.wrap ((r5.1.fdiv (2 ^ (Nat.min r6.1.toNat IntKind.i64.bits))) - (IntKind.i64.wrap (r2.1.tdiv 9))))) r r r r r<|aS r r<|nI<|xS<|rT<|KC (b:=(IntKind.i64.wrap ((r5.1.fdiv (2 ^ (Nat.min r6.1.toNat IntKind.i64.bits))) - (IntKind.i64.wrap (r2.1.tdiv 9))),r6.2)) r ?_ r r ?_ r
  all_goals first|(simp;done)|(simp;omega)|rfl|(simp [JU,JQ];done)

def Adv : Kb:=(.seq (.reg [P 3 (.box (T 1) 3 27),P 4 (.new (.agg [.nils]) 1 30)] false) (.seq (.reg [P 11 (.ld 3 true (T 3)),P 12 (.call (.c (.clo 24 [])) [(T 11)]),P 5 (.new (.agg [.nils]) 1 30),⟨none,(.st 1 (T 5) (T 12)),none,[]⟩] false) (.seq (.seq (.reg [M 13 0,P 14 (.call (.c (.clo 54 [])) [(T 13),(C 3)]),P 15 (.bin .eql (T 14) (C 0))] false) (.cond (T 15) (.seq (.reg [P 16 (.ld 1 true (T 5)),⟨none,(.st 1 (T 4) (T 16)),none,[]⟩] false) .ret) .skip)) (.seq (.reg [P 17 (.fldA 0 (T 5)),P 18 (.ld 1 false (T 17)),P 19 (.app 1 36 24 (.c .nils) (T 18)),⟨(some 20),(.bld [.nils] [⟨0,⟨1,(T 19)⟩⟩]),none,[]⟩,P 6 (.new (.agg [.nils]) 1 30),⟨none,(.st 1 (T 6) (T 20)),none,[]⟩] false) (.seq (.seq (.reg [M 21 0,P 22 (.call (.c (.clo 54 [])) [(T 21),(C 4)]),P 7 (.asg (T 22) none)] false) (.block 0 (.loop (.seq (.seq (.reg [M 23 7,P 24 (.bin .gtr (T 23) (C 0)),M 25 24,⟨(some 26),(.fldA 1 (T 3)),(some ⟨25,true⟩),[]⟩,⟨(some 27),(.ld 1 false (T 26)),(some ⟨25,true⟩),[]⟩,⟨(some 28),(.len false (T 27)),(some ⟨25,true⟩),[]⟩,⟨(some 29),(.bin .gtr (T 28) (C 0)),(some ⟨25,true⟩),[]⟩,P 30 (.pick (T 25) (T 29) (.c (.bool false)))] false) (.cond (T 30) .skip (.exit 0))) (.seq (.block 1 (.seq (.reg [M 33 0,P 34 (.fldA 1 (T 3)),P 35 (.ld 1 false (T 34)),P 36 (.len false (T 35)),P 37 (.call (.c (.clo 54 [])) [(T 33),(T 36)]),P 8 (.asg (T 37) none)] false) (.seq (.seq (.reg [M 38 0,P 39 (.call (.c (.clo 54 [])) [(T 38),(C 2)]),P 40 (.bin .eql (T 39) (C 0))] false) (.cond (T 40) (.seq (.seq (.reg [P 9 (.asg (C 0) none)] false) (.block 2 (.loop (.seq (.seq (.reg [M 41 9,P 42 (.fldA 0 (T 6)),P 43 (.ld 1 false (T 42)),P 44 (.len false (T 43)),P 45 (.bin .lss (T 41) (T 44))] false) (.cond (T 45) .skip (.exit 2))) (.seq (.block 3 (.reg [P 48 (.fldA 0 (T 6)),⟨(some 49),(.ld 1 false (T 48)),none,[0]⟩,M 50 9,P 51 (.fldA 0 (T 6)),⟨(some 52),(.ld 1 false (T 51)),none,[3]⟩,M 53 9,⟨(some 54),(.ixA 1 (T 52) (T 53)),none,[4,5]⟩,⟨(some 55),(.ld 1 false (T 54)),none,[6]⟩,M 56 8,⟨(some 57),(.call (.c (.clo 44 [])) [(T 55),(T 56)]),none,[7,8]⟩,⟨(some 58),(.ixA 1 (T 49) (T 50)),none,[1,2,0,1,2,3,4,5,6,7,8,9]⟩,⟨none,(.st 1 (T 58) (T 57)),none,[10,9,9,0,1,2,3,4,5,6,7,8,9]⟩] true)) (.reg [M 46 9,P 47 (.bin .add (T 46) (C 1)),P 9 (.asg (T 47) none)] false)))))) (.exit 1)) .skip)) (.seq (.reg [M 59 0,P 60 (.fldA 0 (T 6)),P 61 (.ld 1 false (T 60)),P 62 (.len false (T 61)),P 63 (.call (.c (.clo 54 [])) [(T 59),(T 62)]),P 10 (.asg (T 63) none)] false) (.seq (.reg [M 64 0,P 65 (.call (.c (.clo 54 [])) [(T 64),(C 2)]),P 66 (.bin .eql (T 65) (C 0))] false) (.cond (T 66) (.reg [P 67 (.fldA 0 (T 6)),⟨(some 68),(.ld 1 false (T 67)),none,[0]⟩,M 69 10,P 70 (.fldA 0 (T 6)),⟨(some 71),(.ld 1 false (T 70)),none,[3]⟩,M 72 10,⟨(some 73),(.ixA 1 (T 71) (T 72)),none,[4,5]⟩,⟨(some 74),(.ld 1 false (T 73)),none,[6]⟩,M 75 8,⟨(some 76),(.call (.c (.clo 44 [])) [(T 74),(T 75)]),none,[7,8]⟩,⟨(some 77),(.ixA 1 (T 68) (T 69)),none,[1,2,0,1,2,3,4,5,6,7,8,9]⟩,⟨none,(.st 1 (T 77) (T 76)),none,[10,9,9,0,1,2,3,4,5,6,7,8,9]⟩] true) (.reg [P 78 (.fldA 0 (T 6)),⟨(some 79),(.ld 1 false (T 78)),none,[0]⟩,M 80 10,P 81 (.fldA 0 (T 6)),⟨(some 82),(.ld 1 false (T 81)),none,[3]⟩,M 83 10,⟨(some 84),(.ixA 1 (T 82) (T 83)),none,[4,5]⟩,⟨(some 85),(.ld 1 false (T 84)),none,[6]⟩,M 86 8,⟨(some 87),(.call (.c (.clo 29 [])) [(T 85),(T 86)]),none,[7,8]⟩,⟨(some 88),(.ixA 1 (T 79) (T 80)),none,[1,2,0,1,2,3,4,5,6,7,8,9]⟩,⟨none,(.st 1 (T 88) (T 87)),none,[10,9,9,0,1,2,3,4,5,6,7,8,9]⟩] true))))))) (.reg [M 31 7,P 32 (.bin .sub (T 31) (C 1)),P 7 (.asg (T 32) none)] false)))))) (.seq (.seq (.reg [M 89 0,P 90 (.call (.c (.clo 54 [])) [(T 89),(C 12)])] false) (.block 4 (.seq (.reg [P 92 (.bin .eql (T 90) (C 10)),P 91 (.asg (T 92) none)] false) (.cond (T 91) (.reg [P 93 (.fldA 0 (T 6)),P 94 (.ld 1 false (T 93)),⟨(some 95),(.slc 1 (T 94) (some (C 1)) none),none,[]⟩,P 96 (.fldA 0 (T 6)),⟨none,(.st 1 (T 96) (T 95)),none,[]⟩] false) (.seq (.reg [P 98 (.bin .eql (T 90) (C 11)),P 97 (.asg (T 98) none)] false) (.cond (T 97) (.reg [P 99 (.fldA 0 (T 6)),⟨(some 100),(.ld 1 false (T 99)),none,[0]⟩,M 101 0,⟨(some 102),(.call (.c (.clo 72 [])) [(T 101)]),none,[2]⟩,M 103 0,⟨(some 104),(.call (.c (.clo 72 [])) [(T 103)]),none,[4,3]⟩,⟨(some 105),(.bldS 1 3 (.int .i64 0) 2 [⟨0,(T 102)⟩,⟨1,(T 104)⟩]),none,[3,5]⟩,⟨(some 106),(.ixA 1 (T 100) (C 0)),none,[1,0,1,2,3,4,5,6]⟩,⟨none,(.st 1 (T 106) (T 105)),none,[7,6,5,0,1,2,3,4,5,6]⟩] true) .skip)))))) (.seq (.reg [P 107 (.ld 1 true (T 6)),⟨none,(.st 1 (T 4) (T 107)),none,[]⟩] false) .ret)))))))
theorem Aga : (Tryd.f34.body.bind (Kc Tryd.prog Tryd.f34.ntmps)) = some Adv:=by kernel_rfl
theorem Agb : Tryd.f34.results.toList.mapM (Kp Tryd.prog) = some [(.c 4 1 true)]:=by kernel_rfl
def Rm (a : JJ × JO) : List D:=[Kk a.1,Kv a.2]
def Rl (ds : List D) : JJ × JO:=(Lv (ds.getD 0 .top),MP (ds.getD 1 .top))
theorem Vn (a : JJ × JO) : Rl (Rm a) = a:=by simp [Rl,Rm]
def Ow (b : JV × JJ) : D:=Lt b.1
def VX (b : JV × JJ) : List D:=[Kk b.2]
noncomputable def SO : Dw.Spec:=Ka [(0,(2,100))] .val Rm Rl (fun a=>NZ a.1 a.2) Ow VX
set_option maxHeartbeats 4000000 in
theorem YZ : JX Tryd.prog 34 SO:=by
 refine Kl (Kg (l:=[(24,QX),(54,Kf),(44,PN),(29,Qk),(72,Tv)]) (by simp [Yk,KJ,Xh,XG,ZG])) Tryd.func34 (by decide) Aga Agb (np:=2) (by decide) Vn (fun _=>r) (fun _=>r) (by decide)<|?_
 rintro ⟨c1,f2⟩
 show TrE (specs [(24,QX),(54,Kf),(44,PN),(29,Qk),(72,Tv)]) Adv (Kr [(0,(2,100))] .val [(.c 4 1 true)] Ow VX) ⟨[(0,.optr 8192 0 0 0),(1,.agg [.int .i64 f2.Params,.sl (f2.Slots.map JP),.sl (f2.Code.map JN)])],[(8192,some (0,⟨false,true,2,100,[.agg [.sl (c1.list.map eU8),.int .i64 c1.at_]]⟩))],262144⟩ (NZ c1 f2)
 refine Kd<|?_
 unfold Adv NZ
 refine sQ<|rG<|bX r r r r r<|nW r<|nI<|xS<|sQ<|rG<|lO (v:=.agg [.int .i64 f2.Params,.sl (f2.Slots.map JP),.sl (f2.Code.map JN)]) (z:=.agg [.int .i64 f2.Params,.sl (f2.Slots.map JP),.sl (f2.Code.map JN)]) r r r r r r<|bD fun r3 hr3=>cV f2 r r r Vd r r (by simp) r hr3<|nW r<|sV (z':=.agg [.sl (r3.Out.map (eL JK))]) r r r r r r r r r<|nI<|xS<|sQ<|sQ<|rG<|mV r r<|bD fun r4 hr4=>cV (c1,3) r r r JR r r (by simp) r hr4<|bN (v:=.bool (r4.1 == 0)) r r r r r<|nI<|xS<|cD (c:=(r4.1 == 0)) r ?_ ?_
 ·refine sQ<|rG<|lO (v:=.agg [.sl (r3.Out.map (eL JK))]) (z:=.agg [.sl (r3.Out.map (eL JK))]) r r r r r r<|sV (z':=.agg [.sl (r3.Out.map (eL JK))]) r r r r r r r r r<|nI<|xS<|rT<|xR<|KC (b:=(r3,r4.2)) r ?_ r r ?_ r
  all_goals first|(simp;done)|(simp;omega)|rfl|(simp [JU,JQ];done)
 ·refine sK<|xS<|sQ<|rG<|fA r r<|lO (v:=.sl (r3.Out.map (eL JK))) (z:=.agg [.sl (r3.Out.map (eL JK))]) r r r r r r<|cK fun hq=>aP (([] : List (List Int))) (r3.Out) (eL JK) r r r r r r r (by simp) r r r (by simp) r (fun _=>r) r hq<|bL (cs:=[.osl 19 _ 0 ((([] : List (List Int)) ++ r3.Out).length)]) (ps:=[(0,1,.osl 19 _ 0 ((([] : List (List Int)) ++ r3.Out).length))]) r r r r<|nW r<|sV (z':=.agg [.osl 19 _ 0 ((([] : List (List Int)) ++ r3.Out).length)]) r r r r r r r r r<|nI<|xS<|sC (E:=fun (s : (List Int) × Int × (List (List Int))) (g : Nat × Nat × Nat)=>[(0,.optr 8192 0 0 0),(4,.optr 4 g.1 0 0),(6,.optr 6 g.2.1 0 0)]) (O:=fun s g=>[(4,some (g.1,⟨false,true,1,30,[.agg [.nils]]⟩)),(6,some (g.2.1,⟨false,true,1,30,[.agg [.osl 19 g.2.2 0 s.2.2.length]]⟩)),(19,some (g.2.2,⟨false,false,1,36,s.2.2.map (eL JK)⟩)),(8192,some (0,⟨false,true,2,100,[.agg [.sl (s.1.map eU8),.int .i64 s.2.1]]⟩))]) (j:=fun s=>MG s.1 s.2.1 s.2.2) ?_ ?_
  ·refine sQ<|rG<|mV r r<|bD fun r8 hr8=>cV (r4.2,4) r r r JR r r (by simp) r hr8<|aS r r<|nI<|xS<|bK<|lP (E:=fun (s : (List Int) × Int × (List (List Int)) × Int) (g : Nat × Nat × Nat × Nat)=>[(0,.optr 8192 0 0 0),(3,.optr 3 g.1 0 0),(4,.optr 4 g.2.1 0 0),(6,.optr 6 g.2.2.1 0 0),(7,.int .i64 s.2.2.2)]) (O:=fun s g=>[(3,some (g.1,⟨false,true,3,27,[.agg [.int .i64 f2.Params,.sl (f2.Slots.map JP),.sl (f2.Code.map JN)]]⟩)),(4,some (g.2.1,⟨false,true,1,30,[.agg [.nils]]⟩)),(6,some (g.2.2.1,⟨false,true,1,30,[.agg [.osl 19 g.2.2.2 0 s.2.2.1.length]]⟩)),(19,some (g.2.2.2,⟨false,false,1,36,s.2.2.1.map (eL JK)⟩)),(8192,some (0,⟨false,true,2,100,[.agg [.sl (s.1.map eU8),.int .i64 s.2.1]]⟩))]) (body:=fun s=>Pt f2 s.1 s.2.1 s.2.2.1 s.2.2.2) (s:=(r8.2.list,r8.2.at_,([] : List (List Int)) ++ r3.Out,r8.1)) (_,_,_,_) ((hE ⟨rfl,r,r,r,r,trivial⟩ ⟨rfl,r,r,r,r,trivial⟩))<|?_
   rintro ⟨c9,c10,x11,n12⟩ ⟨v3x1,v4x1,v6x1,v19x1⟩ nn
   try dsimp only
   unfold Pt
   refine sC (E:=fun (s : Unit) (g : Nat × Nat × Nat × Nat)=>[(0,.optr 8192 0 0 0),(3,.optr 3 g.1 0 0),(4,.optr 4 g.2.1 0 0),(6,.optr 6 g.2.2.1 0 0),(7,.int .i64 n12),(26,.optr 3 g.1 0 1),(27,.sl (f2.Slots.map JP)),(28,.int .i64 (f2.Slots.length : Int)),(29,.bool (decide ((f2.Slots.length : Int) > 0)))]) (O:=fun s g=>[(3,some (g.1,⟨false,true,3,27,[.agg [.int .i64 f2.Params,.sl (f2.Slots.map JP),.sl (f2.Code.map JN)]]⟩)),(4,some (g.2.1,⟨false,true,1,30,[.agg [.nils]]⟩)),(6,some (g.2.2.1,⟨false,true,1,30,[.agg [.osl 19 g.2.2.2 0 x11.length]]⟩)),(19,some (g.2.2.2,⟨false,false,1,36,x11.map (eL JK)⟩)),(8192,some (0,⟨false,true,2,100,[.agg [.sl (c9.map eU8),.int .i64 c10]]⟩))]) (j:=fun s=>Pv c9 c10 f2 n12 x11) ?_ ?_
   ·refine sQ<|rG<|mV r r<|bN (v:=.bool (decide (n12 > 0))) r r r r r<|mV r r<|sP 25 (b:=(decide (n12 > 0))) r ?_ ?_
    ·refine fA r r<|lO (v:=.sl (f2.Slots.map JP)) (z:=.agg [.int .i64 f2.Params,.sl (f2.Slots.map JP),.sl (f2.Code.map JN)]) r r r r r r<|lS r r<|bN (v:=.bool (decide ((f2.Slots.length : Int) > 0))) r r r r r<|pT r r r r<|nI<|xS<|cD (c:=(decide ((f2.Slots.length : Int) > 0))) r ?_ ?_
     ·exact sK<|xC (s:=()) (_,_,_,_) ((hE ⟨rfl,r,r,r,r,r,r,r,r,trivial⟩ ⟨rfl,r,r,r,r,trivial⟩))
     ·exact eT<|NY<|lE<|bH<|xC (s:=(c9,c10,x11)) (_,_,_) ((hE ⟨rfl,r,r,trivial⟩ ⟨rfl,r,r,r,trivial⟩))
    ·exact oF r<|oF r<|oF r<|oF r<|pF r r r r<|nI<|xS<|Nj r<|eT<|NY<|lE<|bH<|xC (s:=(c9,c10,x11)) (_,_,_) ((hE ⟨rfl,r,r,trivial⟩ ⟨rfl,r,r,r,trivial⟩))
   ·rintro ⟨⟩ ⟨v3x2,v4x2,v6x2,v19x2⟩ nn
    try dsimp only
    unfold Pv
    refine bC (E:=fun (s : (List Int) × Int × (List (List Int))) (g : Nat × Nat × Nat × Nat)=>[(0,.optr 8192 0 0 0),(3,.optr 3 g.1 0 0),(4,.optr 4 g.2.1 0 0),(6,.optr 6 g.2.2.1 0 0),(7,.int .i64 n12),(26,.optr 3 g.1 0 1),(27,.sl (f2.Slots.map JP)),(28,.int .i64 (f2.Slots.length : Int)),(29,.bool (decide ((f2.Slots.length : Int) > 0)))]) (O:=fun s g=>[(3,some (g.1,⟨false,true,3,27,[.agg [.int .i64 f2.Params,.sl (f2.Slots.map JP),.sl (f2.Code.map JN)]]⟩)),(4,some (g.2.1,⟨false,true,1,30,[.agg [.nils]]⟩)),(6,some (g.2.2.1,⟨false,true,1,30,[.agg [.osl 19 g.2.2.2 0 s.2.2.length]]⟩)),(19,some (g.2.2.2,⟨false,false,1,36,s.2.2.map (eL JK)⟩)),(8192,some (0,⟨false,true,2,100,[.agg [.sl (s.1.map eU8),.int .i64 s.2.1]]⟩))]) (j:=fun s=>LU n12 s.1 s.2.1 s.2.2) ?_ ?_
    ·refine sQ<|rG<|mV r r<|fA r r<|lO (v:=.sl (f2.Slots.map JP)) (z:=.agg [.int .i64 f2.Params,.sl (f2.Slots.map JP),.sl (f2.Code.map JN)]) r r r r r r<|lS r r<|bD fun r16 hr16=>cV ((JJ.mk c9 c10),(f2.Slots.length : Int)) r r r JR r r (by simp) r hr16<|aS r r<|nI<|xS<|sQ<|sQ<|rG<|mV r r<|bD fun r17 hr17=>cV (r16.2,2) r r r JR r r (by simp) r hr17<|bN (v:=.bool (r17.1 == 0)) r r r r r<|nI<|xS<|cD (c:=(r17.1 == 0)) r ?_ ?_
     ·refine sQ<|sQ<|rG<|aS r r<|nI<|xS<|bK<|lP (E:=fun (s : (List (List Int)) × Int) (g : Nat × Nat × Nat × Nat)=>[(0,.optr 8192 0 0 0),(3,.optr 3 g.1 0 0),(4,.optr 4 g.2.1 0 0),(6,.optr 6 g.2.2.1 0 0),(7,.int .i64 n12),(8,.int .i64 r16.1),(9,.int .i64 s.2),(26,.optr 3 g.1 0 1),(27,.sl (f2.Slots.map JP)),(28,.int .i64 (f2.Slots.length : Int)),(29,.bool (decide ((f2.Slots.length : Int) > 0)))]) (O:=fun s g=>[(3,some (g.1,⟨false,true,3,27,[.agg [.int .i64 f2.Params,.sl (f2.Slots.map JP),.sl (f2.Code.map JN)]]⟩)),(4,some (g.2.1,⟨false,true,1,30,[.agg [.nils]]⟩)),(6,some (g.2.2.1,⟨false,true,1,30,[.agg [.osl 19 g.2.2.2 0 s.1.length]]⟩)),(19,some (g.2.2.2,⟨false,false,1,36,s.1.map (eL JK)⟩)),(8192,some (0,⟨false,true,2,100,[.agg [.sl (r17.2.list.map eU8),.int .i64 r17.2.at_]]⟩))]) (body:=fun s=>Pu r16 n12 r17 s.1 s.2) (s:=(x11,0)) (_,_,_,_) ((hE ⟨rfl,r,r,r,r,r,r,r,r,r,r,trivial⟩ ⟨rfl,r,r,r,r,trivial⟩))<|?_
      rintro ⟨x18,k19⟩ ⟨v3x3,v4x3,v6x3,v19x3⟩ nn
      try dsimp only
      unfold Pu
      refine sQ<|sQ<|rG<|mV r r<|fA r r<|lO (v:=.osl 19 _ 0 x18.length) (z:=.agg [.osl 19 _ 0 x18.length]) r r r r r r<|lW r r<|bN (v:=.bool (decide (k19 < (x18.length : Int)))) r r r r r<|nI<|xS<|cD (c:=(decide (k19 < (x18.length : Int)))) r ?_ ?_
      ·exact sK<|xS<|sQ<|bK<|rG<|fA r r<|lO (v:=.osl 19 _ 0 x18.length) (z:=.agg [.osl 19 _ 0 x18.length]) r r r r r r<|mV r r<|fA r r<|lO (v:=.osl 19 _ 0 x18.length) (z:=.agg [.osl 19 _ 0 x18.length]) r r r r r r<|mV r r<|cK fun hq=>iO (l:=x18) (en:=(eL JK)) r r r r r hq<|bD fun x_e20 hx_e20=>lO (v:=.sl (x_e20.map JK)) (z:=(eL JK) x_e20) r r r (Mt hx_e20) r r<|mV r r<|bD fun r21 hr21=>cR (l:=r21) (en:=JK) (x_e20,r16.1) r r r Sm r r (by simp) r hr21 r<|cK fun hq=>iO (l:=x18) (en:=(eL JK)) r r r r r hq<|bD fun x_o22 hx_o22=>sE (l:=x18) (en:=(eL JK)) (q':=r21) r r r r r r r (by simp) hx_o22 r r r (by simp [Lj,cells,setAt,eL]) r<|Ki (by kernel_rfl)<|bM<|xS<|rG<|mV r r<|bN (v:=.int .i64 (IntKind.i64.wrap (k19 + 1))) r r r r r<|aS r r<|nI<|xL (s:=(x18.set k19.toNat r21,IntKind.i64.wrap (k19 + 1))) (_,_,_,_) ((hE ⟨rfl,r,r,r,r,r,r,r,r,r,r,trivial⟩ ⟨rfl,r,(Eq.trans (b:=some (_,⟨false,true,1,30,[.agg [.osl 19 _ 0 x18.length]]⟩)) r (by simp)),r,r,trivial⟩))
      ·exact eT<|xE<|lE<|bH<|xS<|eT<|xE<|AaY (s:=(r17.2.list,r17.2.at_,x18)) (_,_,_,_) ((hE ⟨rfl,r,r,r,r,r,r,r,r,trivial⟩ ⟨rfl,r,r,r,r,trivial⟩))
     ·refine sK<|xS<|sQ<|rG<|mV r r<|fA r r<|lO (v:=.osl 19 _ 0 x11.length) (z:=.agg [.osl 19 _ 0 x11.length]) r r r r r r<|lW r r<|bD fun r23 hr23=>cV (r17.2,(x11.length : Int)) r r r JR r r (by simp) r hr23<|aS r r<|nI<|xS<|sQ<|rG<|mV r r<|bD fun r24 hr24=>cV (r23.2,2) r r r JR r r (by simp) r hr24<|bN (v:=.bool (r24.1 == 0)) r r r r r<|nI<|xS<|cD (c:=(r24.1 == 0)) r ?_ ?_
      ·exact rG<|fA r r<|lO (v:=.osl 19 _ 0 x11.length) (z:=.agg [.osl 19 _ 0 x11.length]) r r r r r r<|mV r r<|fA r r<|lO (v:=.osl 19 _ 0 x11.length) (z:=.agg [.osl 19 _ 0 x11.length]) r r r r r r<|mV r r<|cK fun hq=>iO (l:=x11) (en:=(eL JK)) r r r r r hq<|bD fun x_e25 hx_e25=>lO (v:=.sl (x_e25.map JK)) (z:=(eL JK) x_e25) r r r (Mt hx_e25) r r<|mV r r<|bD fun r26 hr26=>cR (l:=r26) (en:=JK) (x_e25,r16.1) r r r Sm r r (by simp) r hr26 r<|cK fun hq=>iO (l:=x11) (en:=(eL JK)) r r r r r hq<|bD fun x_o27 hx_o27=>sE (l:=x11) (en:=(eL JK)) (q':=r26) r r r r r r r (by simp) hx_o27 r r r (by simp [Lj,cells,setAt,eL]) r<|Ki (by kernel_rfl)<|Ng (s:=(r24.2.list,r24.2.at_,x11.set r23.1.toNat r26)) (_,_,_,_) ((hE ⟨rfl,r,r,r,r,r,r,r,r,trivial⟩ ⟨rfl,r,(Eq.trans (b:=some (_,⟨false,true,1,30,[.agg [.osl 19 _ 0 x11.length]]⟩)) r (by simp)),r,r,trivial⟩))
      ·exact rG<|fA r r<|lO (v:=.osl 19 _ 0 x11.length) (z:=.agg [.osl 19 _ 0 x11.length]) r r r r r r<|mV r r<|fA r r<|lO (v:=.osl 19 _ 0 x11.length) (z:=.agg [.osl 19 _ 0 x11.length]) r r r r r r<|mV r r<|cK fun hq=>iO (l:=x11) (en:=(eL JK)) r r r r r hq<|bD fun x_e28 hx_e28=>lO (v:=.sl (x_e28.map JK)) (z:=(eL JK) x_e28) r r r (Mt hx_e28) r r<|mV r r<|bD fun r29 hr29=>cR (l:=r29) (en:=JK) (x_e28,r16.1) r r r Up r r (by simp) r hr29 r<|cK fun hq=>iO (l:=x11) (en:=(eL JK)) r r r r r hq<|bD fun x_o30 hx_o30=>sE (l:=x11) (en:=(eL JK)) (q':=r29) r r r r r r r (by simp) hx_o30 r r r (by simp [Lj,cells,setAt,eL]) r<|Ki (by kernel_rfl)<|Ng (s:=(r24.2.list,r24.2.at_,x11.set r23.1.toNat r29)) (_,_,_,_) ((hE ⟨rfl,r,r,r,r,r,r,r,r,trivial⟩ ⟨rfl,r,(Eq.trans (b:=some (_,⟨false,true,1,30,[.agg [.osl 19 _ 0 x11.length]]⟩)) r (by simp)),r,r,trivial⟩))
    ·rintro ⟨c13,c14,x15⟩ ⟨v3x4,v4x4,v6x4,v19x4⟩ nn
     try dsimp only
     unfold LU
     exact rG<|mV r r<|bN (v:=.int .i64 (IntKind.i64.wrap (n12 - 1))) r r r r r<|aS r r<|nI<|xL (s:=(c13,c14,x15,IntKind.i64.wrap (n12 - 1))) (_,_,_,_) ((hE ⟨rfl,r,r,r,r,trivial⟩ ⟨rfl,r,r,r,r,trivial⟩))
  ·rintro ⟨c5,c6,x7⟩ ⟨v4x5,v6x5,v19x5⟩ nn
   try dsimp only
   unfold MG
   refine sQ<|sQ<|rG<|mV r r<|bD fun r31 hr31=>cV ((JJ.mk c5 c6),12) r r r JR r r (by simp) r hr31<|nI<|xS<|bK<|sQ<|rG<|bN (v:=.bool (r31.1 == 10)) r r r r r<|aS r r<|nI<|xS<|cD (c:=(r31.1 == 10)) r ?_ ?_
   ·refine rG<|fA r r<|lO (v:=.osl 19 _ 0 x7.length) (z:=.agg [.osl 19 _ 0 x7.length]) r r r r r r<|cK fun hq=>AaB (l:=x7) r r r r r r hq<|fA r r<|sV (z':=.agg [.osl 19 _ ((1 : Int).toNat) (x7.length - (1 : Int).toNat)]) r r r r r r r r r<|nI<|bM<|xS<|sQ<|rG<|lO (v:=.agg [.osl 19 _ ((1 : Int).toNat) (x7.length - (1 : Int).toNat)]) (z:=.agg [.osl 19 _ ((1 : Int).toNat) (x7.length - (1 : Int).toNat)]) r r r r r r<|sV (z':=.agg [.osl 19 _ ((1 : Int).toNat) (x7.length - (1 : Int).toNat)]) r r r r r r r r r<|nI<|xS<|rT<|KC (b:=((JV.mk (x7.drop ((1 : Int).toNat))),r31.2)) r ?_ r r ?_ (by first | rfl | (simp only [Kh,Km]; rfl) | simp [Ow,Lt])
    all_goals first|(simp;done)|(simp;omega)|rfl|(simp [JU,JQ];done)
   ·refine sQ<|rG<|bN (v:=.bool (r31.1 == 11)) r r r r r<|aS r r<|nI<|xS<|cD (c:=(r31.1 == 11)) r ?_ ?_
    ·refine rG<|fA r r<|lO (v:=.osl 19 _ 0 x7.length) (z:=.agg [.osl 19 _ 0 x7.length]) r r r r r r<|mV r r<|bD fun r32 hr32=>cV r31.2 r r r SM r r (by simp) r hr32<|mV r r<|bD fun r33 hr33=>cV r32.2 r r r SM r r (by simp) r hr33<|bS ([r32.1,r33.1] : List Int) JK r r r (by simp) r r r<|cK fun hq=>iO (l:=x7) (en:=(eL JK)) r r r r r hq<|bD fun x_o34 hx_o34=>sE (l:=x7) (en:=(eL JK)) (q':=([r32.1,r33.1] : List Int)) r r r r r r r (by simp) hx_o34 r r r (by simp [Lj,cells,setAt,eL]) r<|Ki (by kernel_rfl)<|bM<|xS<|sQ<|rG<|lO (v:=.agg [.osl 19 _ 0 x7.length]) (z:=.agg [.osl 19 _ 0 x7.length]) r r r r r r<|sV (z':=.agg [.osl 19 _ 0 x7.length]) r r r r r r r r r<|nI<|xS<|rT<|KC (b:=((JV.mk (x7.set ((0 : Int).toNat) ([r32.1,r33.1] : List Int))),r33.2)) r ?_ r r ?_ (by first | rfl | (simp only [Kh,Km]; rfl) | simp [Ow,Lt])
     all_goals first|(simp;done)|(simp;omega)|rfl|(simp [JU,JQ];done)
    ·refine sK<|bM<|xS<|sQ<|rG<|lO (v:=.agg [.osl 19 _ 0 x7.length]) (z:=.agg [.osl 19 _ 0 x7.length]) r r r r r r<|sV (z':=.agg [.osl 19 _ 0 x7.length]) r r r r r r r r r<|nI<|xS<|rT<|KC (b:=((JV.mk x7),r31.2)) r ?_ r r ?_ (by first | rfl | (simp only [Kh,Km]; rfl) | simp [Ow,Lt])
     all_goals first|(simp;done)|(simp;omega)|rfl|(simp [JU,JQ];done)

def AdA : Kb:=(.seq (.reg [P 2 (.new (.agg [(.int .i64 0),.nils,.nils]) 3 27),P 3 (.new (.agg [.nils]) 1 30),P 4 (.asg (.c .top) none)] false) (.seq (.reg [M 8 0,P 9 (.call (.c (.clo 52 [])) [(T 8),(C 250)]),P 5 (.asg (T 9) none)] false) (.seq (.reg [M 10 5,P 11 (.call (.c (.clo 53 [])) [(T 10),(C 3),(C 16)]),P 6 (.new (.agg [.nils]) 1 70),⟨none,(.st 1 (T 6) (T 11)),none,[]⟩] false) (.seq (.reg [P 12 (.fldA 0 (T 6)),⟨(some 13),(.ld 1 false (T 12)),none,[0]⟩,M 14 5,P 15 (.fldA 0 (T 6)),⟨(some 16),(.ld 1 false (T 15)),none,[3]⟩,⟨(some 17),(.len false (T 16)),none,[4]⟩,⟨(some 18),(.call (.c (.clo 54 [])) [(T 14),(T 17)]),none,[2,5]⟩,⟨(some 19),(.ixA 3 (T 13) (T 18)),none,[1,6]⟩,⟨(some 20),(.ld 3 true (T 19)),none,[7]⟩,P 7 (.new (.agg [(.int .i64 0),.nils,.nils]) 3 27),⟨none,(.st 3 (T 7) (T 20)),none,[9,8,6,0,1,2,3,4,5,6,7,8,9]⟩] true) (.seq (.reg [P 21 (.ld 3 true (T 7)),M 22 5,P 23 (.ld 3 true (T 7)),⟨(some 24),(.call (.c (.clo 34 [])) [(T 22),(T 23)]),none,[1,2]⟩,M 25 5,⟨none,(.st 3 (T 2) (T 21)),none,[0,3,0]⟩,⟨none,(.st 1 (T 3) (T 24)),none,[3,5,0,1,2,3,5]⟩,⟨(some 4),(.asg (T 25) none),none,[4,6,0,1,2,3,4,5,6]⟩] true) .ret)))))
theorem Agk : (Tryd.f46.body.bind (Kc Tryd.prog Tryd.f46.ntmps)) = some AdA:=by kernel_rfl
theorem Agl : Tryd.f46.results.toList.mapM (Kp Tryd.prog) = some [(.c 2 3 true),(.c 3 1 true),(.t 4)]:=by kernel_rfl
def Un (a : (List Int)) : List D:=[.sl (a.map eU8)]
def Um (ds : List D) : (List Int):=(uL uI) (ds.getD 0 .top)
theorem Yg (a : (List Int)) : Um (Un a) = a:=by simp [Um,Un,LH (u:=uI) (en:=eU8) (fun _=>rfl)]
def YK (b : JO × JV × JJ) : D:=.tup [Kv b.1,Lt b.2.1,Kk b.2.2]
def YJ (_b : JO × JV × JJ) : List D:=[]
noncomputable def VO : Dw.Spec:=Ka [] (.tupPtr 2 2 100) Un Um (fun a=>Rc a) YK YJ
set_option maxHeartbeats 4000000 in
theorem AaA : JX Tryd.prog 46 VO:=by
 refine Kl (Kg (l:=[(52,Yv),(53,QD),(54,Kf),(34,SO)]) (by simp [AbQ,Yc,KJ,YZ])) Tryd.func46 (by decide) Agk Agl (np:=1) (by decide) Yg (fun _=>r) (fun _=>r) (by decide)<|?_
 intro codes1
 show TrE (specs [(52,Yv),(53,QD),(54,Kf),(34,SO)]) AdA (Kr [] (.tupPtr 2 2 100) [(.c 2 3 true),(.c 3 1 true),(.t 4)] YK YJ) ⟨[(0,.sl (codes1.map eU8))],[],262144⟩ (Rc codes1)
 refine Kd<|?_
 unfold AdA Rc
 refine sQ<|rG<|nW r<|nW r<|aS r r<|nI<|xS<|sQ<|rG<|mV r r<|bD fun r2 hr2=>cP (codes1,250) r r r ZN r r (by simp) r hr2<|aS r r<|nI<|xS<|sQ<|rG<|mV r r<|bD fun r3 hr3=>cV (r2,3,16) r r r TG r r (by simp) r hr3<|nW r<|sV (z':=.agg [.sl (r3.1.Funcs.map Kv)]) r r r r r r r r r<|nI<|xS<|sQ<|rG<|fA r r<|lO (v:=.sl (r3.1.Funcs.map Kv)) (z:=.agg [.sl (r3.1.Funcs.map Kv)]) r r r r r r<|mV r r<|fA r r<|lO (v:=.sl (r3.1.Funcs.map Kv)) (z:=.agg [.sl (r3.1.Funcs.map Kv)]) r r r r r r<|lS r r<|bD fun r4 hr4=>cV (r3.2,(r3.1.Funcs.length : Int)) r r r JR r r (by simp) r hr4<|bD fun x_x5 hx_x5=>iS (en:=Kv) r r r hx_x5 r<|lF (v:=.agg [.int .i64 x_x5.Params,.sl (x_x5.Slots.map JP),.sl (x_x5.Code.map JN)]) r r r r<|nW r<|sV (z':=.agg [.int .i64 x_x5.Params,.sl (x_x5.Slots.map JP),.sl (x_x5.Code.map JN)]) r r r r r r r r r<|Ki (by kernel_rfl)<|xS<|sQ<|rG<|lO (v:=.agg [.int .i64 x_x5.Params,.sl (x_x5.Slots.map JP),.sl (x_x5.Code.map JN)]) (z:=.agg [.int .i64 x_x5.Params,.sl (x_x5.Slots.map JP),.sl (x_x5.Code.map JN)]) r r r r r r<|mV r r<|lO (v:=.agg [.int .i64 x_x5.Params,.sl (x_x5.Slots.map JP),.sl (x_x5.Code.map JN)]) (z:=.agg [.int .i64 x_x5.Params,.sl (x_x5.Slots.map JP),.sl (x_x5.Code.map JN)]) r r r r r r<|bD fun r6 hr6=>cV (r4.2,x_x5) r r r Vn r r (by simp) r hr6<|mV r r<|sV (z':=.agg [.int .i64 x_x5.Params,.sl (x_x5.Slots.map JP),.sl (x_x5.Code.map JN)]) r r r r r r r r r<|sV (z':=.agg [.sl (r6.1.Out.map (eL JK))]) r r r r r r r r r<|aS r r<|Ki (by kernel_rfl)<|xS<|rT<|AcC (b:=(x_x5,r6.1,r6.2)) (by decide) (by decide) r ?_ r ?_ r ?_ r ?_ r r ?_ r
 all_goals first|(simp;done)|(simp;omega)|rfl|(simp [JU,JQ];done)

def Adq : Kb:=(.seq (.reg [P 3 (.box (T 1) 3 27),P 4 (.new (.agg [.nils]) 1 30)] false) (.seq (.reg [P 10 (.ld 3 true (T 3)),P 11 (.call (.c (.clo 24 [])) [(T 10)]),P 5 (.new (.agg [.nils]) 1 30),⟨none,(.st 1 (T 5) (T 11)),none,[]⟩] false) (.seq (.reg [P 12 (.fldA 0 (T 5)),P 13 (.ld 1 false (T 12)),P 14 (.app 1 36 24 (.c .nils) (T 13)),⟨(some 15),(.bld [.nils] [⟨0,⟨1,(T 14)⟩⟩]),none,[]⟩,P 6 (.new (.agg [.nils]) 1 30),⟨none,(.st 1 (T 6) (T 15)),none,[]⟩] false) (.seq (.seq (.reg [M 16 0,P 17 (.call (.c (.clo 54 [])) [(T 16),(C 3)]),P 7 (.asg (T 17) none)] false) (.block 0 (.loop (.seq (.seq (.reg [M 18 7,P 19 (.bin .gtr (T 18) (C 0)),M 20 19,⟨(some 21),(.fldA 1 (T 3)),(some ⟨20,true⟩),[]⟩,⟨(some 22),(.ld 1 false (T 21)),(some ⟨20,true⟩),[]⟩,⟨(some 23),(.len false (T 22)),(some ⟨20,true⟩),[]⟩,⟨(some 24),(.bin .gtr (T 23) (C 0)),(some ⟨20,true⟩),[]⟩,P 25 (.pick (T 20) (T 24) (.c (.bool false)))] false) (.cond (T 25) .skip (.exit 0))) (.seq (.block 1 (.seq (.reg [M 28 0,P 29 (.fldA 1 (T 3)),P 30 (.ld 1 false (T 29)),P 31 (.len false (T 30)),P 32 (.call (.c (.clo 54 [])) [(T 28),(T 31)]),P 8 (.asg (T 32) none)] false) (.seq (.reg [P 9 (.asg (C 0) none)] false) (.block 2 (.loop (.seq (.seq (.reg [M 33 9,P 34 (.fldA 0 (T 6)),P 35 (.ld 1 false (T 34)),P 36 (.len false (T 35)),P 37 (.bin .lss (T 33) (T 36))] false) (.cond (T 37) .skip (.exit 2))) (.seq (.block 3 (.reg [P 40 (.fldA 0 (T 6)),⟨(some 41),(.ld 1 false (T 40)),none,[0]⟩,M 42 9,P 43 (.fldA 0 (T 6)),⟨(some 44),(.ld 1 false (T 43)),none,[3]⟩,M 45 9,⟨(some 46),(.ixA 1 (T 44) (T 45)),none,[4,5]⟩,⟨(some 47),(.ld 1 false (T 46)),none,[6]⟩,M 48 8,⟨(some 49),(.call (.c (.clo 44 [])) [(T 47),(T 48)]),none,[7,8]⟩,⟨(some 50),(.ixA 1 (T 41) (T 42)),none,[1,2,0,1,2,3,4,5,6,7,8,9]⟩,⟨none,(.st 1 (T 50) (T 49)),none,[10,9,9,0,1,2,3,4,5,6,7,8,9]⟩] true)) (.reg [M 38 9,P 39 (.bin .add (T 38) (C 1)),P 9 (.asg (T 39) none)] false)))))))) (.reg [M 26 7,P 27 (.bin .sub (T 26) (C 1)),P 7 (.asg (T 27) none)] false)))))) (.seq (.reg [P 51 (.ld 1 true (T 6)),⟨none,(.st 1 (T 4) (T 51)),none,[]⟩] false) .ret)))))
theorem AfQ : (Tryd.f26.body.bind (Kc Tryd.prog Tryd.f26.ntmps)) = some Adq:=by kernel_rfl
theorem AfR : Tryd.f26.results.toList.mapM (Kp Tryd.prog) = some [(.c 4 1 true)]:=by kernel_rfl
def QC (a : JJ × JO) : List D:=[Kk a.1,Kv a.2]
def QB (ds : List D) : JJ × JO:=(Lv (ds.getD 0 .top),MP (ds.getD 1 .top))
theorem Uz (a : JJ × JO) : QB (QC a) = a:=by simp [QB,QC]
def Pw (b : JV × JJ) : D:=Lt b.1
def Vo (b : JV × JJ) : List D:=[Kk b.2]
noncomputable def RW : Dw.Spec:=Ka [(0,(2,100))] .val QC QB (fun a=>Ny a.1 a.2) Pw Vo
set_option maxHeartbeats 4000000 in
theorem YV : JX Tryd.prog 26 RW:=by
 refine Kl (Kg (l:=[(24,QX),(54,Kf),(44,PN)]) (by simp [Yk,KJ,Xh])) Tryd.func26 (by decide) AfQ AfR (np:=2) (by decide) Uz (fun _=>r) (fun _=>r) (by decide)<|?_
 rintro ⟨c1,f2⟩
 show TrE (specs [(24,QX),(54,Kf),(44,PN)]) Adq (Kr [(0,(2,100))] .val [(.c 4 1 true)] Pw Vo) ⟨[(0,.optr 8192 0 0 0),(1,.agg [.int .i64 f2.Params,.sl (f2.Slots.map JP),.sl (f2.Code.map JN)])],[(8192,some (0,⟨false,true,2,100,[.agg [.sl (c1.list.map eU8),.int .i64 c1.at_]]⟩))],262144⟩ (Ny c1 f2)
 refine Kd<|?_
 unfold Adq Ny
 refine sQ<|rG<|bX r r r r r<|nW r<|nI<|xS<|sQ<|rG<|lO (v:=.agg [.int .i64 f2.Params,.sl (f2.Slots.map JP),.sl (f2.Code.map JN)]) (z:=.agg [.int .i64 f2.Params,.sl (f2.Slots.map JP),.sl (f2.Code.map JN)]) r r r r r r<|bD fun r3 hr3=>cV f2 r r r Vd r r (by simp) r hr3<|nW r<|sV (z':=.agg [.sl (r3.Out.map (eL JK))]) r r r r r r r r r<|nI<|xS<|sQ<|rG<|fA r r<|lO (v:=.sl (r3.Out.map (eL JK))) (z:=.agg [.sl (r3.Out.map (eL JK))]) r r r r r r<|cK fun hq=>aP (([] : List (List Int))) (r3.Out) (eL JK) r r r r r r r (by simp) r r r (by simp) r (fun _=>r) r hq<|bL (cs:=[.osl 14 _ 0 ((([] : List (List Int)) ++ r3.Out).length)]) (ps:=[(0,1,.osl 14 _ 0 ((([] : List (List Int)) ++ r3.Out).length))]) r r r r<|nW r<|sV (z':=.agg [.osl 14 _ 0 ((([] : List (List Int)) ++ r3.Out).length)]) r r r r r r r r r<|nI<|xS<|sQ<|sQ<|rG<|mV r r<|bD fun r4 hr4=>cV (c1,3) r r r JR r r (by simp) r hr4<|aS r r<|nI<|xS<|bK<|lP (E:=fun (s : (List Int) × Int × (List (List Int)) × Int) (g : Nat × Nat × Nat × Nat)=>[(0,.optr 8192 0 0 0),(3,.optr 3 g.1 0 0),(4,.optr 4 g.2.1 0 0),(6,.optr 6 g.2.2.1 0 0),(7,.int .i64 s.2.2.2)]) (O:=fun s g=>[(3,some (g.1,⟨false,true,3,27,[.agg [.int .i64 f2.Params,.sl (f2.Slots.map JP),.sl (f2.Code.map JN)]]⟩)),(4,some (g.2.1,⟨false,true,1,30,[.agg [.nils]]⟩)),(6,some (g.2.2.1,⟨false,true,1,30,[.agg [.osl 14 g.2.2.2 0 s.2.2.1.length]]⟩)),(14,some (g.2.2.2,⟨false,false,1,36,s.2.2.1.map (eL JK)⟩)),(8192,some (0,⟨false,true,2,100,[.agg [.sl (s.1.map eU8),.int .i64 s.2.1]]⟩))]) (body:=fun s=>OT f2 s.1 s.2.1 s.2.2.1 s.2.2.2) (s:=(r4.2.list,r4.2.at_,([] : List (List Int)) ++ r3.Out,r4.1)) (_,_,_,_) ((hE ⟨rfl,r,r,r,r,trivial⟩ ⟨rfl,r,r,r,r,trivial⟩))<|?_
 rintro ⟨c5,c6,x7,n8⟩ ⟨v3x1,v4x1,v6x1,v14x1⟩ nn
 try dsimp only
 unfold OT
 refine sC (E:=fun (s : Unit) (g : Nat × Nat × Nat × Nat)=>[(0,.optr 8192 0 0 0),(3,.optr 3 g.1 0 0),(4,.optr 4 g.2.1 0 0),(6,.optr 6 g.2.2.1 0 0),(7,.int .i64 n8),(21,.optr 3 g.1 0 1),(22,.sl (f2.Slots.map JP)),(23,.int .i64 (f2.Slots.length : Int)),(24,.bool (decide ((f2.Slots.length : Int) > 0)))]) (O:=fun s g=>[(3,some (g.1,⟨false,true,3,27,[.agg [.int .i64 f2.Params,.sl (f2.Slots.map JP),.sl (f2.Code.map JN)]]⟩)),(4,some (g.2.1,⟨false,true,1,30,[.agg [.nils]]⟩)),(6,some (g.2.2.1,⟨false,true,1,30,[.agg [.osl 14 g.2.2.2 0 x7.length]]⟩)),(14,some (g.2.2.2,⟨false,false,1,36,x7.map (eL JK)⟩)),(8192,some (0,⟨false,true,2,100,[.agg [.sl (c5.map eU8),.int .i64 c6]]⟩))]) (j:=fun s=>OV c5 c6 f2 n8 x7) ?_ ?_
 ·refine sQ<|rG<|mV r r<|bN (v:=.bool (decide (n8 > 0))) r r r r r<|mV r r<|sP 20 (b:=(decide (n8 > 0))) r ?_ ?_
  ·refine fA r r<|lO (v:=.sl (f2.Slots.map JP)) (z:=.agg [.int .i64 f2.Params,.sl (f2.Slots.map JP),.sl (f2.Code.map JN)]) r r r r r r<|lS r r<|bN (v:=.bool (decide ((f2.Slots.length : Int) > 0))) r r r r r<|pT r r r r<|nI<|xS<|cD (c:=(decide ((f2.Slots.length : Int) > 0))) r ?_ ?_
   ·exact sK<|xC (s:=()) (_,_,_,_) ((hE ⟨rfl,r,r,r,r,r,r,r,r,trivial⟩ ⟨rfl,r,r,r,r,trivial⟩))
   ·refine eT<|NY<|lE<|bH<|xS<|sQ<|rG<|lO (v:=.agg [.osl 14 _ 0 x7.length]) (z:=.agg [.osl 14 _ 0 x7.length]) r r r r r r<|sV (z':=.agg [.osl 14 _ 0 x7.length]) r r r r r r r r r<|nI<|xS<|rT<|KC (b:=((JV.mk x7),(JJ.mk c5 c6))) r ?_ r r ?_ (by first | rfl | (simp only [Kh,Km]; rfl) | simp [Pw,Lt])
    all_goals first|(simp;done)|(simp;omega)|rfl|(simp [JU,JQ];done)
  ·refine oF r<|oF r<|oF r<|oF r<|pF r r r r<|nI<|xS<|Nj r<|eT<|NY<|lE<|bH<|xS<|sQ<|rG<|lO (v:=.agg [.osl 14 _ 0 x7.length]) (z:=.agg [.osl 14 _ 0 x7.length]) r r r r r r<|sV (z':=.agg [.osl 14 _ 0 x7.length]) r r r r r r r r r<|nI<|xS<|rT<|KC (b:=((JV.mk x7),(JJ.mk c5 c6))) r ?_ r r ?_ (by first | rfl | (simp only [Kh,Km]; rfl) | simp [Pw,Lt])
   all_goals first|(simp;done)|(simp;omega)|rfl|(simp [JU,JQ];done)
 ·rintro ⟨⟩ ⟨v3x2,v4x2,v6x2,v14x2⟩ nn
  try dsimp only
  unfold OV
  refine bC (E:=fun (s : (List Int) × Int × (List (List Int))) (g : Nat × Nat × Nat × Nat)=>[(0,.optr 8192 0 0 0),(3,.optr 3 g.1 0 0),(4,.optr 4 g.2.1 0 0),(6,.optr 6 g.2.2.1 0 0),(7,.int .i64 n8),(21,.optr 3 g.1 0 1),(22,.sl (f2.Slots.map JP)),(23,.int .i64 (f2.Slots.length : Int)),(24,.bool (decide ((f2.Slots.length : Int) > 0)))]) (O:=fun s g=>[(3,some (g.1,⟨false,true,3,27,[.agg [.int .i64 f2.Params,.sl (f2.Slots.map JP),.sl (f2.Code.map JN)]]⟩)),(4,some (g.2.1,⟨false,true,1,30,[.agg [.nils]]⟩)),(6,some (g.2.2.1,⟨false,true,1,30,[.agg [.osl 14 g.2.2.2 0 s.2.2.length]]⟩)),(14,some (g.2.2.2,⟨false,false,1,36,s.2.2.map (eL JK)⟩)),(8192,some (0,⟨false,true,2,100,[.agg [.sl (s.1.map eU8),.int .i64 s.2.1]]⟩))]) (j:=fun s=>OW n8 s.1 s.2.1 s.2.2) ?_ ?_
  ·refine sQ<|rG<|mV r r<|fA r r<|lO (v:=.sl (f2.Slots.map JP)) (z:=.agg [.int .i64 f2.Params,.sl (f2.Slots.map JP),.sl (f2.Code.map JN)]) r r r r r r<|lS r r<|bD fun r12 hr12=>cV ((JJ.mk c5 c6),(f2.Slots.length : Int)) r r r JR r r (by simp) r hr12<|aS r r<|nI<|xS<|sQ<|rG<|aS r r<|nI<|xS<|bK<|lP (E:=fun (s : (List (List Int)) × Int) (g : Nat × Nat × Nat × Nat)=>[(0,.optr 8192 0 0 0),(3,.optr 3 g.1 0 0),(4,.optr 4 g.2.1 0 0),(6,.optr 6 g.2.2.1 0 0),(7,.int .i64 n8),(8,.int .i64 r12.1),(9,.int .i64 s.2),(21,.optr 3 g.1 0 1),(22,.sl (f2.Slots.map JP)),(23,.int .i64 (f2.Slots.length : Int)),(24,.bool (decide ((f2.Slots.length : Int) > 0)))]) (O:=fun s g=>[(3,some (g.1,⟨false,true,3,27,[.agg [.int .i64 f2.Params,.sl (f2.Slots.map JP),.sl (f2.Code.map JN)]]⟩)),(4,some (g.2.1,⟨false,true,1,30,[.agg [.nils]]⟩)),(6,some (g.2.2.1,⟨false,true,1,30,[.agg [.osl 14 g.2.2.2 0 s.1.length]]⟩)),(14,some (g.2.2.2,⟨false,false,1,36,s.1.map (eL JK)⟩)),(8192,some (0,⟨false,true,2,100,[.agg [.sl (r12.2.list.map eU8),.int .i64 r12.2.at_]]⟩))]) (body:=fun s=>OU r12 n8 s.1 s.2) (s:=(x7,0)) (_,_,_,_) ((hE ⟨rfl,r,r,r,r,r,r,r,r,r,r,trivial⟩ ⟨rfl,r,r,r,r,trivial⟩))<|?_
   rintro ⟨x13,k14⟩ ⟨v3x3,v4x3,v6x3,v14x3⟩ nn
   try dsimp only
   unfold OU
   refine sQ<|sQ<|rG<|mV r r<|fA r r<|lO (v:=.osl 14 _ 0 x13.length) (z:=.agg [.osl 14 _ 0 x13.length]) r r r r r r<|lW r r<|bN (v:=.bool (decide (k14 < (x13.length : Int)))) r r r r r<|nI<|xS<|cD (c:=(decide (k14 < (x13.length : Int)))) r ?_ ?_
   ·exact sK<|xS<|sQ<|bK<|rG<|fA r r<|lO (v:=.osl 14 _ 0 x13.length) (z:=.agg [.osl 14 _ 0 x13.length]) r r r r r r<|mV r r<|fA r r<|lO (v:=.osl 14 _ 0 x13.length) (z:=.agg [.osl 14 _ 0 x13.length]) r r r r r r<|mV r r<|cK fun hq=>iO (l:=x13) (en:=(eL JK)) r r r r r hq<|bD fun x_e15 hx_e15=>lO (v:=.sl (x_e15.map JK)) (z:=(eL JK) x_e15) r r r (Mt hx_e15) r r<|mV r r<|bD fun r16 hr16=>cR (l:=r16) (en:=JK) (x_e15,r12.1) r r r Sm r r (by simp) r hr16 r<|cK fun hq=>iO (l:=x13) (en:=(eL JK)) r r r r r hq<|bD fun x_o17 hx_o17=>sE (l:=x13) (en:=(eL JK)) (q':=r16) r r r r r r r (by simp) hx_o17 r r r (by simp [Lj,cells,setAt,eL]) r<|Ki (by kernel_rfl)<|bM<|xS<|rG<|mV r r<|bN (v:=.int .i64 (IntKind.i64.wrap (k14 + 1))) r r r r r<|aS r r<|nI<|xL (s:=(x13.set k14.toNat r16,IntKind.i64.wrap (k14 + 1))) (_,_,_,_) ((hE ⟨rfl,r,r,r,r,r,r,r,r,r,r,trivial⟩ ⟨rfl,r,(Eq.trans (b:=some (_,⟨false,true,1,30,[.agg [.osl 14 _ 0 x13.length]]⟩)) r (by simp)),r,r,trivial⟩))
   ·exact eT<|xE<|lE<|bH<|Ng (s:=(r12.2.list,r12.2.at_,x13)) (_,_,_,_) ((hE ⟨rfl,r,r,r,r,r,r,r,r,trivial⟩ ⟨rfl,r,r,r,r,trivial⟩))
  ·rintro ⟨c9,c10,x11⟩ ⟨v3x4,v4x4,v6x4,v14x4⟩ nn
   try dsimp only
   unfold OW
   exact rG<|mV r r<|bN (v:=.int .i64 (IntKind.i64.wrap (n8 - 1))) r r r r r<|aS r r<|nI<|xL (s:=(c9,c10,x11,IntKind.i64.wrap (n8 - 1))) (_,_,_,_) ((hE ⟨rfl,r,r,r,r,trivial⟩ ⟨rfl,r,r,r,r,trivial⟩))

def Acs : Kb:=(.seq (.reg [P 2 (.asg (.c (.bool false)) none)] false) (.seq (.reg [M 3 0,P 4 (.bin .geq (T 3) (C 0)),M 5 4,⟨(some 6),(.mv (T 0)),(some ⟨5,true⟩),[]⟩,⟨(some 7),(.bin .lss (T 6) (C 512)),(some ⟨5,true⟩),[]⟩,P 8 (.pick (T 5) (T 7) (.c (.bool false))),P 2 (.asg (T 8) none)] false) .ret))
theorem Afd : (Tryd.f115.body.bind (Kc Tryd.prog Tryd.f115.ntmps)) = some Acs:=by kernel_rfl
theorem Afe : Tryd.f115.results.toList.mapM (Kp Tryd.prog) = some [(.t 2)]:=by kernel_rfl
def Qb (a : Int) : List D:=[.int .i64 a]
def Qa (ds : List D) : Int:=uI (ds.getD 0 .top)
theorem QA (a : Int) : Qa (Qb a) = a:=by simp [Qa,Qb,uI]
def Uy (b : Bool) : D:=.bool b
def Ux (_b : Bool) : List D:=[]
noncomputable def Nr : Dw.Spec:=Ka [] .ground Qb Qa (fun a=>Lr a) Uy Ux
set_option maxHeartbeats 4000000 in
theorem Ua : JX Tryd.prog 115 Nr:=by
 refine Kl (KM) Tryd.func115 (by decide) Afd Afe (np:=1) (by decide) QA (fun _=>r) (fun _=>r) (by decide)<|?_
 intro n1
 show TrE (specs []) Acs (Kr [] .ground [(.t 2)] Uy Ux) ⟨[(0,.int .i64 n1)],[],262144⟩ (Lr n1)
 refine Kd<|?_
 unfold Acs Lr
 refine sQ<|rG<|aS r r<|nI<|xS<|sQ<|rG<|mV r r<|bN (v:=.bool (decide (n1 ≥ 0))) r r r r r<|mV r r<|sP 5 (b:=(decide (n1 ≥ 0))) r ?_ ?_
 ·refine mV r r<|bN (v:=.bool (decide (n1 < 512))) r r r r r<|pT r r r r<|aS r r<|nI<|xS<|rT<|JZ (b:=(decide (n1 < 512))) r ?_ r r ?_ r
  all_goals first|(simp;done)|(simp;omega)|rfl|(simp [JU,JQ];done)
 ·refine oF r<|oF r<|pF r r r r<|aS r r<|nI<|xS<|rT<|JZ (b:=false) r ?_ r r ?_ r
  all_goals first|(simp;done)|(simp;omega)|rfl|(simp [JU,JQ];done)

end Go.Proofs.YtcelninhkmhjkaaDoor
