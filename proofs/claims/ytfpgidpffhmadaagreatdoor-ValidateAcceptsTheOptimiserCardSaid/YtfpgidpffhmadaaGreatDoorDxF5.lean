/-
  Programs on typed data, and the proofs that the code does what they say; written by a program (dx.py).
-/
import Derived.Test.YtfpgidpffhmadaaGreatDoorProg
import Derived.Test.YtfpgidpffhmadaaGreatDoorDc
import Derived.KernelRfl
import Derived.Test.YtfpgidpffhmadaaGreatDoorDxP
import Derived.Test.YtfpgidpffhmadaaGreatDoorDxF3
import Derived.Test.YtfpgidpffhmadaaGreatDoorDxF4
namespace Go.Proofs.YtfpgidpffhmadaaGreatDoor
open Go Go.Dw Go.Proofs
set_option maxRecDepth 100000
open Go.Dw renaming ZZ → mV,XI → bN,Rq → lO,VK → bD,XM → cK,XO → nI,XQ → xS,Aab → rG,Aad → sQ,RD → aO,XH → aS,XP → oF,XJ → bL,XK → bS,QF → cV,Pd → cG,Sf → cR,Zm → aP,Rr → sV,AaQ → sE,SK → iS,Vk → iO,SM → lS,Vl → lW,VL → fA,Abo → eX,Uj → lF,Uk → sP,Qf → pT,Pw → pF,Aaa → uN,XN → nW,XL → bX,RC → aN,XR → cD,VN → bK,Aac → rT,XV → sK,XS → eT,Zn → xC,VM → xL,RE → xR,WT → lR,TU → hE,Qg → lE,QG → bH,Px → bM,Tg → bR,QH → xE,XT → lP,UF → sC,XU → bC,rf → r
def Aho : Mm:=(.seq (.reg [P 2 (.box (T 0) 5 54),⟨(some 4),(.asg (.c .nils) (some ⟨1,3⟩)),none,[]⟩] false) (.seq (.seq (.reg [P 8 (.ld 5 true (T 2)),P 9 (.call (.c (.clo 31 [])) [(T 8)]),M 7 9,P 10 (.ext (T 7) 0),P 11 (.ext (T 7) 1),P 5 (.asg (T 10) none),P 6 (.asg (T 11) none)] false) (.seq (.reg [M 12 6] false) (.cond (T 12) (.reg [M 13 1,M 14 5,P 15 (.call (.c (.clo 58 [])) [(T 13),(T 14)]),⟨(some 1),(.asg (T 15) (some ⟨1,3⟩)),none,[]⟩] false) .skip))) (.seq (.reg [M 16 1,P 17 (.ld 5 true (T 2)),P 18 (.call (.c (.clo 59 [])) [(T 17)]),P 19 (.call (.c (.clo 42 [])) [(T 16),(T 18)]),⟨(some 4),(.asg (T 19) (some ⟨1,3⟩)),none,[]⟩] false) .ret)))
theorem Akl : (Tryz.f43.body.bind (Mo Tryz.prog Tryz.f43.ntmps)) = some Aho:=by kernel_rfl
theorem Akm : Tryz.f43.results.toList.mapM (My Tryz.prog) = some [(.t 4)]:=by kernel_rfl
def ZL (a : LU × (List Int)) : List D:=[LW a.1,.sl (a.2.map LS)]
def ZK (ds : List D) : LU × (List Int):=(SS (ds.getD 0 .top),(uL uI) (ds.getD 1 .top))
theorem AaN (a : LU × (List Int)) : ZK (ZL a) = a:=by simp [ZK,ZL,Nt (u:=uI) (en:=LS) (fun _=>rfl)]
def AdQ (b : (List Int)) : D:=.sl (b.map LS)
def AdP (_b : (List Int)) : List D:=[]
noncomputable def Wy : Dw.Spec:=Ml [] (.row 1 3) ZL ZK (fun a=>VG a.1 a.2) AdQ AdP
set_option maxHeartbeats 4000000 in
theorem Adv : Mk Tryz.prog 43 Wy:=by
 refine Mv (Mp (l:=[(31,Pa),(58,Xp),(59,ZM),(42,Qc)]) (by simp [VF,AdO,AeC,Xs])) Tryz.func43 (by decide) Akl Akm (np:=2) (by decide) AaN (fun _=>r) (fun _=>r) (by decide)<|?_
 rintro ⟨x1,out2⟩
 show TrE (specs [(31,Pa),(58,Xp),(59,ZM),(42,Qc)]) Aho (Mz [] (.row 1 3) [(.t 4)] AdQ AdP) ⟨[(0,.agg [.int .i64 x1.Op,.int .i64 x1.A,.int .i64 x1.B,.int .i64 x1.C,.int .u64 x1.Imm]),(1,.sl (out2.map LS))],[],262144⟩ (VG x1 out2)
 refine Mq<|?_
 unfold Aho VG
 refine sQ<|rG<|bX r r r r r<|aN (α:=Int) r LS r<|nI<|xS<|sQ<|sQ<|rG<|lO (v:=.agg [.int .i64 x1.Op,.int .i64 x1.A,.int .i64 x1.B,.int .i64 x1.C,.int .u64 x1.Imm]) (z:=.agg [.int .i64 x1.Op,.int .i64 x1.A,.int .i64 x1.B,.int .i64 x1.C,.int .u64 x1.Imm]) r r r r r r<|bD fun r3 hr3=>cG x1 r r r SA r r (by simp) r hr3 r<|mV r r<|eX (v:=.int .i64 r3.1) r r r<|eX (v:=.bool r3.2) r r r<|aS r r<|aS r r<|nI<|xS<|sQ<|rG<|mV r r<|nI<|xS<|cD (c:=r3.2) r ?_ ?_
 ·refine rG<|mV r r<|mV r r<|bD fun r4 hr4=>cR (l:=r4) (en:=LS) (out2,r3.1) r r r Aas r r (by simp) r hr4 r<|aO (l:=r4) (en:=LS) r r r r<|nI<|xS<|sQ<|rG<|mV r r<|lO (v:=.agg [.int .i64 x1.Op,.int .i64 x1.A,.int .i64 x1.B,.int .i64 x1.C,.int .u64 x1.Imm]) (z:=.agg [.int .i64 x1.Op,.int .i64 x1.A,.int .i64 x1.B,.int .i64 x1.C,.int .u64 x1.Imm]) r r r r r r<|bD fun r5 hr5=>cR (l:=r5) (en:=LS) x1 r r r YC r r (by simp) r hr5 r<|bD fun r6 hr6=>cR (l:=r6) (en:=LS) (r4,r5) r r r Sa r r (by simp) (by first | rfl | (simp only [Mw,MB]; rfl) | simp [OZ]) hr6 r<|aO (l:=r6) (en:=LS) r r r r<|nI<|xS<|rT<|MC (b:=r6) r ?_ r r ?_ r ?_ (congrArg D.sl (Md _ _ r)) r
  all_goals first|(simp;done)|(simp;omega)|rfl|(simp [Me,Mc];done)
 ·refine sK<|xS<|sQ<|rG<|mV r r<|lO (v:=.agg [.int .i64 x1.Op,.int .i64 x1.A,.int .i64 x1.B,.int .i64 x1.C,.int .u64 x1.Imm]) (z:=.agg [.int .i64 x1.Op,.int .i64 x1.A,.int .i64 x1.B,.int .i64 x1.C,.int .u64 x1.Imm]) r r r r r r<|bD fun r7 hr7=>cR (l:=r7) (en:=LS) x1 r r r YC r r (by simp) r hr7 r<|bD fun r8 hr8=>cR (l:=r8) (en:=LS) (out2,r7) r r r Sa r r (by simp) (by first | rfl | (simp only [Mw,MB]; rfl) | simp [OZ]) hr8 r<|aO (l:=r8) (en:=LS) r r r r<|nI<|xS<|rT<|MC (b:=r8) r ?_ r r ?_ r ?_ (congrArg D.sl (Md _ _ r)) r
  all_goals first|(simp;done)|(simp;omega)|rfl|(simp [Me,Mc];done)

def AgY : Mm:=(.seq (.reg [P 2 (.box (T 0) 3 33),P 3 (.box (T 1) 1 37),P 4 (.new (.agg [.nils]) 1 37)] false) (.seq (.reg [P 10 (.fldA 2 (T 2)),P 11 (.ld 1 false (T 10)),P 12 (.len false (T 11)),P 13 (.mkS 1 42 24 .nils (T 12) (T 12)),⟨(some 14),(.bld [.nils] [⟨0,⟨1,(T 13)⟩⟩]),none,[]⟩,P 5 (.new (.agg [.nils]) 1 37),⟨none,(.st 1 (T 5) (T 14)),none,[]⟩] false) (.seq (.seq (.reg [P 6 (.asg (C 0) none)] false) (.block 0 (.loop (.seq (.seq (.reg [M 15 6,P 16 (.fldA 2 (T 2)),P 17 (.ld 1 false (T 16)),P 18 (.len false (T 17)),P 19 (.bin .lss (T 15) (T 18))] false) (.cond (T 19) .skip (.exit 0))) (.seq (.block 1 (.seq (.reg [P 22 (.ld 3 true (T 2)),M 23 6,P 24 (.call (.c (.clo 41 [])) [(T 22),(T 23)]),⟨(some 7),(.asg (T 24) (some ⟨1,3⟩)),none,[]⟩] false) (.seq (.reg [P 8 (.asg (C 0) none)] false) (.block 2 (.loop (.seq (.seq (.reg [M 25 8,M 26 7,P 27 (.len false (T 26)),P 28 (.bin .lss (T 25) (T 27))] false) (.cond (T 28) .skip (.exit 2))) (.seq (.block 3 (.seq (.reg [M 31 7,M 32 8,P 33 (.ixA 1 (T 31) (T 32)),P 34 (.ld 1 false (T 33)),P 9 (.asg (T 34) none)] false) (.reg [P 35 (.fldA 0 (T 5)),⟨(some 36),(.ld 1 false (T 35)),none,[0]⟩,M 37 6,P 38 (.fldA 0 (T 5)),⟨(some 39),(.ld 1 false (T 38)),none,[3]⟩,M 40 6,⟨(some 41),(.ixA 1 (T 39) (T 40)),none,[4,5]⟩,⟨(some 42),(.ld 1 false (T 41)),none,[6]⟩,P 43 (.fldA 2 (T 2)),⟨(some 44),(.ld 1 false (T 43)),none,[8]⟩,M 45 9,⟨(some 46),(.ixA 5 (T 44) (T 45)),none,[9,10]⟩,⟨(some 47),(.ld 5 true (T 46)),none,[11]⟩,P 48 (.fldA 0 (T 3)),⟨(some 49),(.ld 1 false (T 48)),none,[13]⟩,M 50 9,⟨(some 51),(.ixA 1 (T 49) (T 50)),none,[14,15]⟩,⟨(some 52),(.ld 1 false (T 51)),none,[16]⟩,⟨(some 53),(.call (.c (.clo 43 [])) [(T 47),(T 52)]),none,[12,17]⟩,⟨(some 54),(.call (.c (.clo 42 [])) [(T 42),(T 53)]),none,[7,18,18]⟩,⟨(some 55),(.ixA 1 (T 36) (T 37)),none,[1,2,0,1,2,3,4,5,6,7,8,9,10,11,12,13,14,15,16,17,18,19]⟩,⟨none,(.st 1 (T 55) (T 54)),none,[20,19,19,0,1,2,3,4,5,6,7,8,9,10,11,12,13,14,15,16,17,18,19]⟩] true))) (.reg [M 29 8,P 30 (.bin .add (T 29) (C 1)),P 8 (.asg (T 30) none)] false)))))))) (.reg [M 20 6,P 21 (.bin .add (T 20) (C 1)),P 6 (.asg (T 21) none)] false)))))) (.seq (.reg [P 56 (.ld 1 true (T 5)),⟨none,(.st 1 (T 4) (T 56)),none,[]⟩] false) .ret))))
theorem AjF : (Tryz.f27.body.bind (Mo Tryz.prog Tryz.f27.ntmps)) = some AgY:=by kernel_rfl
theorem AjG : Tryz.f27.results.toList.mapM (My Tryz.prog) = some [(.c 4 1 true)]:=by kernel_rfl
def XC (a : LY × Mf) : List D:=[ME a.1,Nf a.2]
def XB (ds : List D) : LY × Mf:=(Ny (ds.getD 0 .top),OL (ds.getD 1 .top))
theorem AbR (a : LY × Mf) : XB (XC a) = a:=by simp [XB,XC]
def ZO (b : Mf) : D:=Nf b
def AcK (_b : Mf) : List D:=[]
noncomputable def ZP : Dw.Spec:=Ml [] .val XC XB (fun a=>Us a.1 a.2) ZO AcK
set_option maxHeartbeats 4000000 in
theorem AeE : Mk Tryz.prog 27 ZP:=by
 refine Mv (Mp (l:=[(41,Uf),(43,Wy),(42,Qc)]) (by simp [AbN,Adv,Xs])) Tryz.func27 (by decide) AjF AjG (np:=2) (by decide) AbR (fun _=>r) (fun _=>r) (by decide)<|?_
 rintro ⟨f1,l2⟩
 show TrE (specs [(41,Uf),(43,Wy),(42,Qc)]) AgY (Mz [] .val [(.c 4 1 true)] ZO AcK) ⟨[(0,.agg [.int .i64 f1.Params,.sl (f1.Slots.map LZ),.sl (f1.Code.map LW)]),(1,.agg [.sl (l2.Out.map (eL LS))])],[],262144⟩ (Us f1 l2)
 refine Mq<|?_
 unfold AgY Us
 refine sQ<|rG<|bX r r r r r<|bX r r r r r<|nW r<|nI<|xS<|sQ<|rG<|fA r r<|lO (v:=.sl (f1.Code.map LW)) (z:=.agg [.int .i64 f1.Params,.sl (f1.Slots.map LZ),.sl (f1.Code.map LW)]) r r r r r r<|lS r r<|cK fun hq=>AaP (α:=Int) r r r hq r<|bL (cs:=[.osl 13 _ 0 ((List.replicate (f1.Code.length : Int).toNat ([] : (List Int))).length)]) (ps:=[(0,1,.osl 13 _ 0 ((List.replicate (f1.Code.length : Int).toNat ([] : (List Int))).length))]) r r r r<|nW r<|sV (z':=.agg [.osl 13 _ 0 ((List.replicate (f1.Code.length : Int).toNat ([] : (List Int))).length)]) r r r r r r r r r<|nI<|Qs (E:=[(2,.optr 2 _ 0 0),(3,.optr 3 _ 0 0),(4,.optr 4 _ 0 0),(5,.optr 5 _ 0 0)]) (O:=[(2,some (_,⟨false,true,3,33,[.agg [.int .i64 f1.Params,.sl (f1.Slots.map LZ),.sl (f1.Code.map LW)]]⟩)),(3,some (_,⟨false,true,1,37,[.agg [.sl (l2.Out.map (eL LS))]]⟩)),(4,some (_,⟨false,true,1,37,[.agg [.nils]]⟩)),(5,some (_,⟨false,true,1,37,[.agg [.osl 13 _ 0 ((List.replicate (f1.Code.length : Int).toNat ([] : (List Int))).length)]]⟩)),(13,some (_,⟨false,false,1,42,(List.replicate (f1.Code.length : Int).toNat ([] : (List Int))).map (eL LS)⟩))]) ((Acu (g:=13) r (AdA (l:=List.replicate (f1.Code.length : Int).toNat ([] : (List Int))) LS (fun _ h=>List.eq_of_mem_replicate h)) (hE ⟨rfl,r,r,r,trivial⟩ ⟨rfl,r,r,r,r,trivial⟩))) fun nn=>sQ<|sQ<|rG<|aS r r<|nI<|xS<|bK<|lP (E:=fun (s : (List (List Int)) × Int) (g : Nat × Nat × Nat × Nat × Nat)=>[(2,.optr 2 g.1 0 0),(3,.optr 3 g.2.1 0 0),(4,.optr 4 g.2.2.1 0 0),(5,.optr 5 g.2.2.2.1 0 0),(6,.int .i64 s.2)]) (O:=fun s g=>[(2,some (g.1,⟨false,true,3,33,[.agg [.int .i64 f1.Params,.sl (f1.Slots.map LZ),.sl (f1.Code.map LW)]]⟩)),(3,some (g.2.1,⟨false,true,1,37,[.agg [.sl (l2.Out.map (eL LS))]]⟩)),(4,some (g.2.2.1,⟨false,true,1,37,[.agg [.nils]]⟩)),(5,some (g.2.2.2.1,⟨false,true,1,37,[.agg [.osl 13 g.2.2.2.2 0 s.1.length]]⟩)),(13,some (g.2.2.2.2,⟨false,false,1,42,s.1.map (eL LS)⟩))]) (body:=fun s=>Rc f1 l2 s.1 s.2) (s:=(List.replicate (f1.Code.length : Int).toNat ([] : (List Int)),0)) (_,_,_,_,_) ((hE ⟨rfl,r,r,r,r,trivial⟩ ⟨rfl,r,r,r,r,trivial⟩))<|?_
 rintro ⟨x3,k4⟩ ⟨v2x1,v3x1,v4x1,v5x1,v13x1⟩ nn
 try dsimp only
 unfold Rc
 refine sQ<|sQ<|rG<|mV r r<|fA r r<|lO (v:=.sl (f1.Code.map LW)) (z:=.agg [.int .i64 f1.Params,.sl (f1.Slots.map LZ),.sl (f1.Code.map LW)]) r r r r r r<|lS r r<|bN (v:=.bool (decide (k4 < (f1.Code.length : Int)))) r r r r r<|nI<|xS<|cD (c:=(decide (k4 < (f1.Code.length : Int)))) r ?_ ?_
 ·refine sK<|xS<|bC (E:=fun (s : (List (List Int))) (g : Nat × Nat × Nat × Nat × Nat)=>[(2,.optr 2 g.1 0 0),(3,.optr 3 g.2.1 0 0),(4,.optr 4 g.2.2.1 0 0),(5,.optr 5 g.2.2.2.1 0 0),(6,.int .i64 k4)]) (O:=fun s g=>[(2,some (g.1,⟨false,true,3,33,[.agg [.int .i64 f1.Params,.sl (f1.Slots.map LZ),.sl (f1.Code.map LW)]]⟩)),(3,some (g.2.1,⟨false,true,1,37,[.agg [.sl (l2.Out.map (eL LS))]]⟩)),(4,some (g.2.2.1,⟨false,true,1,37,[.agg [.nils]]⟩)),(5,some (g.2.2.2.1,⟨false,true,1,37,[.agg [.osl 13 g.2.2.2.2 0 s.length]]⟩)),(13,some (g.2.2.2.2,⟨false,false,1,42,s.map (eL LS)⟩))]) (j:=fun s=>Vq k4 s) ?_ ?_
  ·refine sQ<|rG<|lO (v:=.agg [.int .i64 f1.Params,.sl (f1.Slots.map LZ),.sl (f1.Code.map LW)]) (z:=.agg [.int .i64 f1.Params,.sl (f1.Slots.map LZ),.sl (f1.Code.map LW)]) r r r r r r<|mV r r<|bD fun r6 hr6=>cR (l:=r6) (en:=LS) (f1,k4) r r r YB r r (by simp) r hr6 r<|aO (l:=r6) (en:=LS) r r r r<|nI<|xS<|sQ<|rG<|aS r r<|nI<|xS<|bK<|lP (E:=fun (s : (List (List Int)) × Int) (g : Nat × Nat × Nat × Nat × Nat × Nat)=>[(2,.optr 2 g.1 0 0),(3,.optr 3 g.2.1 0 0),(4,.optr 4 g.2.2.1 0 0),(5,.optr 5 g.2.2.2.1 0 0),(6,.int .i64 k4),(7,.osl 7 g.2.2.2.2.1 0 r6.length),(8,.int .i64 s.2)]) (O:=fun s g=>[(2,some (g.1,⟨false,true,3,33,[.agg [.int .i64 f1.Params,.sl (f1.Slots.map LZ),.sl (f1.Code.map LW)]]⟩)),(3,some (g.2.1,⟨false,true,1,37,[.agg [.sl (l2.Out.map (eL LS))]]⟩)),(4,some (g.2.2.1,⟨false,true,1,37,[.agg [.nils]]⟩)),(5,some (g.2.2.2.1,⟨false,true,1,37,[.agg [.osl 13 g.2.2.2.2.2 0 s.1.length]]⟩)),(7,some (g.2.2.2.2.1,⟨false,false,1,3,r6.map LS⟩)),(13,some (g.2.2.2.2.2,⟨false,false,1,42,s.1.map (eL LS)⟩))]) (body:=fun s=>Re r6 k4 f1 l2 s.1 s.2) (s:=(x3,0)) (_,_,_,_,_,_) ((hE ⟨rfl,r,r,r,r,r,r,trivial⟩ ⟨rfl,r,r,r,r,r,trivial⟩))<|?_
   rintro ⟨x7,i8⟩ ⟨v2x2,v3x2,v4x2,v5x2,v7x2,v13x2⟩ nn
   try dsimp only
   unfold Re
   refine sQ<|sQ<|rG<|mV r r<|mV r r<|lW r r<|bN (v:=.bool (decide (i8 < (r6.length : Int)))) r r r r r<|nI<|xS<|cD (c:=(decide (i8 < (r6.length : Int)))) r ?_ ?_
   ·exact sK<|xS<|sQ<|bK<|sQ<|rG<|mV r r<|mV r r<|cK fun hq=>iO (l:=r6) (en:=LS) r r r r r hq<|bD fun next_e9 hnext_e9=>lO (v:=.int .i64 next_e9) (z:=LS next_e9) r r r (Nn hnext_e9) r r<|aS r r<|nI<|xS<|rG<|fA r r<|lO (v:=.osl 13 _ 0 x7.length) (z:=.agg [.osl 13 _ 0 x7.length]) r r r r r r<|mV r r<|fA r r<|lO (v:=.osl 13 _ 0 x7.length) (z:=.agg [.osl 13 _ 0 x7.length]) r r r r r r<|mV r r<|cK fun hq=>iO (l:=x7) (en:=(eL LS)) r r r r r hq<|bD fun x_e10 hx_e10=>lO (v:=.sl (x_e10.map LS)) (z:=(eL LS) x_e10) r r r (Nn hx_e10) r r<|fA r r<|lO (v:=.sl (f1.Code.map LW)) (z:=.agg [.int .i64 f1.Params,.sl (f1.Slots.map LZ),.sl (f1.Code.map LW)]) r r r r r r<|mV r r<|bD fun x_x11 hx_x11=>iS (en:=LW) r r r hx_x11 r<|lF (v:=.agg [.int .i64 x_x11.Op,.int .i64 x_x11.A,.int .i64 x_x11.B,.int .i64 x_x11.C,.int .u64 x_x11.Imm]) r r r r<|fA r r<|lO (v:=.sl (l2.Out.map (eL LS))) (z:=.agg [.sl (l2.Out.map (eL LS))]) r r r r r r<|mV r r<|bD fun x_x12 hx_x12=>iS (en:=(eL LS)) r r r hx_x12 r<|lF (v:=.sl (x_x12.map LS)) r r r r<|bD fun r13 hr13=>cR (l:=r13) (en:=LS) (x_x11,x_x12) r r r AaN r r (by simp) r hr13 r<|bD fun r14 hr14=>cR (l:=r14) (en:=LS) (x_e10,r13) r r r Sa r r (by simp) (by first | rfl | (simp only [Mw,MB]; rfl) | simp [OZ]) hr14 r<|cK fun hq=>iO (l:=x7) (en:=(eL LS)) r r r r r hq<|bD fun x_o15 hx_o15=>sE (l:=x7) (en:=(eL LS)) (q':=r14) r r r r r r r (by simp) hx_o15 r r r (by simp [MO,cells,setAt,eL]) r<|Mj (by kernel_rfl)<|bM<|xS<|rG<|mV r r<|bN (v:=.int .i64 (IntKind.i64.wrap (i8 + 1))) r r r r r<|aS r r<|nI<|xL (s:=(x7.set k4.toNat r14,IntKind.i64.wrap (i8 + 1))) (_,_,_,_,_,_) ((hE ⟨rfl,r,r,r,r,r,r,trivial⟩ ⟨rfl,r,r,(Eq.trans (b:=some (_,⟨false,true,1,37,[.agg [.osl 13 _ 0 x7.length]]⟩)) r (by simp)),r,r,trivial⟩))
   ·exact eT<|xE<|lE<|bH<|NM (s:=x7) (_,_,_,_,_) ((hE ⟨rfl,r,r,r,r,trivial⟩ ⟨rfl,r,r,r,r,trivial⟩))
  ·rintro x5 ⟨v2x3,v3x3,v4x3,v5x3,v13x3⟩ nn
   try dsimp only
   unfold Vq
   exact rG<|mV r r<|bN (v:=.int .i64 (IntKind.i64.wrap (k4 + 1))) r r r r r<|aS r r<|nI<|xL (s:=(x5,IntKind.i64.wrap (k4 + 1))) (_,_,_,_,_) ((hE ⟨rfl,r,r,r,r,trivial⟩ ⟨rfl,r,r,r,r,trivial⟩))
 ·refine eT<|xE<|lE<|bH<|xS<|sQ<|rG<|lO (v:=.agg [.osl 13 _ 0 x3.length]) (z:=.agg [.osl 13 _ 0 x3.length]) r r r r r r<|sV (z':=.agg [.osl 13 _ 0 x3.length]) r r r r r r r r r<|nI<|xS<|rT<|Nl (b:=(Mf.mk x3)) r ?_ r r ?_ (by first | rfl | (simp only [Mw,MB]; rfl) | simp [ZO,Nf])
  all_goals first|(simp;done)|(simp;omega)|rfl|(simp [Me,Mc];done)

def AhF : Mm:=(.seq (.reg [P 4 (.asg (.c (.bool false)) none)] false) (.seq (.seq (.reg [M 6 0,P 7 (.len false (T 6)),M 8 1,P 9 (.len false (T 8)),P 10 (.bin .neq (T 7) (T 9))] false) (.cond (T 10) (.seq (.reg [P 4 (.asg (.c (.bool false)) none)] false) .ret) .skip)) (.seq (.seq (.reg [P 5 (.asg (C 0) none)] false) (.block 0 (.loop (.seq (.seq (.reg [M 11 5,M 12 0,P 13 (.len false (T 12)),P 14 (.bin .lss (T 11) (T 13))] false) (.cond (T 14) .skip (.exit 0))) (.seq (.block 1 (.seq (.reg [M 17 0,M 18 5,⟨(some 19),(.ixA 1 (T 17) (T 18)),none,[0,1]⟩,⟨(some 20),(.ld 1 false (T 19)),none,[2]⟩,M 21 1,M 22 5,⟨(some 23),(.ixA 1 (T 21) (T 22)),none,[4,5]⟩,⟨(some 24),(.ld 1 false (T 23)),none,[6]⟩,⟨(some 25),(.bin .neq (T 20) (T 24)),none,[3,7]⟩] true) (.cond (T 25) (.seq (.reg [P 4 (.asg (.c (.bool false)) none)] false) .ret) .skip))) (.reg [M 15 5,P 16 (.bin .add (T 15) (C 1)),P 5 (.asg (T 16) none)] false)))))) (.seq (.reg [P 4 (.asg (.c (.bool true)) none)] false) .ret))))
theorem AkT : (Tryz.f60.body.bind (Mo Tryz.prog Tryz.f60.ntmps)) = some AhF:=by kernel_rfl
theorem AkU : Tryz.f60.results.toList.mapM (My Tryz.prog) = some [(.t 4)]:=by kernel_rfl
def Xr (a : (List Int) × (List Int)) : List D:=[.sl (a.1.map LS),.sl (a.2.map LS)]
def Xq (ds : List D) : (List Int) × (List Int):=((uL uI) (ds.getD 0 .top),(uL uI) (ds.getD 1 .top))
theorem AbJ (a : (List Int) × (List Int)) : Xq (Xr a) = a:=by simp [Xq,Xr,Nt (u:=uI) (en:=LS) (fun _=>rfl)]
def AcA (b : Bool) : D:=.bool b
def Acz (_b : Bool) : List D:=[]
noncomputable def ZJ : Dw.Spec:=Ml [] .ground Xr Xq (fun a=>Up a.1 a.2) AcA Acz
set_option maxHeartbeats 4000000 in
theorem AeB : Mk Tryz.prog 60 ZJ:=by
 refine Mv (Nb) Tryz.func60 (by decide) AkT AkU (np:=2) (by decide) AbJ (fun _=>r) (fun _=>r) (by decide)<|?_
 rintro ⟨a1,b2⟩
 show TrE (specs []) AhF (Mz [] .ground [(.t 4)] AcA Acz) ⟨[(0,.sl (a1.map LS)),(1,.sl (b2.map LS))],[],262144⟩ (Up a1 b2)
 refine Mq<|?_
 unfold AhF Up
 refine sQ<|rG<|aS r r<|nI<|xS<|sQ<|sQ<|rG<|mV r r<|lS r r<|mV r r<|lS r r<|bN (v:=.bool ((a1.length : Int) != (b2.length : Int))) r r r r r<|nI<|xS<|cD (c:=((a1.length : Int) != (b2.length : Int))) r ?_ ?_
 ·refine sQ<|rG<|aS r r<|nI<|xS<|rT<|xR<|Mg (b:=false) r ?_ r r ?_ r
  all_goals first|(simp;done)|(simp;omega)|rfl|(simp [Me,Mc];done)
 ·refine sK<|xS<|sQ<|sQ<|rG<|aS r r<|nI<|xS<|bK<|lP (E:=fun (s : Int) (g : Unit)=>[(0,.sl (a1.map LS)),(1,.sl (b2.map LS)),(5,.int .i64 s)]) (O:=fun s g=>[]) (body:=fun s=>Qb a1 b2 s) (s:=0) () ((hE ⟨rfl,r,r,trivial⟩ trivial))<|?_
  rintro i3 ⟨⟩ nn
  try dsimp only
  unfold Qb
  refine sQ<|sQ<|rG<|mV r r<|mV r r<|lS r r<|bN (v:=.bool (decide (i3 < (a1.length : Int)))) r r r r r<|nI<|xS<|cD (c:=(decide (i3 < (a1.length : Int)))) r ?_ ?_
  ·refine sK<|xS<|sQ<|bK<|sQ<|rG<|mV r r<|mV r r<|bD fun x_x4 hx_x4=>iS (en:=LS) r r r hx_x4 r<|lF (v:=.int .i64 x_x4) r r r r<|mV r r<|mV r r<|bD fun x_x5 hx_x5=>iS (en:=LS) r r r hx_x5 r<|lF (v:=.int .i64 x_x5) r r r r<|bN (v:=.bool (x_x4 != x_x5)) r r r r r<|Mj (by kernel_rfl)<|xS<|cD (c:=(x_x4 != x_x5)) r ?_ ?_
   ·refine sQ<|rG<|aS r r<|nI<|xS<|rT<|bR<|xR<|lR<|bR<|xR<|Mg (b:=false) r ?_ r r ?_ r
    all_goals first|(simp;done)|(simp;omega)|rfl|(simp [Me,Mc];done)
   ·exact sK<|bM<|xS<|rG<|mV r r<|bN (v:=.int .i64 (IntKind.i64.wrap (i3 + 1))) r r r r r<|aS r r<|nI<|xL (s:=IntKind.i64.wrap (i3 + 1)) () ((hE ⟨rfl,r,r,trivial⟩ trivial))
  ·refine eT<|xE<|lE<|bH<|xS<|sQ<|rG<|aS r r<|nI<|xS<|rT<|Mg (b:=true) r ?_ r r ?_ r
   all_goals first|(simp;done)|(simp;omega)|rfl|(simp [Me,Mc];done)

def Ahp : Mm:=(.seq (.reg [P 4 (.asg (.c (.bool false)) none)] false) (.seq (.seq (.reg [M 6 0,P 7 (.len false (T 6)),M 8 1,P 9 (.len false (T 8)),P 10 (.bin .neq (T 7) (T 9))] false) (.cond (T 10) (.seq (.reg [P 4 (.asg (.c (.bool false)) none)] false) .ret) .skip)) (.seq (.seq (.reg [P 5 (.asg (C 0) none)] false) (.block 0 (.loop (.seq (.seq (.reg [M 11 5,M 12 0,P 13 (.len false (T 12)),P 14 (.bin .lss (T 11) (T 13))] false) (.cond (T 14) .skip (.exit 0))) (.seq (.block 1 (.seq (.reg [M 17 0,M 18 5,⟨(some 19),(.ixA 1 (T 17) (T 18)),none,[0,1]⟩,⟨(some 20),(.ld 1 false (T 19)),none,[2]⟩,M 21 1,M 22 5,⟨(some 23),(.ixA 1 (T 21) (T 22)),none,[4,5]⟩,⟨(some 24),(.ld 1 false (T 23)),none,[6]⟩,⟨(some 25),(.call (.c (.clo 60 [])) [(T 20),(T 24)]),none,[3,7]⟩,⟨(some 26),(.un .not (T 25)),none,[8]⟩] true) (.cond (T 26) (.seq (.reg [P 4 (.asg (.c (.bool false)) none)] false) .ret) .skip))) (.reg [M 15 5,P 16 (.bin .add (T 15) (C 1)),P 5 (.asg (T 16) none)] false)))))) (.seq (.reg [P 4 (.asg (.c (.bool true)) none)] false) .ret))))
theorem Akn : (Tryz.f44.body.bind (Mo Tryz.prog Tryz.f44.ntmps)) = some Ahp:=by kernel_rfl
theorem Ako : Tryz.f44.results.toList.mapM (My Tryz.prog) = some [(.t 4)]:=by kernel_rfl
def UT (a : (List (List Int)) × (List (List Int))) : List D:=[.sl (a.1.map (eL LS)),.sl (a.2.map (eL LS))]
def US (ds : List D) : (List (List Int)) × (List (List Int)):=((uL (uL uI)) (ds.getD 0 .top),(uL (uL uI)) (ds.getD 1 .top))
theorem ZI (a : (List (List Int)) × (List (List Int))) : US (UT a) = a:=by simp [US,UT,Nt (u:=(uL uI)) (en:=(eL LS)) (Nt (u:=uI) (en:=LS) (fun _=>rfl))]
def Aau (b : Bool) : D:=.bool b
def Aat (_b : Bool) : List D:=[]
noncomputable def Ww : Dw.Spec:=Ml [] .ground UT US (fun a=>Rb a.1 a.2) Aau Aat
set_option maxHeartbeats 4000000 in
theorem AdB : Mk Tryz.prog 44 Ww:=by
 refine Mv (Mp (l:=[(60,ZJ)]) (by simp [AeB])) Tryz.func44 (by decide) Akn Ako (np:=2) (by decide) ZI (fun _=>r) (fun _=>r) (by decide)<|?_
 rintro ⟨a1,b2⟩
 show TrE (specs [(60,ZJ)]) Ahp (Mz [] .ground [(.t 4)] Aau Aat) ⟨[(0,.sl (a1.map (eL LS))),(1,.sl (b2.map (eL LS)))],[],262144⟩ (Rb a1 b2)
 refine Mq<|?_
 unfold Ahp Rb
 refine sQ<|rG<|aS r r<|nI<|xS<|sQ<|sQ<|rG<|mV r r<|lS r r<|mV r r<|lS r r<|bN (v:=.bool ((a1.length : Int) != (b2.length : Int))) r r r r r<|nI<|xS<|cD (c:=((a1.length : Int) != (b2.length : Int))) r ?_ ?_
 ·refine sQ<|rG<|aS r r<|nI<|xS<|rT<|xR<|Mg (b:=false) r ?_ r r ?_ r
  all_goals first|(simp;done)|(simp;omega)|rfl|(simp [Me,Mc];done)
 ·refine sK<|xS<|sQ<|sQ<|rG<|aS r r<|nI<|xS<|bK<|lP (E:=fun (s : Int) (g : Unit)=>[(0,.sl (a1.map (eL LS))),(1,.sl (b2.map (eL LS))),(5,.int .i64 s)]) (O:=fun s g=>[]) (body:=fun s=>Oy a1 b2 s) (s:=0) () ((hE ⟨rfl,r,r,trivial⟩ trivial))<|?_
  rintro i3 ⟨⟩ nn
  try dsimp only
  unfold Oy
  refine sQ<|sQ<|rG<|mV r r<|mV r r<|lS r r<|bN (v:=.bool (decide (i3 < (a1.length : Int)))) r r r r r<|nI<|xS<|cD (c:=(decide (i3 < (a1.length : Int)))) r ?_ ?_
  ·refine sK<|xS<|sQ<|bK<|sQ<|rG<|mV r r<|mV r r<|bD fun x_x4 hx_x4=>iS (en:=(eL LS)) r r r hx_x4 r<|lF (v:=.sl (x_x4.map LS)) r r r r<|mV r r<|mV r r<|bD fun x_x5 hx_x5=>iS (en:=(eL LS)) r r r hx_x5 r<|lF (v:=.sl (x_x5.map LS)) r r r r<|bD fun r6 hr6=>cG (x_x4,x_x5) r r r AbJ r r (by simp) r hr6 r<|uN (w:=.bool (!r6)) r r r r trivial<|Mj (by kernel_rfl)<|xS<|cD (c:=(!r6)) r ?_ ?_
   ·refine sQ<|rG<|aS r r<|nI<|xS<|rT<|bR<|xR<|lR<|bR<|xR<|Mg (b:=false) r ?_ r r ?_ r
    all_goals first|(simp;done)|(simp;omega)|rfl|(simp [Me,Mc];done)
   ·exact sK<|bM<|xS<|rG<|mV r r<|bN (v:=.int .i64 (IntKind.i64.wrap (i3 + 1))) r r r r r<|aS r r<|nI<|xL (s:=IntKind.i64.wrap (i3 + 1)) () ((hE ⟨rfl,r,r,trivial⟩ trivial))
  ·refine eT<|xE<|lE<|bH<|xS<|sQ<|rG<|aS r r<|nI<|xS<|rT<|Mg (b:=true) r ?_ r r ?_ r
   all_goals first|(simp;done)|(simp;omega)|rfl|(simp [Me,Mc];done)

def AgZ : Mm:=(.seq (.reg [P 2 (.box (T 0) 1 37),P 3 (.box (T 1) 1 37),P 4 (.asg (.c (.bool false)) none)] false) (.seq (.reg [P 5 (.fldA 0 (T 2)),P 6 (.ld 1 false (T 5)),P 7 (.fldA 0 (T 3)),P 8 (.ld 1 false (T 7)),P 9 (.call (.c (.clo 44 [])) [(T 6),(T 8)]),P 4 (.asg (T 9) none)] false) .ret))
theorem AjH : (Tryz.f28.body.bind (Mo Tryz.prog Tryz.f28.ntmps)) = some AgZ:=by kernel_rfl
theorem AjI : Tryz.f28.results.toList.mapM (My Tryz.prog) = some [(.t 4)]:=by kernel_rfl
def XA (a : Mf × Mf) : List D:=[Nf a.1,Nf a.2]
def Xz (ds : List D) : Mf × Mf:=(OL (ds.getD 0 .top),OL (ds.getD 1 .top))
theorem AbO (a : Mf × Mf) : Xz (XA a) = a:=by simp [Xz,XA]
def AcJ (b : Bool) : D:=.bool b
def AcI (_b : Bool) : List D:=[]
noncomputable def ZN : Dw.Spec:=Ml [] .ground XA Xz (fun a=>Uq a.1 a.2) AcJ AcI
set_option maxHeartbeats 4000000 in
theorem AeD : Mk Tryz.prog 28 ZN:=by
 refine Mv (Mp (l:=[(44,Ww)]) (by simp [AdB])) Tryz.func28 (by decide) AjH AjI (np:=2) (by decide) AbO (fun _=>r) (fun _=>r) (by decide)<|?_
 rintro ⟨a1,b2⟩
 show TrE (specs [(44,Ww)]) AgZ (Mz [] .ground [(.t 4)] AcJ AcI) ⟨[(0,.agg [.sl (a1.Out.map (eL LS))]),(1,.agg [.sl (b2.Out.map (eL LS))])],[],262144⟩ (Uq a1 b2)
 refine Mq<|?_
 unfold AgZ Uq
 refine sQ<|rG<|bX r r r r r<|bX r r r r r<|aS r r<|nI<|xS<|sQ<|rG<|fA r r<|lO (v:=.sl (a1.Out.map (eL LS))) (z:=.agg [.sl (a1.Out.map (eL LS))]) r r r r r r<|fA r r<|lO (v:=.sl (b2.Out.map (eL LS))) (z:=.agg [.sl (b2.Out.map (eL LS))]) r r r r r r<|bD fun r3 hr3=>cG (a1.Out,b2.Out) r r r ZI r r (by simp) r hr3 r<|aS r r<|nI<|xS<|rT<|Mg (b:=r3) r ?_ r r ?_ r
 all_goals first|(simp;done)|(simp;omega)|rfl|(simp [Me,Mc];done)

def AgM : Mm:=(.seq (.reg [P 1 (.box (T 0) 3 33),P 2 (.new (.agg [.nils]) 1 37)] false) (.seq (.reg [P 5 (.fldA 2 (T 1)),P 6 (.ld 1 false (T 5)),P 7 (.len false (T 6)),P 8 (.mkS 1 42 24 .nils (T 7) (T 7)),⟨(some 9),(.bld [.nils] [⟨0,⟨1,(T 8)⟩⟩]),none,[]⟩,P 3 (.new (.agg [.nils]) 1 37),⟨none,(.st 1 (T 3) (T 9)),none,[]⟩] false) (.block 0 (.loop (.block 1 (.seq (.reg [P 10 (.ld 3 true (T 1)),P 11 (.ld 1 true (T 3)),P 12 (.call (.c (.clo 27 [])) [(T 10),(T 11)]),P 4 (.new (.agg [.nils]) 1 37),⟨none,(.st 1 (T 4) (T 12)),none,[]⟩] false) (.seq (.seq (.reg [P 13 (.ld 1 true (T 4)),P 14 (.ld 1 true (T 3)),P 15 (.call (.c (.clo 28 [])) [(T 13),(T 14)])] false) (.cond (T 15) (.seq (.reg [P 16 (.ld 1 true (T 3)),⟨none,(.st 1 (T 2) (T 16)),none,[]⟩] false) .ret) .skip)) (.reg [P 17 (.ld 1 true (T 4)),⟨none,(.st 1 (T 3) (T 17)),none,[]⟩] false))))))))
theorem Ajh : (Tryz.f15.body.bind (Mo Tryz.prog Tryz.f15.ntmps)) = some AgM:=by kernel_rfl
theorem Aji : Tryz.f15.results.toList.mapM (My Tryz.prog) = some [(.c 2 1 true)]:=by kernel_rfl
def WA (a : LY) : List D:=[ME a]
def Wz (ds : List D) : LY:=Ny (ds.getD 0 .top)
theorem Abg (a : LY) : Wz (WA a) = a:=by simp [Wz,WA]
def AbQ (b : Mf) : D:=Nf b
def AbP (_b : Mf) : List D:=[]
noncomputable def YD : Dw.Spec:=Ml [] .val WA Wz (fun a=>SY a) AbQ AbP
set_option maxHeartbeats 4000000 in
theorem Aei : Mk Tryz.prog 15 YD:=by
 refine Mv (Mp (l:=[(27,ZP),(28,ZN)]) (by simp [AeE,AeD])) Tryz.func15 (by decide) Ajh Aji (np:=1) (by decide) Abg (fun _=>r) (fun _=>r) (by decide)<|?_
 intro f1
 show TrE (specs [(27,ZP),(28,ZN)]) AgM (Mz [] .val [(.c 2 1 true)] AbQ AbP) ⟨[(0,.agg [.int .i64 f1.Params,.sl (f1.Slots.map LZ),.sl (f1.Code.map LW)])],[],262144⟩ (SY f1)
 refine Mq<|?_
 unfold AgM SY
 refine sQ<|rG<|bX r r r r r<|nW r<|nI<|xS<|sQ<|rG<|fA r r<|lO (v:=.sl (f1.Code.map LW)) (z:=.agg [.int .i64 f1.Params,.sl (f1.Slots.map LZ),.sl (f1.Code.map LW)]) r r r r r r<|lS r r<|cK fun hq=>AaP (α:=Int) r r r hq r<|bL (cs:=[.osl 8 _ 0 ((List.replicate (f1.Code.length : Int).toNat ([] : (List Int))).length)]) (ps:=[(0,1,.osl 8 _ 0 ((List.replicate (f1.Code.length : Int).toNat ([] : (List Int))).length))]) r r r r<|nW r<|sV (z':=.agg [.osl 8 _ 0 ((List.replicate (f1.Code.length : Int).toNat ([] : (List Int))).length)]) r r r r r r r r r<|nI<|Qs (E:=[(1,.optr 1 _ 0 0),(2,.optr 2 _ 0 0),(3,.optr 3 _ 0 0)]) (O:=[(1,some (_,⟨false,true,3,33,[.agg [.int .i64 f1.Params,.sl (f1.Slots.map LZ),.sl (f1.Code.map LW)]]⟩)),(2,some (_,⟨false,true,1,37,[.agg [.nils]]⟩)),(3,some (_,⟨false,true,1,37,[.agg [.osl 8 _ 0 ((List.replicate (f1.Code.length : Int).toNat ([] : (List Int))).length)]]⟩)),(8,some (_,⟨false,false,1,42,(List.replicate (f1.Code.length : Int).toNat ([] : (List Int))).map (eL LS)⟩))]) ((Acu (g:=8) r (AdA (l:=List.replicate (f1.Code.length : Int).toNat ([] : (List Int))) LS (fun _ h=>List.eq_of_mem_replicate h)) (hE ⟨rfl,r,r,trivial⟩ ⟨rfl,r,r,r,trivial⟩))) fun nn=>bK<|lP (E:=fun (s : (List (List Int))) (g : Nat × Nat × Nat)=>[(1,.optr 1 g.1 0 0),(2,.optr 2 g.2.1 0 0),(3,.optr 3 g.2.2 0 0)]) (O:=fun s g=>[(1,some (g.1,⟨false,true,3,33,[.agg [.int .i64 f1.Params,.sl (f1.Slots.map LZ),.sl (f1.Code.map LW)]]⟩)),(2,some (g.2.1,⟨false,true,1,37,[.agg [.nils]]⟩)),(3,some (g.2.2,⟨false,true,1,37,[.agg [.sl (s.map (eL LS))]]⟩))]) (body:=fun s=>Ur f1 s) (s:=List.replicate (f1.Code.length : Int).toNat ([] : (List Int))) (_,_,_) ((Abv [(8,some (_,⟨true,false,1,42,(List.replicate (f1.Code.length : Int).toNat ([] : (List Int))).map (eL LS)⟩))] ⟨⟨_,_,r,r,r⟩,trivial⟩ ⟨(MZ r),(MZ r),(MZ r),trivial⟩ ⟨(.inl r),(.inl r),(.inr ⟨_,_,_,_,r,r,r,r,Abt r ⟨(Aaq (l:=List.replicate (f1.Code.length : Int).toNat ([] : (List Int))) (en:=(eL LS)) r r r (by simp)),trivial⟩⟩),trivial⟩))<|?_
 rintro l2 ⟨v1x1,v2x1,v3x1⟩ nn
 try dsimp only
 unfold Ur
 refine bK<|sQ<|rG<|lO (v:=.agg [.int .i64 f1.Params,.sl (f1.Slots.map LZ),.sl (f1.Code.map LW)]) (z:=.agg [.int .i64 f1.Params,.sl (f1.Slots.map LZ),.sl (f1.Code.map LW)]) r r r r r r<|lO (v:=.agg [.sl (l2.map (eL LS))]) (z:=.agg [.sl (l2.map (eL LS))]) r r r r r r<|bD fun r3 hr3=>cV (f1,(Mf.mk l2)) r r r AbR r r (by simp) r hr3<|nW r<|sV (z':=.agg [.sl (r3.Out.map (eL LS))]) r r r r r r r r r<|nI<|xS<|sQ<|sQ<|rG<|lO (v:=.agg [.sl (r3.Out.map (eL LS))]) (z:=.agg [.sl (r3.Out.map (eL LS))]) r r r r r r<|lO (v:=.agg [.sl (l2.map (eL LS))]) (z:=.agg [.sl (l2.map (eL LS))]) r r r r r r<|bD fun r4 hr4=>cG (r3,(Mf.mk l2)) r r r AbO r r (by simp) r hr4 r<|nI<|xS<|cD (c:=r4) r ?_ ?_
 ·refine sQ<|rG<|lO (v:=.agg [.sl (l2.map (eL LS))]) (z:=.agg [.sl (l2.map (eL LS))]) r r r r r r<|sV (z':=.agg [.sl (l2.map (eL LS))]) r r r r r r r r r<|nI<|xS<|rT<|xR<|bR<|lR<|bR<|Nl (b:=(Mf.mk l2)) r ?_ r r ?_ r
  all_goals first|(simp;done)|(simp;omega)|rfl|(simp [Me,Mc];done)
 ·exact sK<|xS<|rG<|lO (v:=.agg [.sl (r3.Out.map (eL LS))]) (z:=.agg [.sl (r3.Out.map (eL LS))]) r r r r r r<|sV (z':=.agg [.sl (r3.Out.map (eL LS))]) r r r r r r r r r<|nI<|bM<|xL (s:=r3.Out) (_,_,_) ((hE ⟨rfl,r,r,trivial⟩ ⟨rfl,r,r,trivial⟩))

def dc8 : Mm:=(.seq (.reg [P 3 (.box (T 1) 3 33),P 4 (.new (.agg [.nils]) 1 37)] false) (.seq (.reg [P 10 (.ld 3 true (T 3)),P 11 (.call (.c (.clo 15 [])) [(T 10)]),P 5 (.new (.agg [.nils]) 1 37),⟨none,(.st 1 (T 5) (T 11)),none,[]⟩] false) (.seq (.reg [P 12 (.fldA 0 (T 5)),P 13 (.ld 1 false (T 12)),P 14 (.app 1 42 24 (.c .nils) (T 13)),⟨(some 15),(.bld [.nils] [⟨0,⟨1,(T 14)⟩⟩]),none,[]⟩,P 6 (.new (.agg [.nils]) 1 37),⟨none,(.st 1 (T 6) (T 15)),none,[]⟩] false) (.seq (.seq (.reg [M 16 0,P 17 (.call (.c (.clo 7 [])) [(T 16),(C 3)]),P 7 (.asg (T 17) none)] false) (.block 0 (.loop (.seq (.seq (.reg [M 18 7,P 19 (.bin .gtr (T 18) (C 0)),M 20 19,⟨(some 21),(.fldA 1 (T 3)),(some ⟨20,true⟩),[]⟩,⟨(some 22),(.ld 1 false (T 21)),(some ⟨20,true⟩),[]⟩,⟨(some 23),(.len false (T 22)),(some ⟨20,true⟩),[]⟩,⟨(some 24),(.bin .gtr (T 23) (C 0)),(some ⟨20,true⟩),[]⟩,P 25 (.pick (T 20) (T 24) (.c (.bool false)))] false) (.cond (T 25) .skip (.exit 0))) (.seq (.block 1 (.seq (.reg [M 28 0,P 29 (.fldA 1 (T 3)),P 30 (.ld 1 false (T 29)),P 31 (.len false (T 30)),P 32 (.call (.c (.clo 7 [])) [(T 28),(T 31)]),P 8 (.asg (T 32) none)] false) (.seq (.reg [P 9 (.asg (C 0) none)] false) (.block 2 (.loop (.seq (.seq (.reg [M 33 9,P 34 (.fldA 0 (T 6)),P 35 (.ld 1 false (T 34)),P 36 (.len false (T 35)),P 37 (.bin .lss (T 33) (T 36))] false) (.cond (T 37) .skip (.exit 2))) (.seq (.block 3 (.reg [P 40 (.fldA 0 (T 6)),⟨(some 41),(.ld 1 false (T 40)),none,[0]⟩,M 42 9,P 43 (.fldA 0 (T 6)),⟨(some 44),(.ld 1 false (T 43)),none,[3]⟩,M 45 9,⟨(some 46),(.ixA 1 (T 44) (T 45)),none,[4,5]⟩,⟨(some 47),(.ld 1 false (T 46)),none,[6]⟩,M 48 8,⟨(some 49),(.call (.c (.clo 16 [])) [(T 47),(T 48)]),none,[7,8]⟩,⟨(some 50),(.ixA 1 (T 41) (T 42)),none,[1,2,0,1,2,3,4,5,6,7,8,9]⟩,⟨none,(.st 1 (T 50) (T 49)),none,[10,9,9,0,1,2,3,4,5,6,7,8,9]⟩] true)) (.reg [M 38 9,P 39 (.bin .add (T 38) (C 1)),P 9 (.asg (T 39) none)] false)))))))) (.reg [M 26 7,P 27 (.bin .sub (T 26) (C 1)),P 7 (.asg (T 27) none)] false)))))) (.seq (.reg [P 51 (.ld 1 true (T 6)),⟨none,(.st 1 (T 4) (T 51)),none,[]⟩] false) .ret)))))
theorem AlZ : (Tryz.f8.body.bind (Mo Tryz.prog Tryz.f8.ntmps)) = some dc8:=by kernel_rfl
theorem Ama : Tryz.f8.results.toList.mapM (My Tryz.prog) = some [(.c 4 1 true)]:=by kernel_rfl
def Sq (a : LV × LY) : List D:=[MK a.1,ME a.2]
def Sp (ds : List D) : LV × LY:=(Oc (ds.getD 0 .top),Ny (ds.getD 1 .top))
theorem WY (a : LV × LY) : Sp (Sq a) = a:=by simp [Sp,Sq]
def Rk (b : Mf × LV) : D:=Nf b.1
def XZ (b : Mf × LV) : List D:=[MK b.2]
noncomputable def TM : Dw.Spec:=Ml [(0,(2,56))] .val Sq Sp (fun a=>Pq a.1 a.2) Rk XZ
set_option maxHeartbeats 4000000 in
theorem Aci : Mk Tryz.prog 8 TM:=by
 refine Mv (Mp (l:=[(15,YD),(7,MA),(16,Rz)]) (by simp [Aei,Nr,ZG])) Tryz.func8 (by decide) AlZ Ama (np:=2) (by decide) WY (fun _=>r) (fun _=>r) (by decide)<|?_
 rintro ⟨c1,f2⟩
 show TrE (specs [(15,YD),(7,MA),(16,Rz)]) dc8 (Mz [(0,(2,56))] .val [(.c 4 1 true)] Rk XZ) ⟨[(0,.optr 8192 0 0 0),(1,.agg [.int .i64 f2.Params,.sl (f2.Slots.map LZ),.sl (f2.Code.map LW)])],[(8192,some (0,⟨false,true,2,56,[.agg [.sl (c1.list.map eU8),.int .i64 c1.at_]]⟩))],262144⟩ (Pq c1 f2)
 refine Mq<|?_
 unfold dc8 Pq
 refine sQ<|rG<|bX r r r r r<|nW r<|nI<|xS<|sQ<|rG<|lO (v:=.agg [.int .i64 f2.Params,.sl (f2.Slots.map LZ),.sl (f2.Code.map LW)]) (z:=.agg [.int .i64 f2.Params,.sl (f2.Slots.map LZ),.sl (f2.Code.map LW)]) r r r r r r<|bD fun r3 hr3=>cV f2 r r r Abg r r (by simp) r hr3<|nW r<|sV (z':=.agg [.sl (r3.Out.map (eL LS))]) r r r r r r r r r<|nI<|xS<|sQ<|rG<|fA r r<|lO (v:=.sl (r3.Out.map (eL LS))) (z:=.agg [.sl (r3.Out.map (eL LS))]) r r r r r r<|cK fun hq=>aP (([] : List (List Int))) (r3.Out) (eL LS) r r r r r r r (by simp) r r r (by simp) r (fun _=>r) r hq<|bL (cs:=[.osl 14 _ 0 ((([] : List (List Int)) ++ r3.Out).length)]) (ps:=[(0,1,.osl 14 _ 0 ((([] : List (List Int)) ++ r3.Out).length))]) r r r r<|nW r<|sV (z':=.agg [.osl 14 _ 0 ((([] : List (List Int)) ++ r3.Out).length)]) r r r r r r r r r<|nI<|xS<|sQ<|sQ<|rG<|mV r r<|bD fun r4 hr4=>cV (c1,3) r r r Mh r r (by simp) r hr4<|aS r r<|nI<|xS<|bK<|lP (E:=fun (s : (List Int) × Int × (List (List Int)) × Int) (g : Nat × Nat × Nat × Nat)=>[(0,.optr 8192 0 0 0),(3,.optr 3 g.1 0 0),(4,.optr 4 g.2.1 0 0),(6,.optr 6 g.2.2.1 0 0),(7,.int .i64 s.2.2.2)]) (O:=fun s g=>[(3,some (g.1,⟨false,true,3,33,[.agg [.int .i64 f2.Params,.sl (f2.Slots.map LZ),.sl (f2.Code.map LW)]]⟩)),(4,some (g.2.1,⟨false,true,1,37,[.agg [.nils]]⟩)),(6,some (g.2.2.1,⟨false,true,1,37,[.agg [.osl 14 g.2.2.2 0 s.2.2.1.length]]⟩)),(14,some (g.2.2.2,⟨false,false,1,42,s.2.2.1.map (eL LS)⟩)),(8192,some (0,⟨false,true,2,56,[.agg [.sl (s.1.map eU8),.int .i64 s.2.1]]⟩))]) (body:=fun s=>QK f2 s.1 s.2.1 s.2.2.1 s.2.2.2) (s:=(r4.2.list,r4.2.at_,([] : List (List Int)) ++ r3.Out,r4.1)) (_,_,_,_) ((hE ⟨rfl,r,r,r,r,trivial⟩ ⟨rfl,r,r,r,r,trivial⟩))<|?_
 rintro ⟨c5,c6,x7,n8⟩ ⟨v3x1,v4x1,v6x1,v14x1⟩ nn
 try dsimp only
 unfold QK
 refine sC (E:=fun (s : Unit) (g : Nat × Nat × Nat × Nat)=>[(0,.optr 8192 0 0 0),(3,.optr 3 g.1 0 0),(4,.optr 4 g.2.1 0 0),(6,.optr 6 g.2.2.1 0 0),(7,.int .i64 n8),(21,.optr 3 g.1 0 1),(22,.sl (f2.Slots.map LZ)),(23,.int .i64 (f2.Slots.length : Int)),(24,.bool (decide ((f2.Slots.length : Int) > 0)))]) (O:=fun s g=>[(3,some (g.1,⟨false,true,3,33,[.agg [.int .i64 f2.Params,.sl (f2.Slots.map LZ),.sl (f2.Code.map LW)]]⟩)),(4,some (g.2.1,⟨false,true,1,37,[.agg [.nils]]⟩)),(6,some (g.2.2.1,⟨false,true,1,37,[.agg [.osl 14 g.2.2.2 0 x7.length]]⟩)),(14,some (g.2.2.2,⟨false,false,1,42,x7.map (eL LS)⟩)),(8192,some (0,⟨false,true,2,56,[.agg [.sl (c5.map eU8),.int .i64 c6]]⟩))]) (j:=fun s=>QM c5 c6 f2 n8 x7) ?_ ?_
 ·refine sQ<|rG<|mV r r<|bN (v:=.bool (decide (n8 > 0))) r r r r r<|mV r r<|sP 20 (b:=(decide (n8 > 0))) r ?_ ?_
  ·refine fA r r<|lO (v:=.sl (f2.Slots.map LZ)) (z:=.agg [.int .i64 f2.Params,.sl (f2.Slots.map LZ),.sl (f2.Code.map LW)]) r r r r r r<|lS r r<|bN (v:=.bool (decide ((f2.Slots.length : Int) > 0))) r r r r r<|pT r r r r<|nI<|xS<|cD (c:=(decide ((f2.Slots.length : Int) > 0))) r ?_ ?_
   ·exact sK<|xC (s:=()) (_,_,_,_) ((hE ⟨rfl,r,r,r,r,r,r,r,r,trivial⟩ ⟨rfl,r,r,r,r,trivial⟩))
   ·refine eT<|Pe<|lE<|bH<|xS<|sQ<|rG<|lO (v:=.agg [.osl 14 _ 0 x7.length]) (z:=.agg [.osl 14 _ 0 x7.length]) r r r r r r<|sV (z':=.agg [.osl 14 _ 0 x7.length]) r r r r r r r r r<|nI<|xS<|rT<|Nl (b:=((Mf.mk x7),(LV.mk c5 c6))) r ?_ r r ?_ (by first | rfl | (simp only [Mw,MB]; rfl) | simp [Rk,Nf])
    all_goals first|(simp;done)|(simp;omega)|rfl|(simp [Me,Mc];done)
  ·refine oF r<|oF r<|oF r<|oF r<|pF r r r r<|nI<|xS<|Nz r<|eT<|Pe<|lE<|bH<|xS<|sQ<|rG<|lO (v:=.agg [.osl 14 _ 0 x7.length]) (z:=.agg [.osl 14 _ 0 x7.length]) r r r r r r<|sV (z':=.agg [.osl 14 _ 0 x7.length]) r r r r r r r r r<|nI<|xS<|rT<|Nl (b:=((Mf.mk x7),(LV.mk c5 c6))) r ?_ r r ?_ (by first | rfl | (simp only [Mw,MB]; rfl) | simp [Rk,Nf])
   all_goals first|(simp;done)|(simp;omega)|rfl|(simp [Me,Mc];done)
 ·rintro ⟨⟩ ⟨v3x2,v4x2,v6x2,v14x2⟩ nn
  try dsimp only
  unfold QM
  refine bC (E:=fun (s : (List Int) × Int × (List (List Int))) (g : Nat × Nat × Nat × Nat)=>[(0,.optr 8192 0 0 0),(3,.optr 3 g.1 0 0),(4,.optr 4 g.2.1 0 0),(6,.optr 6 g.2.2.1 0 0),(7,.int .i64 n8),(21,.optr 3 g.1 0 1),(22,.sl (f2.Slots.map LZ)),(23,.int .i64 (f2.Slots.length : Int)),(24,.bool (decide ((f2.Slots.length : Int) > 0)))]) (O:=fun s g=>[(3,some (g.1,⟨false,true,3,33,[.agg [.int .i64 f2.Params,.sl (f2.Slots.map LZ),.sl (f2.Code.map LW)]]⟩)),(4,some (g.2.1,⟨false,true,1,37,[.agg [.nils]]⟩)),(6,some (g.2.2.1,⟨false,true,1,37,[.agg [.osl 14 g.2.2.2 0 s.2.2.length]]⟩)),(14,some (g.2.2.2,⟨false,false,1,42,s.2.2.map (eL LS)⟩)),(8192,some (0,⟨false,true,2,56,[.agg [.sl (s.1.map eU8),.int .i64 s.2.1]]⟩))]) (j:=fun s=>QN n8 s.1 s.2.1 s.2.2) ?_ ?_
  ·refine sQ<|rG<|mV r r<|fA r r<|lO (v:=.sl (f2.Slots.map LZ)) (z:=.agg [.int .i64 f2.Params,.sl (f2.Slots.map LZ),.sl (f2.Code.map LW)]) r r r r r r<|lS r r<|bD fun r12 hr12=>cV ((LV.mk c5 c6),(f2.Slots.length : Int)) r r r Mh r r (by simp) r hr12<|aS r r<|nI<|xS<|sQ<|rG<|aS r r<|nI<|xS<|bK<|lP (E:=fun (s : (List (List Int)) × Int) (g : Nat × Nat × Nat × Nat)=>[(0,.optr 8192 0 0 0),(3,.optr 3 g.1 0 0),(4,.optr 4 g.2.1 0 0),(6,.optr 6 g.2.2.1 0 0),(7,.int .i64 n8),(8,.int .i64 r12.1),(9,.int .i64 s.2),(21,.optr 3 g.1 0 1),(22,.sl (f2.Slots.map LZ)),(23,.int .i64 (f2.Slots.length : Int)),(24,.bool (decide ((f2.Slots.length : Int) > 0)))]) (O:=fun s g=>[(3,some (g.1,⟨false,true,3,33,[.agg [.int .i64 f2.Params,.sl (f2.Slots.map LZ),.sl (f2.Code.map LW)]]⟩)),(4,some (g.2.1,⟨false,true,1,37,[.agg [.nils]]⟩)),(6,some (g.2.2.1,⟨false,true,1,37,[.agg [.osl 14 g.2.2.2 0 s.1.length]]⟩)),(14,some (g.2.2.2,⟨false,false,1,42,s.1.map (eL LS)⟩)),(8192,some (0,⟨false,true,2,56,[.agg [.sl (r12.2.list.map eU8),.int .i64 r12.2.at_]]⟩))]) (body:=fun s=>QL r12 n8 s.1 s.2) (s:=(x7,0)) (_,_,_,_) ((hE ⟨rfl,r,r,r,r,r,r,r,r,r,r,trivial⟩ ⟨rfl,r,r,r,r,trivial⟩))<|?_
   rintro ⟨x13,k14⟩ ⟨v3x3,v4x3,v6x3,v14x3⟩ nn
   try dsimp only
   unfold QL
   refine sQ<|sQ<|rG<|mV r r<|fA r r<|lO (v:=.osl 14 _ 0 x13.length) (z:=.agg [.osl 14 _ 0 x13.length]) r r r r r r<|lW r r<|bN (v:=.bool (decide (k14 < (x13.length : Int)))) r r r r r<|nI<|xS<|cD (c:=(decide (k14 < (x13.length : Int)))) r ?_ ?_
   ·exact sK<|xS<|sQ<|bK<|rG<|fA r r<|lO (v:=.osl 14 _ 0 x13.length) (z:=.agg [.osl 14 _ 0 x13.length]) r r r r r r<|mV r r<|fA r r<|lO (v:=.osl 14 _ 0 x13.length) (z:=.agg [.osl 14 _ 0 x13.length]) r r r r r r<|mV r r<|cK fun hq=>iO (l:=x13) (en:=(eL LS)) r r r r r hq<|bD fun x_e15 hx_e15=>lO (v:=.sl (x_e15.map LS)) (z:=(eL LS) x_e15) r r r (Nn hx_e15) r r<|mV r r<|bD fun r16 hr16=>cR (l:=r16) (en:=LS) (x_e15,r12.1) r r r Ud r r (by simp) r hr16 r<|cK fun hq=>iO (l:=x13) (en:=(eL LS)) r r r r r hq<|bD fun x_o17 hx_o17=>sE (l:=x13) (en:=(eL LS)) (q':=r16) r r r r r r r (by simp) hx_o17 r r r (by simp [MO,cells,setAt,eL]) r<|Mj (by kernel_rfl)<|bM<|xS<|rG<|mV r r<|bN (v:=.int .i64 (IntKind.i64.wrap (k14 + 1))) r r r r r<|aS r r<|nI<|xL (s:=(x13.set k14.toNat r16,IntKind.i64.wrap (k14 + 1))) (_,_,_,_) ((hE ⟨rfl,r,r,r,r,r,r,r,r,r,r,trivial⟩ ⟨rfl,r,(Eq.trans (b:=some (_,⟨false,true,1,37,[.agg [.osl 14 _ 0 x13.length]]⟩)) r (by simp)),r,r,trivial⟩))
   ·exact eT<|xE<|lE<|bH<|NM (s:=(r12.2.list,r12.2.at_,x13)) (_,_,_,_) ((hE ⟨rfl,r,r,r,r,r,r,r,r,trivial⟩ ⟨rfl,r,r,r,r,trivial⟩))
  ·rintro ⟨c9,c10,x11⟩ ⟨v3x4,v4x4,v6x4,v14x4⟩ nn
   try dsimp only
   unfold QN
   exact rG<|mV r r<|bN (v:=.int .i64 (IntKind.i64.wrap (n8 - 1))) r r r r r<|aS r r<|nI<|xL (s:=(c9,c10,x11,IntKind.i64.wrap (n8 - 1))) (_,_,_,_) ((hE ⟨rfl,r,r,r,r,trivial⟩ ⟨rfl,r,r,r,r,trivial⟩))

def AhH : Mm:=(.seq (.reg [P 2 (.asg (.c (.bool false)) none)] false) (.seq (.seq (.reg [P 3 (.asg (C 0) none)] false) (.block 0 (.loop (.seq (.seq (.reg [M 4 3,M 5 0,P 6 (.len false (T 5)),P 7 (.bin .lss (T 4) (T 6))] false) (.cond (T 7) .skip (.exit 0))) (.seq (.block 1 (.seq (.reg [M 10 0,M 11 3,⟨(some 12),(.ixA 1 (T 10) (T 11)),none,[0,1]⟩,⟨(some 13),(.ld 1 false (T 12)),none,[2]⟩,⟨(some 14),(.call (.c (.clo 29 [])) [(T 13)]),none,[3]⟩,⟨(some 15),(.un .not (T 14)),none,[4]⟩,⟨(some 16),(.mv (T 15)),none,[5,4]⟩,⟨(some 17),(.mv (T 3)),(some ⟨16,false⟩),[6]⟩,⟨(some 18),(.bin .gtr (T 17) (C 0)),(some ⟨16,false⟩),[7,6]⟩,⟨(some 19),(.mv (T 18)),(some ⟨16,false⟩),[8,6,6]⟩,⟨(some 20),(.mv (T 0)),(some ⟨19,true⟩),[9]⟩,⟨(some 21),(.mv (T 3)),(some ⟨19,true⟩),[9]⟩,⟨(some 22),(.ixA 1 (T 20) (T 21)),(some ⟨19,true⟩),[10,11,9]⟩,⟨(some 23),(.ld 1 false (T 22)),(some ⟨19,true⟩),[12,9]⟩,⟨(some 24),(.mv (T 0)),(some ⟨19,true⟩),[9]⟩,⟨(some 25),(.mv (T 3)),(some ⟨19,true⟩),[9]⟩,⟨(some 26),(.bin .sub (T 25) (C 1)),(some ⟨19,true⟩),[15,9]⟩,⟨(some 27),(.ixA 1 (T 24) (T 26)),(some ⟨19,true⟩),[14,16,9]⟩,⟨(some 28),(.ld 1 false (T 27)),(some ⟨19,true⟩),[17,9]⟩,⟨(some 29),(.bin .leq (T 23) (T 28)),(some ⟨19,true⟩),[13,18,9]⟩,⟨(some 30),(.pick (T 19) (T 29) (.c (.bool false))),(some ⟨16,false⟩),[9,19,6]⟩,⟨(some 31),(.pick (T 16) (.c (.bool true)) (T 30)),none,[6,20]⟩] true) (.cond (T 31) (.seq (.reg [P 2 (.asg (.c (.bool false)) none)] false) .ret) .skip))) (.reg [M 8 3,P 9 (.bin .add (T 8) (C 1)),P 3 (.asg (T 9) none)] false)))))) (.seq (.reg [P 2 (.asg (.c (.bool true)) none)] false) .ret)))
theorem AkX : (Tryz.f62.body.bind (Mo Tryz.prog Tryz.f62.ntmps)) = some AhH:=by kernel_rfl
theorem AkY : Tryz.f62.results.toList.mapM (My Tryz.prog) = some [(.t 2)]:=by kernel_rfl
def Wt (a : (List Int)) : List D:=[.sl (a.map LS)]
def Ws (ds : List D) : (List Int):=(uL uI) (ds.getD 0 .top)
theorem Abc (a : (List Int)) : Ws (Wt a) = a:=by simp [Ws,Wt,Nt (u:=uI) (en:=LS) (fun _=>rfl)]
def AbG (b : Bool) : D:=.bool b
def AbF (_b : Bool) : List D:=[]
noncomputable def Yw : Dw.Spec:=Ml [] .ground Wt Ws (fun a=>SW a) AbG AbF
set_option maxHeartbeats 4000000 in
theorem Aeg : Mk Tryz.prog 62 Yw:=by
 refine Mv (Mp (l:=[(29,Ue)]) (by simp [AbM])) Tryz.func62 (by decide) AkX AkY (np:=1) (by decide) Abc (fun _=>r) (fun _=>r) (by decide)<|?_
 intro s1
 show TrE (specs [(29,Ue)]) AhH (Mz [] .ground [(.t 2)] AbG AbF) ⟨[(0,.sl (s1.map LS))],[],262144⟩ (SW s1)
 refine Mq<|?_
 unfold AhH SW
 refine sQ<|rG<|aS r r<|nI<|xS<|sQ<|sQ<|rG<|aS r r<|nI<|xS<|bK<|lP (E:=fun (s : Int) (g : Unit)=>[(0,.sl (s1.map LS)),(3,.int .i64 s)]) (O:=fun s g=>[]) (body:=fun s=>OH s1 s) (s:=0) () ((hE ⟨rfl,r,trivial⟩ trivial))<|?_
 rintro i2 ⟨⟩ nn
 try dsimp only
 unfold OH
 refine sQ<|sQ<|rG<|mV r r<|mV r r<|lS r r<|bN (v:=.bool (decide (i2 < (s1.length : Int)))) r r r r r<|nI<|xS<|cD (c:=(decide (i2 < (s1.length : Int)))) r ?_ ?_
 ·refine sK<|xS<|sQ<|bK<|sQ<|rG<|mV r r<|mV r r<|bD fun x_x3 hx_x3=>iS (en:=LS) r r r hx_x3 r<|lF (v:=.int .i64 x_x3) r r r r<|bD fun r4 hr4=>cG x_x3 r r r YA r r (by simp) r hr4 r<|uN (w:=.bool (!r4)) r r r r trivial<|mV r r<|sP 16 (b:=(!r4)) r ?_ ?_
  ·refine oF r<|oF r<|oF r<|oF r<|oF r<|oF r<|oF r<|oF r<|oF r<|oF r<|oF r<|oF r<|oF r<|oF r<|pT r r r r<|Mj (by kernel_rfl)<|xS<|MW r<|sQ<|rG<|aS r r<|nI<|xS<|rT<|bR<|xR<|lR<|bR<|xR<|Mg (b:=false) r ?_ r r ?_ r
   all_goals first|(simp;done)|(simp;omega)|rfl|(simp [Me,Mc];done)
  ·refine mV r r<|bN (v:=.bool (decide (i2 > 0))) r r r r r<|mV r r<|sP 19 (b:=(decide (i2 > 0))) r ?_ ?_
   ·refine mV r r<|mV r r<|bD fun x_x5 hx_x5=>iS (en:=LS) r r r hx_x5 r<|lF (v:=.int .i64 x_x5) r r r r<|mV r r<|mV r r<|bN (v:=.int .i64 (IntKind.i64.wrap (i2 - 1))) r r r r r<|bD fun x_x6 hx_x6=>iS (en:=LS) r r r hx_x6 r<|lF (v:=.int .i64 x_x6) r r r r<|bN (v:=.bool (decide (x_x5 ≤ x_x6))) r r r r r<|pT r r r r<|pF r r r r<|Mj (by kernel_rfl)<|xS<|cD (c:=(decide (x_x5 ≤ x_x6))) r ?_ ?_
    ·refine sQ<|rG<|aS r r<|nI<|xS<|rT<|bR<|xR<|lR<|bR<|xR<|Mg (b:=false) r ?_ r r ?_ r
     all_goals first|(simp;done)|(simp;omega)|rfl|(simp [Me,Mc];done)
    ·exact sK<|bM<|xS<|rG<|mV r r<|bN (v:=.int .i64 (IntKind.i64.wrap (i2 + 1))) r r r r r<|aS r r<|nI<|xL (s:=IntKind.i64.wrap (i2 + 1)) () ((hE ⟨rfl,r,trivial⟩ trivial))
   ·exact oF r<|oF r<|oF r<|oF r<|oF r<|oF r<|oF r<|oF r<|oF r<|oF r<|pF r r r r<|pF r r r r<|Mj (by kernel_rfl)<|xS<|Nz r<|sK<|bM<|xS<|rG<|mV r r<|bN (v:=.int .i64 (IntKind.i64.wrap (i2 + 1))) r r r r r<|aS r r<|nI<|xL (s:=IntKind.i64.wrap (i2 + 1)) () ((hE ⟨rfl,r,trivial⟩ trivial))
 ·refine eT<|xE<|lE<|bH<|xS<|sQ<|rG<|aS r r<|nI<|xS<|rT<|Mg (b:=true) r ?_ r r ?_ r
  all_goals first|(simp;done)|(simp;omega)|rfl|(simp [Me,Mc];done)

def Ahr : Mm:=(.seq (.reg [P 2 (.box (T 0) 3 33),P 3 (.box (T 1) 1 37),P 4 (.asg (.c (.bool false)) none)] false) (.seq (.seq (.reg [P 7 (.fldA 0 (T 3)),P 8 (.ld 1 false (T 7)),P 9 (.len false (T 8)),P 10 (.fldA 2 (T 2)),P 11 (.ld 1 false (T 10)),P 12 (.len false (T 11)),P 13 (.bin .neq (T 9) (T 12))] false) (.cond (T 13) (.seq (.reg [P 4 (.asg (.c (.bool false)) none)] false) .ret) .skip)) (.seq (.seq (.reg [P 5 (.asg (C 0) none)] false) (.block 0 (.loop (.seq (.seq (.reg [M 14 5,P 15 (.fldA 0 (T 3)),P 16 (.ld 1 false (T 15)),P 17 (.len false (T 16)),P 18 (.bin .lss (T 14) (T 17))] false) (.cond (T 18) .skip (.exit 0))) (.seq (.block 1 (.seq (.seq (.reg [P 21 (.fldA 0 (T 3)),P 22 (.ld 1 false (T 21)),M 23 5,P 24 (.ixA 1 (T 22) (T 23)),P 25 (.ld 1 false (T 24)),P 26 (.call (.c (.clo 62 [])) [(T 25)]),P 27 (.un .not (T 26))] false) (.cond (T 27) (.seq (.reg [P 4 (.asg (.c (.bool false)) none)] false) .ret) .skip)) (.seq (.reg [P 28 (.fldA 0 (T 3)),P 29 (.ld 1 false (T 28)),M 30 5,P 31 (.ixA 1 (T 29) (T 30)),P 32 (.ld 1 false (T 31)),P 33 (.len false (T 32)),P 6 (.asg (T 33) none)] false) (.seq (.reg [M 34 6,⟨(some 35),(.bin .gtr (T 34) (C 0)),none,[0]⟩,⟨(some 36),(.mv (T 35)),none,[1]⟩,⟨(some 37),(.fldA 0 (T 3)),(some ⟨36,true⟩),[2]⟩,⟨(some 38),(.ld 1 false (T 37)),(some ⟨36,true⟩),[3,2]⟩,⟨(some 39),(.mv (T 5)),(some ⟨36,true⟩),[2]⟩,⟨(some 40),(.ixA 1 (T 38) (T 39)),(some ⟨36,true⟩),[4,5,2]⟩,⟨(some 41),(.ld 1 false (T 40)),(some ⟨36,true⟩),[6,2]⟩,⟨(some 42),(.mv (T 6)),(some ⟨36,true⟩),[2]⟩,⟨(some 43),(.bin .sub (T 42) (C 1)),(some ⟨36,true⟩),[8,2]⟩,⟨(some 44),(.ixA 1 (T 41) (T 43)),(some ⟨36,true⟩),[7,9,2]⟩,⟨(some 45),(.ld 1 false (T 44)),(some ⟨36,true⟩),[10,2]⟩,⟨(some 46),(.fldA 1 (T 2)),(some ⟨36,true⟩),[2]⟩,⟨(some 47),(.ld 1 false (T 46)),(some ⟨36,true⟩),[12,2]⟩,⟨(some 48),(.len false (T 47)),(some ⟨36,true⟩),[13,2]⟩,⟨(some 49),(.bin .geq (T 45) (T 48)),(some ⟨36,true⟩),[11,14,2]⟩,⟨(some 50),(.pick (T 36) (T 49) (.c (.bool false))),none,[2,15]⟩] true) (.cond (T 50) (.seq (.reg [P 4 (.asg (.c (.bool false)) none)] false) .ret) .skip))))) (.reg [M 19 5,P 20 (.bin .add (T 19) (C 1)),P 5 (.asg (T 20) none)] false)))))) (.seq (.reg [P 4 (.asg (.c (.bool true)) none)] false) .ret))))
theorem Akr : (Tryz.f46.body.bind (Mo Tryz.prog Tryz.f46.ntmps)) = some Ahr:=by kernel_rfl
theorem Aks : Tryz.f46.results.toList.mapM (My Tryz.prog) = some [(.t 4)]:=by kernel_rfl
def WI (a : LY × Mf) : List D:=[ME a.1,Nf a.2]
def WH (ds : List D) : LY × Mf:=(Ny (ds.getD 0 .top),OL (ds.getD 1 .top))
theorem XD (a : LY × Mf) : WH (WI a) = a:=by simp [WH,WI]
def AbX (b : Bool) : D:=.bool b
def AbW (_b : Bool) : List D:=[]
noncomputable def SQ : Dw.Spec:=Ml [] .ground WI WH (fun a=>RB a.1 a.2) AbX AbW
set_option maxHeartbeats 4000000 in
theorem Abj : Mk Tryz.prog 46 SQ:=by
 refine Mv (Mp (l:=[(62,Yw)]) (by simp [Aeg])) Tryz.func46 (by decide) Akr Aks (np:=2) (by decide) XD (fun _=>r) (fun _=>r) (by decide)<|?_
 rintro ⟨f1,l2⟩
 show TrE (specs [(62,Yw)]) Ahr (Mz [] .ground [(.t 4)] AbX AbW) ⟨[(0,.agg [.int .i64 f1.Params,.sl (f1.Slots.map LZ),.sl (f1.Code.map LW)]),(1,.agg [.sl (l2.Out.map (eL LS))])],[],262144⟩ (RB f1 l2)
 refine Mq<|?_
 unfold Ahr RB
 refine sQ<|rG<|bX r r r r r<|bX r r r r r<|aS r r<|nI<|xS<|sQ<|sQ<|rG<|fA r r<|lO (v:=.sl (l2.Out.map (eL LS))) (z:=.agg [.sl (l2.Out.map (eL LS))]) r r r r r r<|lS r r<|fA r r<|lO (v:=.sl (f1.Code.map LW)) (z:=.agg [.int .i64 f1.Params,.sl (f1.Slots.map LZ),.sl (f1.Code.map LW)]) r r r r r r<|lS r r<|bN (v:=.bool ((l2.Out.length : Int) != (f1.Code.length : Int))) r r r r r<|nI<|xS<|cD (c:=((l2.Out.length : Int) != (f1.Code.length : Int))) r ?_ ?_
 ·refine sQ<|rG<|aS r r<|nI<|xS<|rT<|xR<|Mg (b:=false) r ?_ r r ?_ r
  all_goals first|(simp;done)|(simp;omega)|rfl|(simp [Me,Mc];done)
 ·refine sK<|xS<|sQ<|sQ<|rG<|aS r r<|nI<|xS<|bK<|lP (E:=fun (s : Int) (g : Nat × Nat)=>[(2,.optr 2 g.1 0 0),(3,.optr 3 g.2 0 0),(5,.int .i64 s)]) (O:=fun s g=>[(2,some (g.1,⟨false,true,3,33,[.agg [.int .i64 f1.Params,.sl (f1.Slots.map LZ),.sl (f1.Code.map LW)]]⟩)),(3,some (g.2,⟨false,true,1,37,[.agg [.sl (l2.Out.map (eL LS))]]⟩))]) (body:=fun s=>Uu l2 f1 s) (s:=0) (_,_) ((hE ⟨rfl,r,r,trivial⟩ ⟨rfl,r,trivial⟩))<|?_
  rintro k3 ⟨v2x1,v3x1⟩ nn
  try dsimp only
  unfold Uu
  refine sQ<|sQ<|rG<|mV r r<|fA r r<|lO (v:=.sl (l2.Out.map (eL LS))) (z:=.agg [.sl (l2.Out.map (eL LS))]) r r r r r r<|lS r r<|bN (v:=.bool (decide (k3 < (l2.Out.length : Int)))) r r r r r<|nI<|xS<|cD (c:=(decide (k3 < (l2.Out.length : Int)))) r ?_ ?_
  ·refine sK<|xS<|sQ<|bK<|sQ<|sQ<|rG<|fA r r<|lO (v:=.sl (l2.Out.map (eL LS))) (z:=.agg [.sl (l2.Out.map (eL LS))]) r r r r r r<|mV r r<|bD fun x_x4 hx_x4=>iS (en:=(eL LS)) r r r hx_x4 r<|lF (v:=.sl (x_x4.map LS)) r r r r<|bD fun r5 hr5=>cG x_x4 r r r Abc r r (by simp) r hr5 r<|uN (w:=.bool (!r5)) r r r r trivial<|nI<|xS<|cD (c:=(!r5)) r ?_ ?_
   ·refine sQ<|rG<|aS r r<|nI<|xS<|rT<|xR<|bR<|xR<|lR<|bR<|xR<|Mg (b:=false) r ?_ r r ?_ r
    all_goals first|(simp;done)|(simp;omega)|rfl|(simp [Me,Mc];done)
   ·refine sK<|xS<|sQ<|rG<|fA r r<|lO (v:=.sl (l2.Out.map (eL LS))) (z:=.agg [.sl (l2.Out.map (eL LS))]) r r r r r r<|mV r r<|bD fun x_x6 hx_x6=>iS (en:=(eL LS)) r r r hx_x6 r<|lF (v:=.sl (x_x6.map LS)) r r r r<|lS r r<|aS r r<|nI<|xS<|sQ<|rG<|mV r r<|bN (v:=.bool (decide ((x_x6.length : Int) > 0))) r r r r r<|mV r r<|sP 36 (b:=(decide ((x_x6.length : Int) > 0))) r ?_ ?_
    ·refine fA r r<|lO (v:=.sl (l2.Out.map (eL LS))) (z:=.agg [.sl (l2.Out.map (eL LS))]) r r r r r r<|mV r r<|bD fun x_x7 hx_x7=>iS (en:=(eL LS)) r r r hx_x7 r<|lF (v:=.sl (x_x7.map LS)) r r r r<|mV r r<|bN (v:=.int .i64 (IntKind.i64.wrap ((x_x6.length : Int) - 1))) r r r r r<|bD fun x_x8 hx_x8=>iS (en:=LS) r r r hx_x8 r<|lF (v:=.int .i64 x_x8) r r r r<|fA r r<|lO (v:=.sl (f1.Slots.map LZ)) (z:=.agg [.int .i64 f1.Params,.sl (f1.Slots.map LZ),.sl (f1.Code.map LW)]) r r r r r r<|lS r r<|bN (v:=.bool (decide (x_x8 ≥ (f1.Slots.length : Int)))) r r r r r<|pT r r r r<|Mj (by kernel_rfl)<|xS<|cD (c:=(decide (x_x8 ≥ (f1.Slots.length : Int)))) r ?_ ?_
     ·refine sQ<|rG<|aS r r<|nI<|xS<|rT<|bR<|xR<|lR<|bR<|xR<|Mg (b:=false) r ?_ r r ?_ r
      all_goals first|(simp;done)|(simp;omega)|rfl|(simp [Me,Mc];done)
     ·exact sK<|bM<|xS<|rG<|mV r r<|bN (v:=.int .i64 (IntKind.i64.wrap (k3 + 1))) r r r r r<|aS r r<|nI<|xL (s:=IntKind.i64.wrap (k3 + 1)) (_,_) ((hE ⟨rfl,r,r,trivial⟩ ⟨rfl,r,trivial⟩))
    ·exact oF r<|oF r<|oF r<|oF r<|oF r<|oF r<|oF r<|oF r<|oF r<|oF r<|oF r<|oF r<|oF r<|pF r r r r<|Mj (by kernel_rfl)<|xS<|Nz r<|sK<|bM<|xS<|rG<|mV r r<|bN (v:=.int .i64 (IntKind.i64.wrap (k3 + 1))) r r r r r<|aS r r<|nI<|xL (s:=IntKind.i64.wrap (k3 + 1)) (_,_) ((hE ⟨rfl,r,r,trivial⟩ ⟨rfl,r,trivial⟩))
  ·refine eT<|xE<|lE<|bH<|xS<|sQ<|rG<|aS r r<|nI<|xS<|rT<|Mg (b:=true) r ?_ r r ?_ r
   all_goals first|(simp;done)|(simp;omega)|rfl|(simp [Me,Mc];done)

def Ahe : Mm:=(.seq (.reg [P 4 (.asg (.c (.bool false)) none)] false) (.seq (.seq (.reg [P 5 (.asg (C 0) none)] false) (.block 0 (.loop (.seq (.seq (.reg [M 6 5,M 7 0,P 8 (.len false (T 7)),P 9 (.bin .lss (T 6) (T 8))] false) (.cond (T 9) .skip (.exit 0))) (.seq (.block 1 (.seq (.reg [M 12 0,M 13 5,P 14 (.ixA 1 (T 12) (T 13)),P 15 (.ld 1 false (T 14)),M 16 1,P 17 (.bin .eql (T 15) (T 16))] false) (.cond (T 17) (.seq (.reg [P 4 (.asg (.c (.bool true)) none)] false) .ret) .skip))) (.reg [M 10 5,P 11 (.bin .add (T 10) (C 1)),P 5 (.asg (T 11) none)] false)))))) (.seq (.reg [P 4 (.asg (.c (.bool false)) none)] false) .ret)))
theorem AjR : (Tryz.f33.body.bind (Mo Tryz.prog Tryz.f33.ntmps)) = some Ahe:=by kernel_rfl
theorem AjS : Tryz.f33.results.toList.mapM (My Tryz.prog) = some [(.t 4)]:=by kernel_rfl
def Yy (a : (List Int) × Int) : List D:=[.sl (a.1.map LS),.int .i64 a.2]
def Yx (ds : List D) : (List Int) × Int:=((uL uI) (ds.getD 0 .top),uI (ds.getD 1 .top))
theorem Wu (a : (List Int) × Int) : Yx (Yy a) = a:=by simp [Yx,Yy,uI,Nt (u:=uI) (en:=LS) (fun _=>rfl)]
def Adu (b : Bool) : D:=.bool b
def Adt (_b : Bool) : List D:=[]
noncomputable def RA : Dw.Spec:=Ml [] .ground Yy Yx (fun a=>Sl a.1 a.2) Adu Adt
set_option maxHeartbeats 4000000 in
theorem ZH : Mk Tryz.prog 33 RA:=by
 refine Mv (Nb) Tryz.func33 (by decide) AjR AjS (np:=2) (by decide) Wu (fun _=>r) (fun _=>r) (by decide)<|?_
 rintro ⟨s1,n2⟩
 show TrE (specs []) Ahe (Mz [] .ground [(.t 4)] Adu Adt) ⟨[(0,.sl (s1.map LS)),(1,.int .i64 n2)],[],262144⟩ (Sl s1 n2)
 refine Mq<|?_
 unfold Ahe Sl
 refine sQ<|rG<|aS r r<|nI<|xS<|sQ<|sQ<|rG<|aS r r<|nI<|xS<|bK<|lP (E:=fun (s : Int) (g : Unit)=>[(0,.sl (s1.map LS)),(1,.int .i64 n2),(5,.int .i64 s)]) (O:=fun s g=>[]) (body:=fun s=>RY s1 n2 s) (s:=0) () ((hE ⟨rfl,r,r,trivial⟩ trivial))<|?_
 rintro i3 ⟨⟩ nn
 try dsimp only
 unfold RY
 refine sQ<|sQ<|rG<|mV r r<|mV r r<|lS r r<|bN (v:=.bool (decide (i3 < (s1.length : Int)))) r r r r r<|nI<|xS<|cD (c:=(decide (i3 < (s1.length : Int)))) r ?_ ?_
 ·refine sK<|xS<|sQ<|bK<|sQ<|rG<|mV r r<|mV r r<|bD fun x_x4 hx_x4=>iS (en:=LS) r r r hx_x4 r<|lF (v:=.int .i64 x_x4) r r r r<|mV r r<|bN (v:=.bool (x_x4 == n2)) r r r r r<|nI<|xS<|cD (c:=(x_x4 == n2)) r ?_ ?_
  ·refine sQ<|rG<|aS r r<|nI<|xS<|rT<|bR<|xR<|lR<|bR<|xR<|Mg (b:=true) r ?_ r r ?_ r
   all_goals first|(simp;done)|(simp;omega)|rfl|(simp [Me,Mc];done)
  ·exact sK<|bM<|xS<|rG<|mV r r<|bN (v:=.int .i64 (IntKind.i64.wrap (i3 + 1))) r r r r r<|aS r r<|nI<|xL (s:=IntKind.i64.wrap (i3 + 1)) () ((hE ⟨rfl,r,r,trivial⟩ trivial))
 ·refine eT<|xE<|lE<|bH<|xS<|sQ<|rG<|aS r r<|nI<|xS<|rT<|Mg (b:=false) r ?_ r r ?_ r
  all_goals first|(simp;done)|(simp;omega)|rfl|(simp [Me,Mc];done)

def AhR : Mm:=(.seq (.reg [⟨(some 4),(.asg (.c .nils) (some ⟨1,3⟩)),none,[]⟩] false) (.seq (.reg [⟨(some 5),(.asg (.c .nils) (some ⟨1,3⟩)),none,[]⟩] false) (.seq (.seq (.reg [P 6 (.asg (C 0) none)] false) (.block 0 (.loop (.seq (.seq (.reg [M 7 6,M 8 0,P 9 (.len false (T 8)),P 10 (.bin .lss (T 7) (T 9))] false) (.cond (T 10) .skip (.exit 0))) (.seq (.block 1 (.seq (.reg [M 13 1,M 14 0,M 15 6,P 16 (.ixA 1 (T 14) (T 15)),P 17 (.ld 1 false (T 16)),P 18 (.call (.c (.clo 33 [])) [(T 13),(T 17)]),P 19 (.un .not (T 18))] false) (.cond (T 19) (.reg [M 20 5,M 21 0,M 22 6,P 23 (.ixA 1 (T 21) (T 22)),P 24 (.ld 1 false (T 23)),⟨(some 25),(.bldS 1 3 (.int .i64 0) 1 [⟨0,(T 24)⟩]),none,[]⟩,P 26 (.app 1 3 8 (T 20) (T 25)),⟨(some 5),(.asg (T 26) (some ⟨1,3⟩)),none,[]⟩] false) .skip))) (.reg [M 11 6,P 12 (.bin .add (T 11) (C 1)),P 6 (.asg (T 12) none)] false)))))) (.seq (.reg [M 27 5,⟨(some 4),(.asg (T 27) (some ⟨1,3⟩)),none,[]⟩] false) .ret))))
theorem Als : (Tryz.f73.body.bind (Mo Tryz.prog Tryz.f73.ntmps)) = some AhR:=by kernel_rfl
theorem Alu : Tryz.f73.results.toList.mapM (My Tryz.prog) = some [(.t 4)]:=by kernel_rfl
def TE (a : (List Int) × (List Int)) : List D:=[.sl (a.1.map LS),.sl (a.2.map LS)]
def Wv (ds : List D) : (List Int) × (List Int):=((uL uI) (ds.getD 0 .top),(uL uI) (ds.getD 1 .top))
theorem Abd (a : (List Int) × (List Int)) : Wv (TE a) = a:=by simp [Wv,TE,Nt (u:=uI) (en:=LS) (fun _=>rfl)]
def AbI (b : (List Int)) : D:=.sl (b.map LS)
def AbH (_b : (List Int)) : List D:=[]
noncomputable def Yz : Dw.Spec:=Ml [] (.row 1 3) TE Wv (fun a=>SX a.1 a.2) AbI AbH
set_option maxHeartbeats 4000000 in
theorem Aeh : Mk Tryz.prog 73 Yz:=by
 refine Mv (Mp (l:=[(33,RA)]) (by simp [ZH])) Tryz.func73 (by decide) Als Alu (np:=2) (by decide) Abd (fun _=>r) (fun _=>r) (by decide)<|?_
 rintro ⟨a1,b2⟩
 show TrE (specs [(33,RA)]) AhR (Mz [] (.row 1 3) [(.t 4)] AbI AbH) ⟨[(0,.sl (a1.map LS)),(1,.sl (b2.map LS))],[],262144⟩ (SX a1 b2)
 refine Mq<|?_
 unfold AhR SX
 refine sQ<|rG<|aN (α:=Int) r LS r<|nI<|xS<|sQ<|rG<|aN (α:=Int) r LS r<|nI<|xS<|sQ<|sQ<|rG<|aS r r<|nI<|xS<|bK<|lP (E:=fun (s : (List Int) × Int) (g : Nat)=>[(0,.sl (a1.map LS)),(1,.sl (b2.map LS)),(5,.osl 5 g 0 s.1.length),(6,.int .i64 s.2)]) (O:=fun s g=>[(5,some (g,⟨false,false,1,3,s.1.map LS⟩))]) (body:=fun s=>Ps a1 b2 s.1 s.2) (s:=(([] : List Int),0)) _ ((hE ⟨rfl,r,r,r,trivial⟩ ⟨rfl,trivial⟩))<|?_
 rintro ⟨out3,i4⟩ v5x1 nn
 try dsimp only
 unfold Ps
 refine sQ<|sQ<|rG<|mV r r<|mV r r<|lS r r<|bN (v:=.bool (decide (i4 < (a1.length : Int)))) r r r r r<|nI<|xS<|cD (c:=(decide (i4 < (a1.length : Int)))) r ?_ ?_
 ·refine sK<|xS<|sQ<|bK<|sQ<|rG<|mV r r<|mV r r<|mV r r<|bD fun x_x5 hx_x5=>iS (en:=LS) r r r hx_x5 r<|lF (v:=.int .i64 x_x5) r r r r<|bD fun r6 hr6=>cG (b2,x_x5) r r r Wu r r (by simp) r hr6 r<|uN (w:=.bool (!r6)) r r r r trivial<|nI<|xS<|cD (c:=(!r6)) r ?_ ?_
  ·exact rG<|mV r r<|mV r r<|mV r r<|bD fun x_x7 hx_x7=>iS (en:=LS) r r r hx_x7 r<|lF (v:=.int .i64 x_x7) r r r r<|bS ([x_x7] : List Int) LS r r r (by simp) r r r<|cK fun hq=>aP (out3) (([x_x7] : List Int)) LS r r r r r r r (by simp) (Mu _ _ r) r r (by simp) (Md _ _ r) (fun _=>r) r hq<|aO (l:=out3 ++ ([x_x7] : List Int)) (en:=LS) r r r r<|nI<|bM<|xS<|rG<|mV r r<|bN (v:=.int .i64 (IntKind.i64.wrap (i4 + 1))) r r r r r<|aS r r<|nI<|xL (s:=(out3 ++ ([x_x7] : List Int),IntKind.i64.wrap (i4 + 1))) _ ((hE ⟨rfl,r,r,r,trivial⟩ ⟨rfl,trivial⟩))
  ·exact sK<|bM<|xS<|rG<|mV r r<|bN (v:=.int .i64 (IntKind.i64.wrap (i4 + 1))) r r r r r<|aS r r<|nI<|xL (s:=(out3,IntKind.i64.wrap (i4 + 1))) _ ((hE ⟨rfl,r,r,r,trivial⟩ ⟨rfl,trivial⟩))
 ·refine eT<|xE<|lE<|bH<|xS<|sQ<|rG<|mV r r<|aO (l:=out3) (en:=LS) r r r r<|nI<|xS<|rT<|MC (b:=out3) r ?_ r r ?_ r ?_ (congrArg D.sl (Md _ _ r)) r
  all_goals first|(simp;done)|(simp;omega)|rfl|(simp [Me,Mc];done)

def AhG : Mm:=(.seq (.reg [P 3 (.box (T 0) 3 33),P 4 (.box (T 1) 1 37),⟨(some 6),(.asg (.c .nils) (some ⟨1,3⟩)),none,[]⟩] false) (.seq (.reg [⟨(some 7),(.asg (.c .nils) (some ⟨1,3⟩)),none,[]⟩] false) (.seq (.reg [P 11 (.ld 3 true (T 3)),M 12 2,P 13 (.call (.c (.clo 41 [])) [(T 11),(T 12)]),⟨(some 8),(.asg (T 13) (some ⟨1,3⟩)),none,[]⟩] false) (.seq (.seq (.reg [P 9 (.asg (C 0) none)] false) (.block 0 (.loop (.seq (.seq (.reg [M 14 9,M 15 8,P 16 (.len false (T 15)),P 17 (.bin .lss (T 14) (T 16))] false) (.cond (T 17) .skip (.exit 0))) (.seq (.block 1 (.seq (.reg [M 20 8,M 21 9,P 22 (.ixA 1 (T 20) (T 21)),P 23 (.ld 1 false (T 22)),P 10 (.asg (T 23) none)] false) (.reg [M 24 7,P 25 (.fldA 2 (T 3)),⟨(some 26),(.ld 1 false (T 25)),none,[1]⟩,M 27 10,⟨(some 28),(.ixA 5 (T 26) (T 27)),none,[2,3]⟩,⟨(some 29),(.ld 5 true (T 28)),none,[4]⟩,P 30 (.fldA 0 (T 4)),⟨(some 31),(.ld 1 false (T 30)),none,[6]⟩,M 32 10,⟨(some 33),(.ixA 1 (T 31) (T 32)),none,[7,8]⟩,⟨(some 34),(.ld 1 false (T 33)),none,[9]⟩,⟨(some 35),(.call (.c (.clo 43 [])) [(T 29),(T 34)]),none,[5,10]⟩,P 36 (.fldA 0 (T 4)),⟨(some 37),(.ld 1 false (T 36)),none,[12]⟩,M 38 2,⟨(some 39),(.ixA 1 (T 37) (T 38)),none,[13,14]⟩,⟨(some 40),(.ld 1 false (T 39)),none,[15]⟩,⟨(some 41),(.call (.c (.clo 73 [])) [(T 35),(T 40)]),none,[11,16,11]⟩,⟨(some 42),(.call (.c (.clo 42 [])) [(T 24),(T 41)]),none,[0,17,17]⟩,⟨(some 7),(.asg (T 42) (some ⟨1,3⟩)),none,[18,18,0,1,2,3,4,5,6,7,8,9,10,11,12,13,14,15,16,17,18]⟩] true))) (.reg [M 18 9,P 19 (.bin .add (T 18) (C 1)),P 9 (.asg (T 19) none)] false)))))) (.seq (.reg [M 43 7,⟨(some 6),(.asg (T 43) (some ⟨1,3⟩)),none,[]⟩] false) .ret)))))
theorem AkV : (Tryz.f61.body.bind (Mo Tryz.prog Tryz.f61.ntmps)) = some AhG:=by kernel_rfl
theorem AkW : Tryz.f61.results.toList.mapM (My Tryz.prog) = some [(.t 6)]:=by kernel_rfl
def UZ (a : LY × Mf × Int) : List D:=[ME a.1,Nf a.2.1,.int .i64 a.2.2]
def UY (ds : List D) : LY × Mf × Int:=(Ny (ds.getD 0 .top),OL (ds.getD 1 .top),uI (ds.getD 2 .top))
theorem ZQ (a : LY × Mf × Int) : UY (UZ a) = a:=by simp [UY,UZ,uI]
def Aay (b : (List Int)) : D:=.sl (b.map LS)
def Aax (_b : (List Int)) : List D:=[]
noncomputable def WG : Dw.Spec:=Ml [] (.row 1 3) UZ UY (fun a=>Rf a.1 a.2.1 a.2.2) Aay Aax
set_option maxHeartbeats 4000000 in
theorem AdC : Mk Tryz.prog 61 WG:=by
 refine Mv (Mp (l:=[(41,Uf),(43,Wy),(73,Yz),(42,Qc)]) (by simp [AbN,Adv,Aeh,Xs])) Tryz.func61 (by decide) AkV AkW (np:=3) (by decide) ZQ (fun _=>r) (fun _=>r) (by decide)<|?_
 rintro ⟨f1,l2,k3⟩
 show TrE (specs [(41,Uf),(43,Wy),(73,Yz),(42,Qc)]) AhG (Mz [] (.row 1 3) [(.t 6)] Aay Aax) ⟨[(0,.agg [.int .i64 f1.Params,.sl (f1.Slots.map LZ),.sl (f1.Code.map LW)]),(1,.agg [.sl (l2.Out.map (eL LS))]),(2,.int .i64 k3)],[],262144⟩ (Rf f1 l2 k3)
 refine Mq<|?_
 unfold AhG Rf
 refine sQ<|rG<|bX r r r r r<|bX r r r r r<|aN (α:=Int) r LS r<|nI<|xS<|sQ<|rG<|aN (α:=Int) r LS r<|nI<|xS<|sQ<|rG<|lO (v:=.agg [.int .i64 f1.Params,.sl (f1.Slots.map LZ),.sl (f1.Code.map LW)]) (z:=.agg [.int .i64 f1.Params,.sl (f1.Slots.map LZ),.sl (f1.Code.map LW)]) r r r r r r<|mV r r<|bD fun r4 hr4=>cR (l:=r4) (en:=LS) (f1,k3) r r r YB r r (by simp) r hr4 r<|aO (l:=r4) (en:=LS) r r r r<|nI<|xS<|sQ<|sQ<|rG<|aS r r<|nI<|xS<|bK<|lP (E:=fun (s : (List Int) × Int) (g : Nat × Nat × Nat × Nat)=>[(2,.int .i64 k3),(3,.optr 3 g.1 0 0),(4,.optr 4 g.2.1 0 0),(7,.osl 7 g.2.2.1 0 s.1.length),(8,.osl 8 g.2.2.2 0 r4.length),(9,.int .i64 s.2)]) (O:=fun s g=>[(3,some (g.1,⟨false,true,3,33,[.agg [.int .i64 f1.Params,.sl (f1.Slots.map LZ),.sl (f1.Code.map LW)]]⟩)),(4,some (g.2.1,⟨false,true,1,37,[.agg [.sl (l2.Out.map (eL LS))]]⟩)),(7,some (g.2.2.1,⟨false,false,1,3,s.1.map LS⟩)),(8,some (g.2.2.2,⟨false,false,1,3,r4.map LS⟩))]) (body:=fun s=>Pt r4 f1 l2 k3 s.1 s.2) (s:=(([] : List Int),0)) (_,_,_,_) ((hE ⟨rfl,r,r,r,r,r,trivial⟩ ⟨rfl,r,r,r,trivial⟩))<|?_
 rintro ⟨out5,i6⟩ ⟨v3x1,v4x1,v7x1,v8x1⟩ nn
 try dsimp only
 unfold Pt
 refine sQ<|sQ<|rG<|mV r r<|mV r r<|lW r r<|bN (v:=.bool (decide (i6 < (r4.length : Int)))) r r r r r<|nI<|xS<|cD (c:=(decide (i6 < (r4.length : Int)))) r ?_ ?_
 ·exact sK<|xS<|sQ<|bK<|sQ<|rG<|mV r r<|mV r r<|cK fun hq=>iO (l:=r4) (en:=LS) r r r r r hq<|bD fun next_e7 hnext_e7=>lO (v:=.int .i64 next_e7) (z:=LS next_e7) r r r (Nn hnext_e7) r r<|aS r r<|nI<|xS<|rG<|mV r r<|fA r r<|lO (v:=.sl (f1.Code.map LW)) (z:=.agg [.int .i64 f1.Params,.sl (f1.Slots.map LZ),.sl (f1.Code.map LW)]) r r r r r r<|mV r r<|bD fun x_x8 hx_x8=>iS (en:=LW) r r r hx_x8 r<|lF (v:=.agg [.int .i64 x_x8.Op,.int .i64 x_x8.A,.int .i64 x_x8.B,.int .i64 x_x8.C,.int .u64 x_x8.Imm]) r r r r<|fA r r<|lO (v:=.sl (l2.Out.map (eL LS))) (z:=.agg [.sl (l2.Out.map (eL LS))]) r r r r r r<|mV r r<|bD fun x_x9 hx_x9=>iS (en:=(eL LS)) r r r hx_x9 r<|lF (v:=.sl (x_x9.map LS)) r r r r<|bD fun r10 hr10=>cR (l:=r10) (en:=LS) (x_x8,x_x9) r r r AaN r r (by simp) r hr10 r<|fA r r<|lO (v:=.sl (l2.Out.map (eL LS))) (z:=.agg [.sl (l2.Out.map (eL LS))]) r r r r r r<|mV r r<|bD fun x_x11 hx_x11=>iS (en:=(eL LS)) r r r hx_x11 r<|lF (v:=.sl (x_x11.map LS)) r r r r<|bD fun r12 hr12=>cR (l:=r12) (en:=LS) (r10,x_x11) r r r Abd r r (by simp) (by first | rfl | (simp only [Mw,MB]; rfl) | simp [TE]) hr12 r<|bD fun r13 hr13=>cR (l:=r13) (en:=LS) (out5,r12) r r r Sa r r (by simp) (by first | rfl | (simp only [Mw,MB]; rfl) | simp [OZ]) hr13 r<|aO (l:=r13) (en:=LS) r r r r<|Mj (by kernel_rfl)<|bM<|xS<|rG<|mV r r<|bN (v:=.int .i64 (IntKind.i64.wrap (i6 + 1))) r r r r r<|aS r r<|nI<|xL (s:=(r13,IntKind.i64.wrap (i6 + 1))) (_,_,_,_) ((hE ⟨rfl,r,r,r,r,r,trivial⟩ ⟨rfl,r,r,r,trivial⟩))
 ·refine eT<|xE<|lE<|bH<|xS<|sQ<|rG<|mV r r<|aO (l:=out5) (en:=LS) r r r r<|nI<|xS<|rT<|MC (b:=out5) r ?_ r r ?_ r ?_ (congrArg D.sl (Md _ _ r)) r
  all_goals first|(simp;done)|(simp;omega)|rfl|(simp [Me,Mc];done)

def Ahq : Mm:=(.seq (.reg [P 2 (.box (T 0) 3 33),P 3 (.box (T 1) 1 37),P 4 (.asg (C 0) none),P 5 (.asg (C 0) none),P 6 (.asg (.c (.bool false)) none)] false) (.seq (.seq (.reg [P 9 (.ld 3 true (T 2)),P 10 (.ld 1 true (T 3)),P 11 (.call (.c (.clo 46 [])) [(T 9),(T 10)]),P 12 (.un .not (T 11))] false) (.cond (T 12) (.seq (.reg [P 4 (.asg (C 0) none),P 5 (.asg (C 0) none),P 6 (.asg (.c (.bool false)) none)] false) .ret) .skip)) (.seq (.seq (.reg [P 7 (.asg (C 0) none)] false) (.block 0 (.loop (.seq (.seq (.reg [M 13 7,P 14 (.fldA 2 (T 2)),P 15 (.ld 1 false (T 14)),P 16 (.len false (T 15)),P 17 (.bin .lss (T 13) (T 16))] false) (.cond (T 17) .skip (.exit 0))) (.seq (.block 1 (.seq (.reg [P 20 (.ld 3 true (T 2)),P 21 (.ld 1 true (T 3)),M 22 7,P 23 (.call (.c (.clo 61 [])) [(T 20),(T 21),(T 22)]),⟨(some 8),(.asg (T 23) (some ⟨1,3⟩)),none,[]⟩] false) (.seq (.reg [M 24 8,P 25 (.len false (T 24)),P 26 (.bin .gtr (T 25) (C 0))] false) (.cond (T 26) (.seq (.reg [M 27 7,M 28 8,⟨(some 29),(.ixA 1 (T 28) (C 0)),none,[1]⟩,⟨(some 30),(.ld 1 false (T 29)),none,[2]⟩,⟨(some 4),(.asg (T 27) none),none,[0,0]⟩,⟨(some 5),(.asg (T 30) none),none,[3,4,0,1,2,3,4]⟩,⟨(some 6),(.asg (.c (.bool true)) none),none,[5,0,1,2,3,4,5]⟩] true) .ret) .skip)))) (.reg [M 18 7,P 19 (.bin .add (T 18) (C 1)),P 7 (.asg (T 19) none)] false)))))) (.seq (.reg [P 4 (.asg (C 0) none),P 5 (.asg (C 0) none),P 6 (.asg (.c (.bool false)) none)] false) .ret))))
theorem Akp : (Tryz.f45.body.bind (Mo Tryz.prog Tryz.f45.ntmps)) = some Ahq:=by kernel_rfl
theorem Akq : Tryz.f45.results.toList.mapM (My Tryz.prog) = some [(.t 4),(.t 5),(.t 6)]:=by kernel_rfl
def WE (a : LY × Mf) : List D:=[ME a.1,Nf a.2]
def WD (ds : List D) : LY × Mf:=(Ny (ds.getD 0 .top),OL (ds.getD 1 .top))
theorem Abi (a : LY × Mf) : WD (WE a) = a:=by simp [WD,WE]
def AbV (b : Int × Int × Bool) : D:=.tup [.int .i64 b.1,.int .i64 b.2.1,.bool b.2.2]
def AbU (_b : Int × Int × Bool) : List D:=[]
noncomputable def YF : Dw.Spec:=Ml [] .ground WE WD (fun a=>Ta a.1 a.2) AbV AbU
set_option maxHeartbeats 4000000 in
theorem Aek : Mk Tryz.prog 45 YF:=by
 refine Mv (Mp (l:=[(46,SQ),(61,WG)]) (by simp [Abj,AdC])) Tryz.func45 (by decide) Akp Akq (np:=2) (by decide) Abi (fun _=>r) (fun _=>r) (by decide)<|?_
 rintro ⟨f1,l2⟩
 show TrE (specs [(46,SQ),(61,WG)]) Ahq (Mz [] .ground [(.t 4),(.t 5),(.t 6)] AbV AbU) ⟨[(0,.agg [.int .i64 f1.Params,.sl (f1.Slots.map LZ),.sl (f1.Code.map LW)]),(1,.agg [.sl (l2.Out.map (eL LS))])],[],262144⟩ (Ta f1 l2)
 refine Mq<|?_
 unfold Ahq Ta
 refine sQ<|rG<|bX r r r r r<|bX r r r r r<|aS r r<|aS r r<|aS r r<|nI<|xS<|sQ<|sQ<|rG<|lO (v:=.agg [.int .i64 f1.Params,.sl (f1.Slots.map LZ),.sl (f1.Code.map LW)]) (z:=.agg [.int .i64 f1.Params,.sl (f1.Slots.map LZ),.sl (f1.Code.map LW)]) r r r r r r<|lO (v:=.agg [.sl (l2.Out.map (eL LS))]) (z:=.agg [.sl (l2.Out.map (eL LS))]) r r r r r r<|bD fun r3 hr3=>cG (f1,l2) r r r XD r r (by simp) r hr3 r<|uN (w:=.bool (!r3)) r r r r trivial<|nI<|xS<|cD (c:=(!r3)) r ?_ ?_
 ·refine sQ<|rG<|aS r r<|aS r r<|aS r r<|nI<|xS<|rT<|xR<|MF (b:=(0,0,false)) r ?_ r r ?_ r (by decide)
  all_goals first|(simp;done)|(simp;omega)|rfl|(simp [Me,Mc];done)
 ·refine sK<|xS<|sQ<|sQ<|rG<|aS r r<|nI<|xS<|bK<|lP (E:=fun (s : Int) (g : Nat × Nat)=>[(2,.optr 2 g.1 0 0),(3,.optr 3 g.2 0 0),(7,.int .i64 s)]) (O:=fun s g=>[(2,some (g.1,⟨false,true,3,33,[.agg [.int .i64 f1.Params,.sl (f1.Slots.map LZ),.sl (f1.Code.map LW)]]⟩)),(3,some (g.2,⟨false,true,1,37,[.agg [.sl (l2.Out.map (eL LS))]]⟩))]) (body:=fun s=>Ut f1 l2 s) (s:=0) (_,_) ((hE ⟨rfl,r,r,trivial⟩ ⟨rfl,r,trivial⟩))<|?_
  rintro k4 ⟨v2x1,v3x1⟩ nn
  try dsimp only
  unfold Ut
  refine sQ<|sQ<|rG<|mV r r<|fA r r<|lO (v:=.sl (f1.Code.map LW)) (z:=.agg [.int .i64 f1.Params,.sl (f1.Slots.map LZ),.sl (f1.Code.map LW)]) r r r r r r<|lS r r<|bN (v:=.bool (decide (k4 < (f1.Code.length : Int)))) r r r r r<|nI<|xS<|cD (c:=(decide (k4 < (f1.Code.length : Int)))) r ?_ ?_
  ·refine sK<|xS<|sQ<|bK<|sQ<|rG<|lO (v:=.agg [.int .i64 f1.Params,.sl (f1.Slots.map LZ),.sl (f1.Code.map LW)]) (z:=.agg [.int .i64 f1.Params,.sl (f1.Slots.map LZ),.sl (f1.Code.map LW)]) r r r r r r<|lO (v:=.agg [.sl (l2.Out.map (eL LS))]) (z:=.agg [.sl (l2.Out.map (eL LS))]) r r r r r r<|mV r r<|bD fun r5 hr5=>cR (l:=r5) (en:=LS) (f1,l2,k4) r r r ZQ r r (by simp) r hr5 r<|aO (l:=r5) (en:=LS) r r r r<|nI<|xS<|sQ<|rG<|mV r r<|lW r r<|bN (v:=.bool (decide ((r5.length : Int) > 0))) r r r r r<|nI<|xS<|cD (c:=(decide ((r5.length : Int) > 0))) r ?_ ?_
   ·refine sQ<|rG<|mV r r<|mV r r<|cK fun hq=>iO (l:=r5) (en:=LS) r r r r r hq<|bD fun m_e6 hm_e6=>lO (v:=.int .i64 m_e6) (z:=LS m_e6) r r r (Nn hm_e6) r r<|aS r r<|aS r r<|aS r r<|Mj (by kernel_rfl)<|xS<|rT<|bR<|xR<|lR<|bR<|xR<|MF (b:=(k4,m_e6,true)) r ?_ r r ?_ r (by decide)
    all_goals first|(simp;done)|(simp;omega)|rfl|(simp [Me,Mc];done)
   ·exact sK<|bM<|xS<|rG<|mV r r<|bN (v:=.int .i64 (IntKind.i64.wrap (k4 + 1))) r r r r r<|aS r r<|nI<|xL (s:=IntKind.i64.wrap (k4 + 1)) (_,_) ((hE ⟨rfl,r,r,trivial⟩ ⟨rfl,r,trivial⟩))
  ·refine eT<|xE<|lE<|bH<|xS<|sQ<|rG<|aS r r<|aS r r<|aS r r<|nI<|xS<|rT<|MF (b:=(0,0,false)) r ?_ r r ?_ r (by decide)
   all_goals first|(simp;done)|(simp;omega)|rfl|(simp [Me,Mc];done)

end Go.Proofs.YtfpgidpffhmadaaGreatDoor
